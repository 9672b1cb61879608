/- Lemmas and walks of this proof (part 2). -/
import Derived.Laws.EntriesVeiled
import Derived.Test.YtphkionjjhhhlaaGreatCGrids1
set_option linter.unusedVariables false
set_option linter.unusedSimpArgs false
section
namespace Go.Proofs.YtphkionjjhhhlaaGreat.Q
open Go.RowKit Go.Proofs.YtphkionjjhhhlaaGreatW.PrintWords Go.Proofs.YtphkionjjhhhlaaGreatW.PrintLast Go.Proofs.YtphkionjjhhhlaaGreatW.PrintMore
def turnedF (a0 a1 a2 : Int) (l : List (List Int)) (q : Nat) (fl : Bool) : Int × Int × Int × List (List Int) :=
 let s := turnN q (a0.toNat, a1.toNat, l)
 ((s.1 : Int), (s.2.1 : Int), a2, if fl then s.2.2.map (flipP s.1 s.2.1) else s.2.2)
def item_turned.f (a0_0 a0_1 a0_2 : Int) (l0_3 : List (List Int)) (a1 : Int) (a2 : Bool) : Option (Int × Int × Int × List (List Int)) :=
 if (1 ≤ a0_0 ∧ a0_0 ≤ 1000 ∧ 1 ≤ a0_1 ∧ a0_1 ≤ 1000 ∧ 0 < l0_3.length ∧ l0_3.length ≤ 1000 ∧ 0 ≤ a1 ∧ a1 ≤ 3) ∧ (l0_3.all fun p => decide (p.length = a0_0.toNat * a0_1.toNat)) = true then some (turnedF a0_0 a0_1 a0_2 l0_3 a1.toNat a2) else none
def item_turned.T14 : Bool × List (List Nat × List Nat) := (true, [([], []), ([0], [0]), ([], []), ([1, 2], [1, 2]), ([3], [3]), ([], []), ([], []), ([6], [6]), ([5, 7], [5, 7]), ([], []), ([8, 9], [8, 9]), ([], []), ([], []), ([12], [12]), ([13], [13]), ([], []), ([14, 15], [14, 15]), ([], []), ([17], [17]), ([16, 18], [16, 18]), ([], []), ([19, 20], [19, 20]), ([11, 21], [11, 21]), ([22], [22]), ([4, 10, 0, 1, 2, 3, 4, 5, 6, 7, 8, 9, 10, 11, 12, 13, 14, 15, 16, 17, 18, 19, 20, 21, 22, 23], [4, 10]), ([24, 23, 0, 1, 2, 3, 4, 5, 6, 7, 8, 9, 10, 11, 12, 13, 14, 15, 16, 17, 18, 19, 20, 21, 22, 23], [23, 24])])
def item_turned.B14 : List Nat := [0, 1, 0, 7, 15, 0, 0, 64, 224, 0, 992, 0, 0, 4096, 12288, 0, 61440, 0, 131072, 520192, 0, 2093056, 4192256, 8386560, 16777215, 33554431]
theorem item_turned.tab14 : rtab .any (opsOf Tryz.f49 14) = item_turned.T14 := by kernel_rfl
theorem item_turned.bits14 : waitsOk item_turned.T14.2 item_turned.B14 = true := by kernel_rfl
set_option maxHeartbeats 32000000 in
set_option maxRecDepth 100000 in
theorem item_turned.calls (a0_0 : Int) (a0_1 : Int) (a0_2 : Int) (A0_3 : Option Addr) (c0_3 : Nat) (l0_3 : List (List Int)) (a1 : Int) (a2 : Bool) (r1 : Int) (r2 : Int) (r3 : Int) (r4 : List (List Int)) (w : World) (hr0_3 : Kd.C (Kd.slice 3 (Kd.int .i64)) w A0_3 l0_3.length l0_3) (hc0_3 : l0_3.length ≤ c0_3) (h : item_turned.f a0_0 a0_1 a0_2 l0_3 a1 a2 = some (r1, r2, r3, r4)) :
  Calls Tryz.prog 49 #[.agg #[.int .i64 a0_0, .int .i64 a0_1, .int .i64 a0_2, .slice A0_3 l0_3.length c0_3], .int .i64 a1, .bool a2] w fun e w' => ∃ v3_ : Value, e = .returned (.agg #[.int .i64 r1, .int .i64 r2, .int .i64 r3, v3_]) ∧ Kd.S (Kd.slice 3 (Kd.int .i64)) 39 w' w.heap.size (fun _ => True) v3_ r4 ∧ Below w.heap.size w w' := by
 unfold item_turned.f at h
 split at h
 case isFalse => cases h
 case isTrue hk =>
 have HC := As0.mk hc0_3
 have HK := As0.mk hk
 have HR := As0.mk hr0_3
 have hall : ∀ p ∈ l0_3, p.length = a0_0.toNat * a0_1.toNat := fun p hp => by simpa using List.all_eq_true.1 hk.2 p hp
 have hP : a0_0.toNat * a0_1.toNat ≤ 1000 * 1000 := Nat.mul_le_mul (by omega) (by omega)
 have HCL : As0 (item_clone.f a0_0 a0_1 a0_2 l0_3 = some (a0_0, a0_1, a0_2, l0_3)) := ⟨if_pos ⟨by omega, List.all_eq_true.2 fun p hp => by have := hall p hp; simp; omega⟩⟩
 have HOK : As0 (okPic (a0_0.toNat, a0_1.toNat, l0_3)) := ⟨⟨by show 1 ≤ a0_0.toNat; omega, by show a0_0.toNat ≤ 1000; omega, by show 1 ≤ a0_1.toNat; omega, by show a0_1.toNat ≤ 1000; omega, by show l0_3.length ≤ 1000; omega, hall⟩⟩
 have HF := As0.mk (Option.some.inj h)
 unfold turnedF at HF
 obtain ⟨cw0, hcw0⟩ : ∃ c : Nat, c = a0_0.toNat := ⟨_, rfl⟩
 obtain ⟨ch0, hch0⟩ : ∃ c : Nat, c = a0_1.toNat := ⟨_, rfl⟩
 rw [← hcw0, ← hch0] at HOK
 have EW : As0 (a0_0 = (cw0 : Int) ∧ a0_1 = (ch0 : Int)) := ⟨by omega, by omega⟩
 rw [← hcw0, ← hch0] at HF
 obtain ⟨fin, hfin⟩ : ∃ s, s = turnN a1.toNat (cw0, ch0, l0_3) := ⟨_, rfl⟩
 rw [← hfin] at HF
 have HFIN := As0.mk hfin.symm
 clear hfin hcw0 hch0 hall hP hk hr0_3 h hc0_3
 have hu24 := Tryz.underlying24
 have hu39 := Tryz.underlying39
 have hu22 := Tryz.underlying22
 go_enter Tryz.func49, Tryz.ntmps49
 go_wp2_with (first | ((with_reducible refine gdt (N := 3) rfl ?_); refine bxe ?hg (N := 3) ?hd (cs := #[.int .i64 a0_0, .int .i64 a0_1, .int .i64 a0_2, .slice A0_3 l0_3.length c0_3]) (t := 24) ?hr ?_; (case hd => rfl); (case hg => rfl); (case hr => first | (go_simp; done) | (go_simp; rfl)); intro g3 hgg3 w2 hboxg3 hbg3; have BKg3 := As0.mk hboxg3; have HB2 := As0.mk hbg3; have k0 : w2.cell? ⟨g3, 0, none⟩ = some (.int .i64 a0_0) := (bkc BKg3.out 0).trans rfl; have k1 : w2.cell? ⟨g3, 1, none⟩ = some (.int .i64 a0_1) := (bkc BKg3.out 1).trans rfl; have k2 : w2.cell? ⟨g3, 2, none⟩ = some (.int .i64 a0_2) := (bkc BKg3.out 2).trans rfl; have k3 : w2.cell? ⟨g3, 3, none⟩ = some (.slice A0_3 l0_3.length c0_3) := (bkc BKg3.out 3).trans rfl; clear hboxg3 hbg3 hgg3) | ((with_reducible refine gdt (N := 6) rfl ?_); refine bxe ?hg (N := 6) ?hd (cs := #[.int .i64 0, .int .i64 0, .int .i64 0, .slice none 0 0]) (t := 24) ?hr ?_; (case hd => rfl); (case hg => rfl); (case hr => first | (go_simp; done) | (go_simp; rfl)); intro g6 hgg6 w3 hboxg6 hbg6; have BKg6 := As0.mk hboxg6; have GE6 : As0 (w.heap.size ≤ g6) := ⟨by have := HB2.out.size; omega⟩; have HB3 := As0.mk (pwt HB2.out hbg6); replace BKg3 := As0.mk (bkb BKg3.out hbg6); clear k0 k1 k2 k3; have k0 : w3.cell? ⟨g3, 0, none⟩ = some (.int .i64 a0_0) := (bkc BKg3.out 0).trans rfl; have k1 : w3.cell? ⟨g3, 1, none⟩ = some (.int .i64 a0_1) := (bkc BKg3.out 1).trans rfl; have k2 : w3.cell? ⟨g3, 2, none⟩ = some (.int .i64 a0_2) := (bkc BKg3.out 2).trans rfl; have k3 : w3.cell? ⟨g3, 3, none⟩ = some (.slice A0_3 l0_3.length c0_3) := (bkc BKg3.out 3).trans rfl; clear hboxg6 hbg6 hgg6) | (go_at_call 67; (with_reducible refine (item_clone.calls a0_0 a0_1 a0_2 A0_3 c0_3 l0_3 a0_0 a0_1 a0_2 l0_3 _ (Kd.C_below HR.out HB3.out) HC.out HCL.out).mono ?_); rintro e w4 ⟨v4, rfl, hs4, hb4⟩; obtain ⟨gO, cO, rfl, _, _, _⟩ := Kd.S_form hs4 HK.out.1.2.2.2.2.1; have HS4 := As0.mk (Kd.S_lower hs4 HB3.out.size); replace BKg6 := As0.mk (bkb BKg6.out hb4); have HB4 := As0.mk (pwt HB3.out hb4); clear hs4 hb4) | ((with_reducible refine gdt (N := 7) rfl ?_); refine bxe ?hg (N := 7) ?hd (cs := #[.int .i64 0, .int .i64 0, .int .i64 0, .slice none 0 0]) (t := 24) ?hr ?_; (case hd => rfl); (case hg => rfl); (case hr => first | (go_simp; done) | (go_simp; rfl)); intro g7 hgg7 w5 hboxg7 hbg7; have BKg7 := As0.mk hboxg7; have GE7 : As0 (w.heap.size ≤ g7) := ⟨by have := HB4.out.size; omega⟩; have NE67 : As0 (g6 ≠ g7) := ⟨by have := blk_lt BKg6.out; omega⟩; replace BKg6 := As0.mk (bkb BKg6.out hbg7); have HB5 := As0.mk (pwt HB4.out hbg7); have HS5 := As0.mk (Kd.S_below HS4.out hbg7); have z0 : w5.cell? ⟨g7, 0, none⟩ = some (.int .i64 0) := (bkc BKg7.out 0).trans rfl; have z1 : w5.cell? ⟨g7, 1, none⟩ = some (.int .i64 0) := (bkc BKg7.out 1).trans rfl; have z2 : w5.cell? ⟨g7, 2, none⟩ = some (.int .i64 0) := (bkc BKg7.out 2).trans rfl; have z3 : w5.cell? ⟨g7, 3, none⟩ = some (.slice none 0 0) := (bkc BKg7.out 3).trans rfl; have fz0 := bkz BKg7.out 0; have fz1 := bkz BKg7.out 1; have fz2 := bkz BKg7.out 2; have fz3 := bkz BKg7.out 3; clear hboxg7 hbg7 hgg7))
 clear z0 z1 z2 z3 fz0 fz1 fz2 fz3 k0 k1 k2 k3
 go_loopg [19] a1.toNat (fun kq v19 w' => ∃ (i : Int) (cw ch : Nat) (ps : List (List Int)) (gO cO : Nat), v19 = .int .i64 i ∧ As0 (0 ≤ i ∧ i + kq = a1) ∧ As0 (okPic (cw, ch, ps) ∧ ps.length = l0_3.length ∧ turnN kq (cw, ch, ps) = fin) ∧ As0 (Kd.S (Kd.slice 3 (Kd.int .i64)) 39 w' w.heap.size (fun _ => True) (.slice (some ⟨gO, 0, none⟩) l0_3.length cO) ps) ∧ As0 (w'.heap[g7]? = some (.cells #[.int .i64 (cw : Int), .int .i64 (ch : Int), .int .i64 a0_2, .slice (some ⟨gO, 0, none⟩) l0_3.length cO] 24 (0, 0))) ∧ As0 (w'.heap[g6]? = some (.cells #[.int .i64 0, .int .i64 0, .int .i64 0, .slice none 0 0] 24 (0, 0))) ∧ As0 (Below w.heap.size w w'))
 case atStart => exact ⟨0, cw0, ch0, l0_3, gO, cO, rfl, ⟨by omega, by have := HK.out; omega⟩, ⟨HOK.out, rfl, HFIN.out⟩, ⟨four_S HS5.out BKg7.out (by decide) _ _ _ _⟩, ⟨by rw [← EW.out.1, ← EW.out.2]; exact four_put BKg7.out _ _ _ _⟩, ⟨four_far BKg6.out NE67.out _ _ _ _⟩, ⟨four_below HB5.out GE7.out _ _ _ _⟩⟩
 case round =>
  clear BKg3 BKg6 BKg7 HS4 HS5 HB5 HB4 HB3 HB2 HOK HFIN EW
  obtain ⟨i, cw, ch, ps, gO, cO, rfl, HI, HP, HSO, BKg7, BKg6, HB⟩ := hrel
  have HPB : As0 (1 ≤ cw ∧ cw ≤ 1000 ∧ 1 ≤ ch ∧ ch ≤ 1000) := ⟨HP.out.1.1, HP.out.1.2.1, HP.out.1.2.2.1, HP.out.1.2.2.2.1⟩
  cases gk with
  | zero =>
   have hge : decide (i < a1) = false := by have := HI.out; simp; omega
   obtain rfl : (cw, ch, ps) = fin := HP.out.2.2
   have HFF := HF.out
   cases a2 with
   | false =>
    simp only [Bool.false_eq_true, if_false, Prod.mk.injEq] at HFF
    obtain ⟨h1, h2, h3, h4⟩ := HFF
    subst h1; subst h2; subst h3; subst h4
    have k0 : wr.cell? ⟨g7, 0, none⟩ = some (.int .i64 (cw : Int)) := (bkc BKg7.out 0).trans rfl
    have k1 : wr.cell? ⟨g7, 1, none⟩ = some (.int .i64 (ch : Int)) := (bkc BKg7.out 1).trans rfl
    have k2 : wr.cell? ⟨g7, 2, none⟩ = some (.int .i64 a0_2) := (bkc BKg7.out 2).trans rfl
    have k3 : wr.cell? ⟨g7, 3, none⟩ = some (.slice (some ⟨gO, 0, none⟩) l0_3.length cO) := (bkc BKg7.out 3).trans rfl
    have z0 : wr.cell? ⟨g6, 0, none⟩ = some (.int .i64 0) := (bkc BKg6.out 0).trans rfl
    have z1 : wr.cell? ⟨g6, 1, none⟩ = some (.int .i64 0) := (bkc BKg6.out 1).trans rfl
    have z2 : wr.cell? ⟨g6, 2, none⟩ = some (.int .i64 0) := (bkc BKg6.out 2).trans rfl
    have z3 : wr.cell? ⟨g6, 3, none⟩ = some (.slice none 0 0) := (bkc BKg6.out 3).trans rfl
    have f0 := bkz BKg6.out 0
    have f1 := bkz BKg6.out 1
    have f2 := bkz BKg6.out 2
    have f3 := bkz BKg6.out 3
    go_wp2
    refine bodyPost_ret (results_cell_row rfl _ _ g6 24 #[.int .i64 (cw : Int), .int .i64 (ch : Int), .int .i64 a0_2, .slice (some ⟨gO, 0, none⟩) l0_3.length cO] (0, 0) _ rfl (four_put BKg6.out _ _ _ _) Tryz.underlying24 rfl (by kernel_rfl)) rfl ?_
    exact ⟨_, rfl, four_S HSO.out BKg6.out (by decide) _ _ _ _, four_below HB.out GE6.out _ _ _ _⟩
   | true =>
    simp only [if_true, Prod.mk.injEq] at HFF
    obtain ⟨h1, h2, h3, h4⟩ := HFF
    subst h1; subst h2; subst h3; subst h4
    have k0 : wr.cell? ⟨g7, 0, none⟩ = some (.int .i64 (cw : Int)) := (bkc BKg7.out 0).trans rfl
    have k1 : wr.cell? ⟨g7, 1, none⟩ = some (.int .i64 (ch : Int)) := (bkc BKg7.out 1).trans rfl
    have k2 : wr.cell? ⟨g7, 2, none⟩ = some (.int .i64 a0_2) := (bkc BKg7.out 2).trans rfl
    have k3 : wr.cell? ⟨g7, 3, none⟩ = some (.slice (some ⟨gO, 0, none⟩) l0_3.length cO) := (bkc BKg7.out 3).trans rfl
    go_wp2
    clear k0 k1 k2 k3
    go_loopg [83] l0_3.length (fun kq v83 w' => ∃ (p : Int), v83 = .int .i64 p ∧ As0 (0 ≤ p ∧ p + kq = l0_3.length) ∧ As0 (Kd.S (Kd.slice 3 (Kd.int .i64)) 39 w' w.heap.size (fun _ => True) (.slice (some ⟨gO, 0, none⟩) l0_3.length cO) (fx cw ch ps p.toNat 0)) ∧ As0 (w'.heap[g7]? = some (.cells #[.int .i64 (cw : Int), .int .i64 (ch : Int), .int .i64 a0_2, .slice (some ⟨gO, 0, none⟩) l0_3.length cO] 24 (0, 0))) ∧ As0 (w'.heap[g6]? = some (.cells #[.int .i64 0, .int .i64 0, .int .i64 0, .slice none 0 0] 24 (0, 0))) ∧ As0 (Below w.heap.size w w'))
    case atStart => exact ⟨0, rfl, ⟨by omega, by omega⟩, ⟨by rw [show (0 : Int).toNat = 0 from rfl, fx_zero]; exact HSO.out⟩, BKg7, BKg6, HB⟩
    case round =>
     clear HSO BKg7 BKg6 HB hge
     obtain ⟨p, rfl, HPI, HSO, BKg7, BKg6, HB⟩ := hrel
     cases gk with
     | zero =>
      have hge : decide (p < (l0_3.length : Int)) = false := by have := HPI.out; simp; omega
      have hpn : p.toNat = ps.length := by have := HPI.out; have := HP.out.2.1; omega
      rw [hpn, fx_last] at HSO
      have k0 : wr.cell? ⟨g7, 0, none⟩ = some (.int .i64 (cw : Int)) := (bkc BKg7.out 0).trans rfl
      have k1 : wr.cell? ⟨g7, 1, none⟩ = some (.int .i64 (ch : Int)) := (bkc BKg7.out 1).trans rfl
      have k2 : wr.cell? ⟨g7, 2, none⟩ = some (.int .i64 a0_2) := (bkc BKg7.out 2).trans rfl
      have k3 : wr.cell? ⟨g7, 3, none⟩ = some (.slice (some ⟨gO, 0, none⟩) l0_3.length cO) := (bkc BKg7.out 3).trans rfl
      have z0 : wr.cell? ⟨g6, 0, none⟩ = some (.int .i64 0) := (bkc BKg6.out 0).trans rfl
      have z1 : wr.cell? ⟨g6, 1, none⟩ = some (.int .i64 0) := (bkc BKg6.out 1).trans rfl
      have z2 : wr.cell? ⟨g6, 2, none⟩ = some (.int .i64 0) := (bkc BKg6.out 2).trans rfl
      have z3 : wr.cell? ⟨g6, 3, none⟩ = some (.slice none 0 0) := (bkc BKg6.out 3).trans rfl
      have f0 := bkz BKg6.out 0
      have f1 := bkz BKg6.out 1
      have f2 := bkz BKg6.out 2
      have f3 := bkz BKg6.out 3
      go_wp2
      refine bodyPost_ret (results_cell_row rfl _ _ g6 24 #[.int .i64 (cw : Int), .int .i64 (ch : Int), .int .i64 a0_2, .slice (some ⟨gO, 0, none⟩) l0_3.length cO] (0, 0) _ rfl (four_put BKg6.out _ _ _ _) Tryz.underlying24 rfl (by kernel_rfl)) rfl ?_
      exact ⟨_, rfl, four_S HSO.out BKg6.out (by decide) _ _ _ _, four_below HB.out GE6.out _ _ _ _⟩
     | succ kq2 =>
      have p0 : 0 ≤ p := by have := HPI.out; omega
      have p1 : p < (l0_3.length : Int) := by have := HPI.out; omega
      have hpl : p.toNat < ps.length := by have := HP.out.2.1; omega
      have hlp : ps[p.toNat]? = some ps[p.toNat] := List.getElem?_eq_getElem hpl
      have hln : ps[p.toNat].length = cw * ch := HP.out.1.2.2.2.2.2 _ (List.getElem_mem hpl)
      have hNpos : As0 (0 < cw * ch ∧ cw * ch ≤ 1000000) := ⟨Nat.mul_pos (by have := HPB.out; omega) (by have := HPB.out; omega), by have := Nat.mul_le_mul HP.out.1.2.1 HP.out.1.2.2.2.1; exact this⟩
      generalize ps[p.toNat] = lp at hlp hln
      have HLP := As0.mk (And.intro hlp hln)
      obtain ⟨gp, cp, _, kp, _, _, _, _, _, _, _, _, _⟩ := S_row HSO.out p p0 p1 _ (fx_row cw ch ps p.toNat 0 lp hlp) (by rw [flipT_length]; have := hNpos.out; omega)
      rw [flipT_length, hln] at kp
      have KP := As0.mk kp
      clear hlp hln hpl
      have pd : decide (p < (l0_3.length : Int)) = true := decide_eq_true p1
      have pd0 : decide (0 ≤ p) = true := decide_eq_true p0
      replace p0 := eq_true p0
      replace p1 := eq_true p1
      have k0 : wr.cell? ⟨g7, 0, none⟩ = some (.int .i64 (cw : Int)) := (bkc BKg7.out 0).trans rfl
      have k1 : wr.cell? ⟨g7, 1, none⟩ = some (.int .i64 (ch : Int)) := (bkc BKg7.out 1).trans rfl
      have k2 : wr.cell? ⟨g7, 2, none⟩ = some (.int .i64 a0_2) := (bkc BKg7.out 2).trans rfl
      have k3 : wr.cell? ⟨g7, 3, none⟩ = some (.slice (some ⟨gO, 0, none⟩) l0_3.length cO) := (bkc BKg7.out 3).trans rfl
      go_wp2
      clear k0 k1 k2 k3 kp
      go_loopg [89] ch (fun kq v89 w' => ∃ (y : Int), v89 = .int .i64 y ∧ As0 (0 ≤ y ∧ y + kq = ch) ∧ As0 (Kd.S (Kd.slice 3 (Kd.int .i64)) 39 w' w.heap.size (fun _ => True) (.slice (some ⟨gO, 0, none⟩) l0_3.length cO) (fx cw ch ps p.toNat y.toNat)) ∧ As0 (w'.cell? ⟨gO, p.toNat, none⟩ = some (.slice (some ⟨gp, 0, none⟩) (cw * ch) cp)) ∧ As0 (w'.heap[g7]? = some (.cells #[.int .i64 (cw : Int), .int .i64 (ch : Int), .int .i64 a0_2, .slice (some ⟨gO, 0, none⟩) l0_3.length cO] 24 (0, 0))) ∧ As0 (w'.heap[g6]? = some (.cells #[.int .i64 0, .int .i64 0, .int .i64 0, .slice none 0 0] 24 (0, 0))) ∧ As0 (Below w.heap.size w w'))
      case atStart => exact ⟨0, rfl, ⟨by omega, by omega⟩, HSO, KP, BKg7, BKg6, HB⟩
      case round =>
       clear HSO BKg7 BKg6 HB KP
       obtain ⟨y, rfl, HY, HSO, KP, BKg7, BKg6, HB⟩ := hrel
       cases gk with
       | zero =>
        have hge : decide (y < (ch : Int)) = false := by have := HY.out; simp; omega
        have hy : y.toNat = ch := by have := HY.out; omega
        rw [hy, fx_next] at HSO
        have hw : As0 (wrap64 (p + 1) = p + 1 ∧ (p + 1).toNat = p.toNat + 1) := ⟨by have := HPI.out; have := HK.out; unfold wrap64; omega, by have := HPI.out; omega⟩
        go_wp2
        go_roundg kq2
        case measure => omega
        case rel => exact ⟨p + 1, congrArg _ hw.out.1, ⟨by have := HPI.out; omega, by have := HPI.out; omega⟩, ⟨by rw [hw.out.2]; exact HSO.out⟩, BKg7, BKg6, HB⟩
       | succ kq3 =>
        have hy1 : y < (ch : Int) := by have := HY.out; omega
        have yd : decide (y < (ch : Int)) = true := decide_eq_true hy1
        have hch : (ch : Int) ≤ 1000 := by have := HPB.out; omega
        have hcw : (cw : Int) ≤ 1000 := by have := HPB.out; omega
        have e1 : y * (cw : Int) = ((y.toNat * cw : Nat) : Int) := by rw [Int.natCast_mul]; congr 1; have := HY.out; omega
        have e2 : (y + 1) * (cw : Int) = ((y.toNat * cw + cw : Nat) : Int) := by rw [Int.add_mul, e1]; omega
        have b1 : y.toNat * cw + cw ≤ cw * ch := by rw [← Nat.succ_mul, Nat.mul_comm cw ch]; exact Nat.mul_le_mul_right _ (by have := HY.out; omega)
        have hNl := hNpos.out.2
        obtain ⟨gq, cq, okq, kq, hokq, hqN, _, hbq, hlq, ⟨cellsq, hcq⟩, hRq, hcap, hback⟩ := S_row HSO.out p (of_eq_true p0) (of_eq_true p1) _ (fx_row cw ch ps p.toNat y.toNat lp HLP.out.1) (by rw [flipT_length, HLP.out.2]; exact hNpos.out.1)
        rw [flipT_length, HLP.out.2] at kq hRq hback hcap
        have hsame := kq.symm.trans KP.out
        simp only [Option.some.injEq, Value.slice.injEq, Addr.mk.injEq, true_and, and_true] at hsame
        obtain ⟨hs1, hs2⟩ := hsame
        subst hs1; subst hs2
        have HRQ := As0.mk hRq
        have HCQ := As0.mk hcq
        have HBQ := As0.mk hbq
        have HBK := As0.mk (And.intro (fun w1 row' a b => hback w1 row' a b) hqN)
        obtain ⟨q1, hq1, v1⟩ : ∃ q, wrap64 (y * (cw : Int)) = q ∧ q = ((y.toNat * cw : Nat) : Int) := ⟨_, rfl, by rw [e1]; unfold wrap64; omega⟩
        obtain ⟨q2, hq2, v2⟩ : ∃ q, wrap64 (y + 1) = q ∧ q = y + 1 := ⟨_, rfl, by have := HY.out; unfold wrap64; omega⟩
        obtain ⟨q3, hq3, v3⟩ : ∃ q, wrap64 (q2 * (cw : Int)) = q ∧ q = ((y.toNat * cw + cw : Nat) : Int) := ⟨_, rfl, by rw [v2, e2]; unfold wrap64; omega⟩
        have hw : As0 (q2 = y + 1 ∧ (y + 1).toNat = y.toNat + 1 ∧ q1.toNat = y.toNat * cw ∧ q3.toNat = y.toNat * cw + cw ∧ (q3 - q1).toNat = cw) := ⟨v2, by have := HY.out; omega, by omega, by omega, by omega⟩
        have s1 : decide (0 ≤ q1) = true := decide_eq_true (by omega)
        have s2 : decide (q1 ≤ q3) = true := decide_eq_true (by omega)
        have s3 : decide (q3 ≤ (cq : Int)) = true := decide_eq_true (by omega)
        have r1_ : (0 ≤ q1) = True := eq_true (by omega)
        have r2_ : (q1 ≤ q3) = True := eq_true (by omega)
        have r3_ : (q3 ≤ (cq : Int)) = True := eq_true (by omega)
        have r4_ : (0 ≤ q3) = True := eq_true (by omega)
        have s4 : decide (0 ≤ q3) = true := decide_eq_true (by omega)
        have hc1 := HPB.out.1
        have HT : As0 (q1.toNat < cq) := ⟨by omega⟩
        have HMM := As0.mk b1
        clear hc1 e1 e2 b1 hNl hch hcw hy1 v1 v2 v3 hcap hback hokq hqN hbq hlq hRq hcq kq
        have k0 : wr.cell? ⟨g7, 0, none⟩ = some (.int .i64 (cw : Int)) := (bkc BKg7.out 0).trans rfl
        have k1 : wr.cell? ⟨g7, 1, none⟩ = some (.int .i64 (ch : Int)) := (bkc BKg7.out 1).trans rfl
        have k2 : wr.cell? ⟨g7, 2, none⟩ = some (.int .i64 a0_2) := (bkc BKg7.out 2).trans rfl
        have k3 : wr.cell? ⟨g7, 3, none⟩ = some (.slice (some ⟨gO, 0, none⟩) l0_3.length cO) := (bkc BKg7.out 3).trans rfl
        go_wp2_with (go_at_call 108; (with_reducible refine (Reverse_at _ w.heap.size okq gq (cw * ch) cq (flipT cw lp y.toNat) HRQ.out q1.toNat (q3.toNat - q1.toNat) (cq - q1.toNat) ?hm1 ?hm2).mono ?_); (case hm1 => have := hw.out; have := HMM.out; have := HLP.out.2; rw [flipT_length]; omega); (case hm2 => have := hNpos.out; have := HLP.out.2; rw [flipT_length]; omega); rintro e w9 ⟨rfl, hr9, hg9⟩; have HR9 := As0.mk hr9; have HG9 := As0.mk hg9; clear hr9 hg9)
        any_goals (exfalso; have := HT.out; omega)
        go_roundg kq3
        case measure => omega
        case rel => exact ⟨y + 1, by rw [hq2, hw.out.1], ⟨by have := HY.out; omega, by have := HY.out; omega⟩, ⟨by
         have h9 := HR9.out
         rw [show q3.toNat - q1.toNat = cw by have := hw.out; omega, hw.out.2.2.1] at h9
         have h10 := HBK.out.1 _ _ HG9.out h9
         rw [fx_set cw ch ps p.toNat y.toNat lp HLP.out.1] at h10
         rw [hw.out.2.1]
         exact h10⟩, ⟨HG9.out.cell KP.out (fun he => HBK.out.2 (by injection he with he; exact he.symm))⟩, ⟨blk_grown BKg7.out HG9.out (fun he => ne_types BKg7.out HCQ.out (by decide) (by injection he))⟩, ⟨blk_grown BKg6.out HG9.out (fun he => ne_types BKg6.out HCQ.out (by decide) (by injection he))⟩, ⟨HB.out.grown HG9.out HB.out.size (fun k hk => by injection hk with hk; subst hk; exact HBQ.out)⟩⟩
  | succ kq1 =>
   have hlt : decide (i < a1) = true := by have := HI.out; simp; omega
   have HBL := As0.mk (blank_is (ch : Int) (cw : Int) a0_2 (by have := HPB.out; omega) (by have := HPB.out; omega) l0_3.length (by have := HK.out; omega))
   have k0 : wr.cell? ⟨g7, 0, none⟩ = some (.int .i64 (cw : Int)) := (bkc BKg7.out 0).trans rfl
   have k1 : wr.cell? ⟨g7, 1, none⟩ = some (.int .i64 (ch : Int)) := (bkc BKg7.out 1).trans rfl
   have k2 : wr.cell? ⟨g7, 2, none⟩ = some (.int .i64 a0_2) := (bkc BKg7.out 2).trans rfl
   have k3 : wr.cell? ⟨g7, 3, none⟩ = some (.slice (some ⟨gO, 0, none⟩) l0_3.length cO) := (bkc BKg7.out 3).trans rfl
   go_wp2_with (first | (go_at_call 107; (with_reducible refine (item_blank.calls (l0_3.length + 1) (ch : Int) (cw : Int) a0_2 (l0_3.length : Int) _ _ _ _ _ HBL.out).mono ?_); rintro e w7 ⟨v7, rfl, hs7, hb7⟩; obtain ⟨gN, cN, rfl, _, _, _⟩ := Kd.S_form hs7 (by rw [List.length_replicate]; exact HK.out.1.2.2.2.2.1); rw [List.length_replicate]; have HSN := As0.mk hs7; rw [List.length_replicate] at HSN; replace HSO := As0.mk (Kd.S_old HSO.out hb7); replace BKg7 := As0.mk (bkb BKg7.out hb7); replace BKg6 := As0.mk (bkb BKg6.out hb7); have HB7 := As0.mk (pwt HB.out hb7); have HNB := As0.mk hb7.size; clear hs7 hb7) | ((with_reducible refine gdt (N := 8) rfl ?_); refine bxe ?hg (N := 8) ?hd (cs := #[.int .i64 0, .int .i64 0, .int .i64 0, .slice none 0 0]) (t := 24) ?hr ?_; (case hd => rfl); (case hg => rfl); (case hr => first | (go_simp; done) | (go_simp; rfl)); intro g8 hgg8 w8 hboxg8 hbg8; have BKg8 := As0.mk hboxg8; have GE8 : As0 (w.heap.size ≤ g8) := ⟨by have := HB7.out.size; omega⟩; have NE : As0 (g6 ≠ g8 ∧ g7 ≠ g8) := ⟨by have := blk_lt BKg6.out; omega, by have := blk_lt BKg7.out; omega⟩; replace BKg6 := As0.mk (bkb BKg6.out hbg8); replace BKg7 := As0.mk (bkb BKg7.out hbg8); have HB8 := As0.mk (pwt HB7.out hbg8); replace HSO := As0.mk (Kd.S_below HSO.out hbg8); replace HSN := As0.mk (Kd.S_below HSN.out hbg8); replace HNB := As0.mk (Nat.le_trans HNB.out hbg8.size); have z0 : w8.cell? ⟨g8, 0, none⟩ = some (.int .i64 0) := (bkc BKg8.out 0).trans rfl; have z1 : w8.cell? ⟨g8, 1, none⟩ = some (.int .i64 0) := (bkc BKg8.out 1).trans rfl; have z2 : w8.cell? ⟨g8, 2, none⟩ = some (.int .i64 0) := (bkc BKg8.out 2).trans rfl; have z3 : w8.cell? ⟨g8, 3, none⟩ = some (.slice none 0 0) := (bkc BKg8.out 3).trans rfl; have fz0 := bkz BKg8.out 0; have fz1 := bkz BKg8.out 1; have fz2 := bkz BKg8.out 2; have fz3 := bkz BKg8.out 3; have m7 : ∀ v0 v1 v2 v3 : Value, ((((w8.setCell ⟨g8, 0, none⟩ v0).setCell ⟨g8, 1, none⟩ v1).setCell ⟨g8, 2, none⟩ v2).setCell ⟨g8, 3, none⟩ v3).cell? ⟨g7, 3, none⟩ = some (.slice (some ⟨gO, 0, none⟩) l0_3.length cO) := fun v0 v1 v2 v3 => (bkc (four_far BKg7.out NE.out.2 v0 v1 v2 v3) 3).trans rfl; clear hboxg8 hbg8 hgg8))
   clear z0 z1 z2 z3 fz0 fz1 fz2 fz3 k0 k1 k2 k3 m7
   obtain ⟨NB, hNB⟩ : ∃ b, b = wr.heap.size := ⟨_, rfl⟩
   rw [← hNB] at HSO HSN HNB
   have HWN : As0 (w.heap.size ≤ NB) := ⟨by rw [hNB]; exact HB.out.size⟩
   have hbl : (List.replicate l0_3.length (List.replicate ((ch : Int) * (cw : Int)).toNat 0) : List (List Int)) = nx cw ch ps 0 0 := by
    rw [nx_zero, HP.out.2.1, show ((ch : Int) * (cw : Int)).toNat = cw * ch by rw [← Int.natCast_mul, Int.toNat_natCast, Nat.mul_comm]]
   rw [hbl] at HSN
   clear hbl hNB HB HBL
   have hNpos : As0 (0 < cw * ch ∧ cw * ch ≤ 1000000) := ⟨Nat.mul_pos (by have := HP.out.1.1; exact this) (by have := HP.out.1.2.2.1; exact this), by have := Nat.mul_le_mul HP.out.1.2.1 HP.out.1.2.2.2.1; exact this⟩
   go_loopg [34] l0_3.length (fun kq v34 w' => ∃ (p : Int), v34 = .int .i64 p ∧ As0 (0 ≤ p ∧ p + kq = l0_3.length) ∧ As0 (Kd.S (Kd.slice 3 (Kd.int .i64)) 39 w' w.heap.size (fun k => True ∧ k < NB) (.slice (some ⟨gO, 0, none⟩) l0_3.length cO) ps) ∧ As0 (Kd.S (Kd.slice 3 (Kd.int .i64)) 39 w' NB (fun _ => True) (.slice (some ⟨gN, 0, none⟩) l0_3.length cN) (nx cw ch ps p.toNat 0)) ∧ As0 (w'.heap[g7]? = some (.cells #[.int .i64 (cw : Int), .int .i64 (ch : Int), .int .i64 a0_2, .slice (some ⟨gO, 0, none⟩) l0_3.length cO] 24 (0, 0))) ∧ As0 (w'.heap[g8]? = some (.cells #[.int .i64 (ch : Int), .int .i64 (cw : Int), .int .i64 a0_2, .slice (some ⟨gN, 0, none⟩) l0_3.length cN] 24 (0, 0))) ∧ As0 (w'.heap[g6]? = some (.cells #[.int .i64 0, .int .i64 0, .int .i64 0, .slice none 0 0] 24 (0, 0))) ∧ As0 (Below w.heap.size w w') ∧ As0 (NB ≤ w'.heap.size))
   case atStart => exact ⟨0, rfl, ⟨by omega, by omega⟩, ⟨four_S HSO.out BKg8.out (by decide) _ _ _ _⟩, ⟨four_S HSN.out BKg8.out (by decide) _ _ _ _⟩, ⟨four_far BKg7.out NE.out.2 _ _ _ _⟩, ⟨four_put BKg8.out _ _ _ _⟩, ⟨four_far BKg6.out NE.out.1 _ _ _ _⟩, ⟨four_below HB8.out GE8.out _ _ _ _⟩, ⟨by simpa [World.setCell] using HNB.out⟩⟩
   case round =>
    clear BKg6 BKg7 BKg8 HSO HSN HNB HB7 HB8
    obtain ⟨p, rfl, HPI, HSO, HSN, BKg7, BKg8, BKg6, HB, HNB⟩ := hrel
    cases gk with
    | zero =>
     have hge : decide (p < (l0_3.length : Int)) = false := by have := HPI.out; simp; omega
     have hpn : p.toNat = ps.length := by have := HPI.out; have := HP.out.2.1; omega
     rw [hpn, nx_last] at HSN
     have k0 : wr.cell? ⟨g8, 0, none⟩ = some (.int .i64 (ch : Int)) := (bkc BKg8.out 0).trans rfl
     have k1 : wr.cell? ⟨g8, 1, none⟩ = some (.int .i64 (cw : Int)) := (bkc BKg8.out 1).trans rfl
     have k2 : wr.cell? ⟨g8, 2, none⟩ = some (.int .i64 a0_2) := (bkc BKg8.out 2).trans rfl
     have k3 : wr.cell? ⟨g8, 3, none⟩ = some (.slice (some ⟨gN, 0, none⟩) l0_3.length cN) := (bkc BKg8.out 3).trans rfl
     have z0 : wr.cell? ⟨g7, 0, none⟩ = some (.int .i64 (cw : Int)) := (bkc BKg7.out 0).trans rfl
     have z1 : wr.cell? ⟨g7, 1, none⟩ = some (.int .i64 (ch : Int)) := (bkc BKg7.out 1).trans rfl
     have z2 : wr.cell? ⟨g7, 2, none⟩ = some (.int .i64 a0_2) := (bkc BKg7.out 2).trans rfl
     have z3 : wr.cell? ⟨g7, 3, none⟩ = some (.slice (some ⟨gO, 0, none⟩) l0_3.length cO) := (bkc BKg7.out 3).trans rfl
     have f0 := bkz BKg7.out 0
     have f1 := bkz BKg7.out 1
     have f2 := bkz BKg7.out 2
     have f3 := bkz BKg7.out 3
     have hw : As0 (wrap64 (i + 1) = i + 1) := ⟨by have := HI.out; have := HK.out; unfold wrap64; omega⟩
     go_wp2
     go_roundg kq1
     case measure => omega
     case rel => exact ⟨i + 1, ch, cw, ps.map (rot1 cw ch), gN, cN, congrArg _ hw.out, ⟨by have := HI.out; omega, by have := HI.out; omega⟩, ⟨HP.out.1.turn, by rw [List.length_map]; exact HP.out.2.1, HP.out.2.2⟩, ⟨four_S (Kd.S_lower HSN.out HWN.out) BKg7.out (by decide) _ _ _ _⟩, ⟨four_put BKg7.out _ _ _ _⟩, ⟨four_far BKg6.out NE67.out _ _ _ _⟩, ⟨four_below HB.out GE7.out _ _ _ _⟩⟩
    | succ kq2 =>
     have p0 : 0 ≤ p := by have := HPI.out; omega
     have p1 : p < (l0_3.length : Int) := by have := HPI.out; omega
     have hpl : p.toNat < ps.length := by have := HP.out.2.1; omega
     have hlp : ps[p.toNat]? = some ps[p.toNat] := List.getElem?_eq_getElem hpl
     have hln : ps[p.toNat].length = cw * ch := HP.out.1.2.2.2.2.2 _ (List.getElem_mem hpl)
     generalize ps[p.toNat] = lp at hlp hln
     have HLP := As0.mk (And.intro hlp hln)
     obtain ⟨gp, cp, okp, kp, hokp, _, _, _, _, _, hRp, _, _⟩ := S_row HSO.out p p0 p1 lp hlp (by have := hNpos.out; omega)
     have HRP := As0.mk (Kd.R_mono (ok' := fun k => True ∧ k < NB) hRp (fun k hk => (hokp k hk).1))
     clear hRp hokp hlp hln hpl
     have pd : decide (p < (l0_3.length : Int)) = true := decide_eq_true p1
     have pd0 : decide (0 ≤ p) = true := decide_eq_true p0
     replace p0 := eq_true p0
     replace p1 := eq_true p1
     have k81 : wr.cell? ⟨g8, 1, none⟩ = some (.int .i64 (cw : Int)) := (bkc BKg8.out 1).trans rfl
     go_wp2
     clear k81 kp
     go_loopg [41] cw (fun kq v41 w' => ∃ (y : Int), v41 = .int .i64 y ∧ As0 (0 ≤ y ∧ y + kq = cw) ∧ As0 (Kd.S (Kd.slice 3 (Kd.int .i64)) 39 w' w.heap.size (fun k => True ∧ k < NB) (.slice (some ⟨gO, 0, none⟩) l0_3.length cO) ps) ∧ As0 ((Kd.int .i64).R 3 w' w.heap.size (fun k => True ∧ k < NB) (.slice (some ⟨gp, 0, none⟩) lp.length cp) lp) ∧ As0 (Kd.S (Kd.slice 3 (Kd.int .i64)) 39 w' NB (fun _ => True) (.slice (some ⟨gN, 0, none⟩) l0_3.length cN) (nx cw ch ps p.toNat (y.toNat * ch))) ∧ As0 (w'.heap[g7]? = some (.cells #[.int .i64 (cw : Int), .int .i64 (ch : Int), .int .i64 a0_2, .slice (some ⟨gO, 0, none⟩) l0_3.length cO] 24 (0, 0))) ∧ As0 (w'.heap[g8]? = some (.cells #[.int .i64 (ch : Int), .int .i64 (cw : Int), .int .i64 a0_2, .slice (some ⟨gN, 0, none⟩) l0_3.length cN] 24 (0, 0))) ∧ As0 (w'.heap[g6]? = some (.cells #[.int .i64 0, .int .i64 0, .int .i64 0, .slice none 0 0] 24 (0, 0))) ∧ As0 (Below w.heap.size w w') ∧ As0 (NB ≤ w'.heap.size))
     case atStart => exact ⟨0, rfl, ⟨by omega, by omega⟩, HSO, HRP, ⟨by simpa using HSN.out⟩, BKg7, BKg8, BKg6, HB, HNB⟩
     case round =>
      clear BKg6 BKg7 BKg8 HSO HSN HNB HB HRP
      obtain ⟨y, rfl, HY, HSO, HRP, HSN, BKg7, BKg8, BKg6, HB, HNB⟩ := hrel
      cases gk with
      | zero =>
       have hge : decide (y < (cw : Int)) = false := by have := HY.out; simp; omega
       have hy : y.toNat = cw := by have := HY.out; omega
       rw [hy, nx_next] at HSN
       have hw : As0 (wrap64 (p + 1) = p + 1 ∧ (p + 1).toNat = p.toNat + 1) := ⟨by have := HPI.out; have := HK.out; unfold wrap64; omega, by have := HPI.out; omega⟩
       go_wp2
       go_roundg kq2
       case measure => omega
       case rel => exact ⟨p + 1, congrArg _ hw.out.1, ⟨by have := HPI.out; omega, by have := HPI.out; omega⟩, HSO, ⟨by rw [hw.out.2]; exact HSN.out⟩, BKg7, BKg8, BKg6, HB, HNB⟩
      | succ kq3 =>
       have yd : decide (y < (cw : Int)) = true := by have := HY.out; simp; omega
       have k80 : wr.cell? ⟨g8, 0, none⟩ = some (.int .i64 (ch : Int)) := (bkc BKg8.out 0).trans rfl
       go_wp2
       clear k80
       go_loopg [46] ch (fun kq v46 w' => ∃ (x : Int), v46 = .int .i64 x ∧ As0 (0 ≤ x ∧ x + kq = ch) ∧ As0 (Kd.S (Kd.slice 3 (Kd.int .i64)) 39 w' w.heap.size (fun k => True ∧ k < NB) (.slice (some ⟨gO, 0, none⟩) l0_3.length cO) ps) ∧ As0 ((Kd.int .i64).R 3 w' w.heap.size (fun k => True ∧ k < NB) (.slice (some ⟨gp, 0, none⟩) lp.length cp) lp) ∧ As0 (Kd.S (Kd.slice 3 (Kd.int .i64)) 39 w' NB (fun _ => True) (.slice (some ⟨gN, 0, none⟩) l0_3.length cN) (nx cw ch ps p.toNat (y.toNat * ch + x.toNat))) ∧ As0 (w'.heap[g7]? = some (.cells #[.int .i64 (cw : Int), .int .i64 (ch : Int), .int .i64 a0_2, .slice (some ⟨gO, 0, none⟩) l0_3.length cO] 24 (0, 0))) ∧ As0 (w'.heap[g8]? = some (.cells #[.int .i64 (ch : Int), .int .i64 (cw : Int), .int .i64 a0_2, .slice (some ⟨gN, 0, none⟩) l0_3.length cN] 24 (0, 0))) ∧ As0 (w'.heap[g6]? = some (.cells #[.int .i64 0, .int .i64 0, .int .i64 0, .slice none 0 0] 24 (0, 0))) ∧ As0 (Below w.heap.size w w') ∧ As0 (NB ≤ w'.heap.size))
       case atStart => exact ⟨0, rfl, ⟨by omega, by omega⟩, HSO, HRP, ⟨by simpa using HSN.out⟩, BKg7, BKg8, BKg6, HB, HNB⟩
       case round =>
        clear BKg6 BKg7 BKg8 HSO HSN HNB HB HRP
        obtain ⟨x, rfl, HX, HSO, HRP, HSN, BKg7, BKg8, BKg6, HB, HNB⟩ := hrel
        cases gk with
        | zero =>
         have hge : decide (x < (ch : Int)) = false := by have := HX.out; simp; omega
         have hx : x.toNat = ch := by have := HX.out; omega
         rw [hx, show y.toNat * ch + ch = (y.toNat + 1) * ch by rw [Nat.add_mul, Nat.one_mul]] at HSN
         have hw : As0 (wrap64 (y + 1) = y + 1 ∧ (y + 1).toNat = y.toNat + 1) := ⟨by have := HY.out; have := HPB.out; unfold wrap64; omega, by have := HY.out; omega⟩
         go_wp2
         go_roundg kq3
         case measure => omega
         case rel => exact ⟨y + 1, congrArg _ hw.out.1, ⟨by have := HY.out; omega, by have := HY.out; omega⟩, HSO, HRP, ⟨by rw [hw.out.2]; exact HSN.out⟩, BKg7, BKg8, BKg6, HB, HNB⟩
        | succ kq4 =>
           have hx1 : x < (ch : Int) := by have := HX.out; omega
           have hy1 : y < (cw : Int) := by have := HY.out; omega
           have xd : decide (x < (ch : Int)) = true := decide_eq_true hx1
           have hch : (ch : Int) ≤ 1000 := by have := HPB.out; omega
           have hcw : (cw : Int) ≤ 1000 := by have := HPB.out; omega
           have e1 : y * (ch : Int) = ((y.toNat * ch : Nat) : Int) := by rw [Int.natCast_mul]; congr 1; have := HY.out; omega
           have b1 : y.toNat * ch + ch ≤ cw * ch := by rw [← Nat.succ_mul]; exact Nat.mul_le_mul_right _ (by have := HY.out; omega)
           have e2 : ((ch : Int) - 1 - x) * (cw : Int) = (((ch - 1 - x.toNat) * cw : Nat) : Int) := by rw [Int.natCast_mul]; congr 1; have := HX.out; omega
           have b2 : (ch - 1 - x.toNat) * cw + cw ≤ cw * ch := by rw [← Nat.succ_mul, Nat.mul_comm cw ch]; exact Nat.mul_le_mul_right _ (by have := HX.out; omega)
           have hNl := hNpos.out.2
           have ht : As0 (y.toNat * ch + x.toNat < cw * ch ∧ (y.toNat * ch + x.toNat) % ch = x.toNat ∧ (y.toNat * ch + x.toNat) / ch = y.toNat) := ⟨by have := HX.out; omega, by rw [Nat.mul_comm, Nat.mul_add_mod, Nat.mod_eq_of_lt (by have := HX.out; omega)], by rw [Nat.mul_comm, Nat.mul_add_div (by have := HX.out; omega), Nat.div_eq_of_lt (by have := HX.out; omega), Nat.add_zero]⟩
           obtain ⟨q1, hq1, v1⟩ : ∃ q, wrap64 (y * (ch : Int)) = q ∧ q = ((y.toNat * ch : Nat) : Int) := ⟨_, rfl, by rw [e1]; unfold wrap64; omega⟩
           obtain ⟨q2, hq2, v2⟩ : ∃ q, wrap64 (q1 + x) = q ∧ q = ((y.toNat * ch + x.toNat : Nat) : Int) := ⟨_, rfl, by rw [v1]; have := HX.out; unfold wrap64; omega⟩
           obtain ⟨q3, hq3, v3⟩ : ∃ q, wrap64 ((ch : Int) - 1) = q ∧ q = (ch : Int) - 1 := ⟨_, rfl, by unfold wrap64; omega⟩
           obtain ⟨q4, hq4, v4⟩ : ∃ q, wrap64 (q3 - x) = q ∧ q = (ch : Int) - 1 - x := ⟨_, rfl, by rw [v3]; have := HX.out; unfold wrap64; omega⟩
           obtain ⟨q5, hq5, v5⟩ : ∃ q, wrap64 (q4 * (cw : Int)) = q ∧ q = (((ch - 1 - x.toNat) * cw : Nat) : Int) := ⟨_, rfl, by rw [v4, e2]; unfold wrap64; omega⟩
           obtain ⟨q6, hq6, v6⟩ : ∃ q, wrap64 (q5 + y) = q ∧ q = (((ch - 1 - x.toNat) * cw + y.toNat : Nat) : Int) := ⟨_, rfl, by rw [v5]; have := HY.out; unfold wrap64; omega⟩
           have u0 : 0 ≤ q6 := by omega
           have u1 : q6 < (lp.length : Int) := by have := HLP.out.2; have := HY.out; omega
           have nrow := nx_row cw ch ps p.toNat (y.toNat * ch + x.toNat) lp HLP.out.1
           have nlen := nxr_length cw ch lp (y.toNat * ch + x.toNat) (Nat.le_of_lt ht.out.1)
           have nset := nx_set cw ch ps p.toNat (y.toNat * ch + x.toNat) lp HLP.out.1 ht.out.1 (rdOf 0 lp q6) (by rw [ht.out.2.1, ht.out.2.2]; show lp.getD q6.toNat 0 = _; rw [v6, Int.toNat_natCast])
           obtain ⟨gq, cq, okq, kq, hokq, hqN, _, hbq, hlq, ⟨cellsq, hcq⟩, hRq, _, hback⟩ := S_row (Kd.S_drew HSN.out) p (of_eq_true p0) (of_eq_true p1) _ nrow (by rw [nlen]; exact hNpos.out.1)
           obtain ⟨cx, fx_⟩ := Kd.R_celln 0 HRP.out q6 u0 u1
           have w0_ : 0 ≤ q2 := by omega
           have w1_ : q2 < ((nxr cw ch lp (y.toNat * ch + x.toNat)).length : Int) := by rw [nlen]; have := ht.out.1; omega
           obtain ⟨cn, fn⟩ := Kd.R_celln 0 hRq q2 w0_ w1_
           have hp3 := Kd.R_putg hRq q2 (rdOf 0 lp q6)
           have hS3 := hback _ _ hp3.2 hp3.1
           rw [show q2.toNat = y.toNat * ch + x.toNat by omega, nset] at hS3
           have HQT : As0 (q2.toNat = y.toNat * ch + x.toNat) := ⟨by omega⟩
           rw [← HQT.out] at hS3
           have HS3 := As0.mk hS3
           have HCQ := As0.mk hcq
           have HBQ := As0.mk (And.intro hbq (Nat.le_trans HWN.out hbq))
           have u0d : decide (0 ≤ q6) = true := decide_eq_true u0
           have u1d : decide (q6 < (lp.length : Int)) = true := decide_eq_true u1
           have w0d : decide (0 ≤ q2) = true := decide_eq_true w0_
           have w1d : decide (q2 < ((nxr cw ch lp (y.toNat * ch + x.toNat)).length : Int)) = true := decide_eq_true w1_
           clear hS3 hp3 hback hRq nset nrow nlen hokq hqN hbq hlq hcq v1 v2 v3 v4 v5 v6 e1 e2 b1 b2 hNl hch hcw hx1 hy1 fx_
           generalize rdOf 0 lp q6 = vx at *
           generalize (nxr cw ch lp (y.toNat * ch + x.toNat)).length = LN at *
           have hw : As0 (wrap64 (x + 1) = x + 1 ∧ (x + 1).toNat = x.toNat + 1) := ⟨by have := HX.out; have := HPB.out; unfold wrap64; omega, by have := HX.out; omega⟩
           replace u0 := eq_true u0
           replace u1 := eq_true u1
           replace w0_ := eq_true w0_
           replace w1_ := eq_true w1_
           have k83 : wr.cell? ⟨g8, 3, none⟩ = some (.slice (some ⟨gN, 0, none⟩) l0_3.length cN) := (bkc BKg8.out 3).trans rfl
           have k80 : wr.cell? ⟨g8, 0, none⟩ = some (.int .i64 (ch : Int)) := (bkc BKg8.out 0).trans rfl
           have k71 : wr.cell? ⟨g7, 1, none⟩ = some (.int .i64 (ch : Int)) := (bkc BKg7.out 1).trans rfl
           have k70 : wr.cell? ⟨g7, 0, none⟩ = some (.int .i64 (cw : Int)) := (bkc BKg7.out 0).trans rfl
           go_wp2
           refine start_ (n := 26) (S := fun w' => w'.cell? ⟨g8, 3, none⟩ = some (.slice (some ⟨gN, 0, none⟩) l0_3.length cN) ∧ w'.cell? ⟨gN, p.toNat, none⟩ = some (.slice (some ⟨gq, 0, none⟩) LN cq) ∧ w'.cell? ⟨g8, 0, none⟩ = some (.int .i64 (ch : Int)) ∧ w'.cell? ⟨g7, 1, none⟩ = some (.int .i64 (ch : Int)) ∧ w'.cell? ⟨g7, 0, none⟩ = some (.int .i64 (cw : Int)) ∧ w'.cell? ⟨gp, q6.toNat, none⟩ = some (.int .i64 vx)) (ds := [25]) #[false, false, false, false, false, false, false, false, false, false, false, false, false, false, false, false, false, false, false, false, false, false, false, false, false, false] (by kernel_rfl) rfl rfl ⟨k83, kq, k80, k71, k70, cx⟩ (fun hHeld => ?_); refine with_tabW item_turned.tab14 item_turned.bits14 (fun HT_ HW_ => ?_)
           replace HSO := As0.mk (Kd.S_drew HSO.out)
           replace HRP := As0.mk (Kd.R_drew HRP.out)
           replace BKg7 := As0.mk (bkd BKg7.out)
           replace BKg8 := As0.mk (bkd BKg8.out)
           replace BKg6 := As0.mk (bkd BKg6.out)
           replace HB := As0.mk (bwd HB.out)
           replace HNB : As0 (NB ≤ wr.drew.heap.size) := HNB
           clear HSN k83 k80 k71 k70
           replace cx : wr.drew.cell? ⟨gp, q6.toNat, none⟩ = some (.int .i64 vx) := cx
           generalize wr.drew = wd at *
           refine pure_ (i := 0) (N := some 49) (v := ?_) (a' := ?_) #[true, false, false, false, false, false, false, false, false, false, false, false, false, false, false, false, false, false, false, false, false, false, false, false, false, false] rfl rfl (any_of HT_.out (by kernel_rfl)) (fun _ _ _ h => h) (Or.inl ⟨by rfl, ?_⟩) ?_ ?_
           rotate_left
           ·intro w'
            go_simp
            with_reducible rfl
           rotate_left
           ·simp only [Act.put, List.setIfInBounds_toArray, List.set_cons_zero, List.set_cons_succ, i64_w, i32_w, hq1, hq2, hq3, hq4, hq5, hq6]
            rfl
           refine pure_ (i := 2) (N := some 51) (v := ?_) (a' := ?_) #[true, false, true, false, false, false, false, false, false, false, false, false, false, false, false, false, false, false, false, false, false, false, false, false, false, false] rfl rfl (any_of HT_.out (by kernel_rfl)) (fun _ _ _ h => h) (Or.inl ⟨by rfl, ?_⟩) ?_ ?_
           rotate_left
           ·intro w'
            go_simp
            with_reducible rfl
           rotate_left
           ·simp only [Act.put, List.setIfInBounds_toArray, List.set_cons_zero, List.set_cons_succ, i64_w, i32_w, hq1, hq2, hq3, hq4, hq5, hq6]
            rfl
           refine pure_ (i := 5) (N := some 54) (v := ?_) (a' := ?_) #[true, false, true, false, false, true, false, false, false, false, false, false, false, false, false, false, false, false, false, false, false, false, false, false, false, false] rfl rfl (any_of HT_.out (by kernel_rfl)) (fun _ _ _ h => h) (Or.inl ⟨by rfl, ?_⟩) ?_ ?_
           rotate_left
           ·intro w'
            go_simp
            with_reducible rfl
           rotate_left
           ·simp only [Act.put, List.setIfInBounds_toArray, List.set_cons_zero, List.set_cons_succ, i64_w, i32_w, hq1, hq2, hq3, hq4, hq5, hq6]
            rfl
           refine pure_ (i := 6) (N := some 55) (v := ?_) (a' := ?_) #[true, false, true, false, false, true, true, false, false, false, false, false, false, false, false, false, false, false, false, false, false, false, false, false, false, false] rfl rfl (any_of HT_.out (by kernel_rfl)) (fun _ _ _ h => h) (Or.inl ⟨by rfl, ?_⟩) ?_ ?_
           rotate_left
           ·intro w'
            go_simp
            with_reducible rfl
           rotate_left
           ·simp only [Act.put, List.setIfInBounds_toArray, List.set_cons_zero, List.set_cons_succ, i64_w, i32_w, hq1, hq2, hq3, hq4, hq5, hq6]
            rfl
           refine pure_ (i := 9) (N := some 58) (v := ?_) (a' := ?_) #[true, false, true, false, false, true, true, false, false, true, false, false, false, false, false, false, false, false, false, false, false, false, false, false, false, false] rfl rfl (any_of HT_.out (by kernel_rfl)) (fun _ _ _ h => h) (Or.inl ⟨by rfl, ?_⟩) ?_ ?_
           rotate_left
           ·intro w'
            go_simp
            with_reducible rfl
           rotate_left
           ·simp only [Act.put, List.setIfInBounds_toArray, List.set_cons_zero, List.set_cons_succ, i64_w, i32_w, hq1, hq2, hq3, hq4, hq5, hq6]
            rfl
           refine pure_ (i := 11) (N := some 60) (v := ?_) (a' := ?_) #[true, false, true, false, false, true, true, false, false, true, false, true, false, false, false, false, false, false, false, false, false, false, false, false, false, false] rfl rfl (any_of HT_.out (by kernel_rfl)) (fun _ _ _ h => h) (Or.inl ⟨by rfl, ?_⟩) ?_ ?_
           rotate_left
           ·intro w'
            go_simp
            with_reducible rfl
           rotate_left
           ·simp only [Act.put, List.setIfInBounds_toArray, List.set_cons_zero, List.set_cons_succ, i64_w, i32_w, hq1, hq2, hq3, hq4, hq5, hq6]
            rfl
           refine pure_ (i := 12) (N := some 61) (v := ?_) (a' := ?_) #[true, false, true, false, false, true, true, false, false, true, false, true, true, false, false, false, false, false, false, false, false, false, false, false, false, false] rfl rfl (any_of HT_.out (by kernel_rfl)) (fun _ _ _ h => h) (Or.inl ⟨by rfl, ?_⟩) ?_ ?_
           rotate_left
           ·intro w'
            go_simp
            with_reducible rfl
           rotate_left
           ·simp only [Act.put, List.setIfInBounds_toArray, List.set_cons_zero, List.set_cons_succ, i64_w, i32_w, hq1, hq2, hq3, hq4, hq5, hq6]
            rfl
           refine pure_ (i := 15) (N := some 64) (v := ?_) (a' := ?_) #[true, false, true, false, false, true, true, false, false, true, false, true, true, false, false, true, false, false, false, false, false, false, false, false, false, false] rfl rfl (any_of HT_.out (by kernel_rfl)) (fun _ _ _ h => h) (Or.inl ⟨by rfl, ?_⟩) ?_ ?_
           rotate_left
           ·intro w'
            go_simp
            with_reducible rfl
           rotate_left
           ·simp only [Act.put, List.setIfInBounds_toArray, List.set_cons_zero, List.set_cons_succ, i64_w, i32_w, hq1, hq2, hq3, hq4, hq5, hq6]
            rfl
           refine pure_ (i := 17) (N := some 66) (v := ?_) (a' := ?_) #[true, false, true, false, false, true, true, false, false, true, false, true, true, false, false, true, false, true, false, false, false, false, false, false, false, false] rfl rfl (any_of HT_.out (by kernel_rfl)) (fun _ _ _ h => h) (Or.inl ⟨by rfl, ?_⟩) ?_ ?_
           rotate_left
           ·intro w'
            go_simp
            with_reducible rfl
           rotate_left
           ·simp only [Act.put, List.setIfInBounds_toArray, List.set_cons_zero, List.set_cons_succ, i64_w, i32_w, hq1, hq2, hq3, hq4, hq5, hq6]
            rfl
           refine pure_ (i := 20) (N := some 69) (v := ?_) (a' := ?_) #[true, false, true, false, false, true, true, false, false, true, false, true, true, false, false, true, false, true, false, false, true, false, false, false, false, false] rfl rfl (any_of HT_.out (by kernel_rfl)) (fun _ _ _ h => h) (Or.inl ⟨by rfl, ?_⟩) ?_ ?_
           rotate_left
           ·intro w'
            go_simp
            with_reducible rfl
           rotate_left
           ·simp only [Act.put, List.setIfInBounds_toArray, List.set_cons_zero, List.set_cons_succ, i64_w, i32_w, hq1, hq2, hq3, hq4, hq5, hq6]
            rfl
           refine take_ (i := 1) (N := some 50) (v := ?_) (a' := ?_) #[true, true, true, false, false, true, true, false, false, true, false, true, true, false, false, true, false, true, false, false, true, false, false, false, false, false] rfl rfl (take_ofW HT_.out HW_.out (by kernel_rfl)) (fun _ _ _ h => h) (Or.inl ⟨by rfl, ?_⟩) hHeld ?_ ?_
           rotate_left
           ·rintro w' ⟨s0, s1, s2, s3, s4, s5⟩
            go_simp
            with_reducible rfl
           rotate_left
           ·simp only [Act.put, List.setIfInBounds_toArray, List.set_cons_zero, List.set_cons_succ, i64_w, i32_w, hq1, hq2, hq3, hq4, hq5, hq6]
            rfl
           refine pure_ (i := 3) (N := some 52) (v := ?_) (a' := ?_) #[true, true, true, true, false, true, true, false, false, true, false, true, true, false, false, true, false, true, false, false, true, false, false, false, false, false] rfl rfl (any_of HT_.out (by kernel_rfl)) (fun _ _ _ h => h) (Or.inl ⟨by rfl, ?_⟩) ?_ ?_
           rotate_left
           ·intro w'
            go_simp
            with_reducible rfl
           rotate_left
           ·simp only [Act.put, List.setIfInBounds_toArray, List.set_cons_zero, List.set_cons_succ, i64_w, i32_w, hq1, hq2, hq3, hq4, hq5, hq6]
            rfl
           refine take_ (i := 4) (N := some 53) (v := ?_) (a' := ?_) #[true, true, true, true, true, true, true, false, false, true, false, true, true, false, false, true, false, true, false, false, true, false, false, false, false, false] rfl rfl (take_ofW HT_.out HW_.out (by kernel_rfl)) (fun _ _ _ h => h) (Or.inl ⟨by rfl, ?_⟩) hHeld ?_ ?_
           rotate_left
           ·rintro w' ⟨s0, s1, s2, s3, s4, s5⟩
            go_simp
            with_reducible rfl
           rotate_left
           ·simp only [Act.put, List.setIfInBounds_toArray, List.set_cons_zero, List.set_cons_succ, i64_w, i32_w, hq1, hq2, hq3, hq4, hq5, hq6]
            rfl
           refine take_ (i := 7) (N := some 56) (v := ?_) (a' := ?_) #[true, true, true, true, true, true, true, true, false, true, false, true, true, false, false, true, false, true, false, false, true, false, false, false, false, false] rfl rfl (take_ofW HT_.out HW_.out (by kernel_rfl)) (fun _ _ _ h => h) (Or.inl ⟨by rfl, ?_⟩) hHeld ?_ ?_
           rotate_left
           ·rintro w' ⟨s0, s1, s2, s3, s4, s5⟩
            go_simp
            with_reducible rfl
           rotate_left
           ·simp only [Act.put, List.setIfInBounds_toArray, List.set_cons_zero, List.set_cons_succ, i64_w, i32_w, hq1, hq2, hq3, hq4, hq5, hq6]
            rfl
           refine pure_ (i := 8) (N := some 57) (v := ?_) (a' := ?_) #[true, true, true, true, true, true, true, true, true, true, false, true, true, false, false, true, false, true, false, false, true, false, false, false, false, false] rfl rfl (any_of HT_.out (by kernel_rfl)) (fun _ _ _ h => h) (Or.inl ⟨by rfl, ?_⟩) ?_ ?_
           rotate_left
           ·intro w'
            go_simp
            with_reducible rfl
           rotate_left
           ·simp only [Act.put, List.setIfInBounds_toArray, List.set_cons_zero, List.set_cons_succ, i64_w, i32_w, hq1, hq2, hq3, hq4, hq5, hq6]
            rfl
           refine pure_ (i := 10) (N := some 59) (v := ?_) (a' := ?_) #[true, true, true, true, true, true, true, true, true, true, true, true, true, false, false, true, false, true, false, false, true, false, false, false, false, false] rfl rfl (any_of HT_.out (by kernel_rfl)) (fun _ _ _ h => h) (Or.inl ⟨by rfl, ?_⟩) ?_ ?_
           rotate_left
           ·intro w'
            go_simp
            with_reducible rfl
           rotate_left
           ·simp only [Act.put, List.setIfInBounds_toArray, List.set_cons_zero, List.set_cons_succ, i64_w, i32_w, hq1, hq2, hq3, hq4, hq5, hq6]
            rfl
           refine take_ (i := 13) (N := some 62) (v := ?_) (a' := ?_) #[true, true, true, true, true, true, true, true, true, true, true, true, true, true, false, true, false, true, false, false, true, false, false, false, false, false] rfl rfl (take_ofW HT_.out HW_.out (by kernel_rfl)) (fun _ _ _ h => h) (Or.inl ⟨by rfl, ?_⟩) hHeld ?_ ?_
           rotate_left
           ·rintro w' ⟨s0, s1, s2, s3, s4, s5⟩
            go_simp
            with_reducible rfl
           rotate_left
           ·simp only [Act.put, List.setIfInBounds_toArray, List.set_cons_zero, List.set_cons_succ, i64_w, i32_w, hq1, hq2, hq3, hq4, hq5, hq6]
            rfl
           refine pure_ (i := 14) (N := some 63) (v := ?_) (a' := ?_) #[true, true, true, true, true, true, true, true, true, true, true, true, true, true, true, true, false, true, false, false, true, false, false, false, false, false] rfl rfl (any_of HT_.out (by kernel_rfl)) (fun _ _ _ h => h) (Or.inl ⟨by rfl, ?_⟩) ?_ ?_
           rotate_left
           ·intro w'
            go_simp
            with_reducible rfl
           rotate_left
           ·simp only [Act.put, List.setIfInBounds_toArray, List.set_cons_zero, List.set_cons_succ, i64_w, i32_w, hq1, hq2, hq3, hq4, hq5, hq6]
            rfl
           refine pure_ (i := 16) (N := some 65) (v := ?_) (a' := ?_) #[true, true, true, true, true, true, true, true, true, true, true, true, true, true, true, true, true, true, false, false, true, false, false, false, false, false] rfl rfl (any_of HT_.out (by kernel_rfl)) (fun _ _ _ h => h) (Or.inl ⟨by rfl, ?_⟩) ?_ ?_
           rotate_left
           ·intro w'
            go_simp
            with_reducible rfl
           rotate_left
           ·simp only [Act.put, List.setIfInBounds_toArray, List.set_cons_zero, List.set_cons_succ, i64_w, i32_w, hq1, hq2, hq3, hq4, hq5, hq6]
            rfl
           refine take_ (i := 18) (N := some 67) (v := ?_) (a' := ?_) #[true, true, true, true, true, true, true, true, true, true, true, true, true, true, true, true, true, true, true, false, true, false, false, false, false, false] rfl rfl (take_ofW HT_.out HW_.out (by kernel_rfl)) (fun _ _ _ h => h) (Or.inl ⟨by rfl, ?_⟩) hHeld ?_ ?_
           rotate_left
           ·rintro w' ⟨s0, s1, s2, s3, s4, s5⟩
            go_simp
            with_reducible rfl
           rotate_left
           ·simp only [Act.put, List.setIfInBounds_toArray, List.set_cons_zero, List.set_cons_succ, i64_w, i32_w, hq1, hq2, hq3, hq4, hq5, hq6]
            rfl
           refine pure_ (i := 19) (N := some 68) (v := ?_) (a' := ?_) #[true, true, true, true, true, true, true, true, true, true, true, true, true, true, true, true, true, true, true, true, true, false, false, false, false, false] rfl rfl (any_of HT_.out (by kernel_rfl)) (fun _ _ _ h => h) (Or.inl ⟨by rfl, ?_⟩) ?_ ?_
           rotate_left
           ·intro w'
            go_simp
            with_reducible rfl
           rotate_left
           ·simp only [Act.put, List.setIfInBounds_toArray, List.set_cons_zero, List.set_cons_succ, i64_w, i32_w, hq1, hq2, hq3, hq4, hq5, hq6]
            rfl
           refine pure_ (i := 21) (N := some 70) (v := ?_) (a' := ?_) #[true, true, true, true, true, true, true, true, true, true, true, true, true, true, true, true, true, true, true, true, true, true, false, false, false, false] rfl rfl (any_of HT_.out (by kernel_rfl)) (fun _ _ _ h => h) (Or.inl ⟨by rfl, ?_⟩) ?_ ?_
           rotate_left
           ·intro w'
            go_simp
            with_reducible rfl
           rotate_left
           ·simp only [Act.put, List.setIfInBounds_toArray, List.set_cons_zero, List.set_cons_succ, i64_w, i32_w, hq1, hq2, hq3, hq4, hq5, hq6]
            rfl
           refine pure_ (i := 22) (N := some 71) (v := ?_) (a' := ?_) #[true, true, true, true, true, true, true, true, true, true, true, true, true, true, true, true, true, true, true, true, true, true, true, false, false, false] rfl rfl (any_of HT_.out (by kernel_rfl)) (fun _ _ _ h => h) (Or.inl ⟨by rfl, ?_⟩) ?_ ?_
           rotate_left
           ·intro w'
            go_simp
            with_reducible rfl
           rotate_left
           ·simp only [Act.put, List.setIfInBounds_toArray, List.set_cons_zero, List.set_cons_succ, i64_w, i32_w, hq1, hq2, hq3, hq4, hq5, hq6]
            rfl
           refine take_ (i := 23) (N := some 72) (v := ?_) (a' := ?_) #[true, true, true, true, true, true, true, true, true, true, true, true, true, true, true, true, true, true, true, true, true, true, true, true, false, false] rfl rfl (take_ofW HT_.out HW_.out (by kernel_rfl)) (fun _ _ _ h => h) (Or.inl ⟨by rfl, ?_⟩) hHeld ?_ ?_
           rotate_left
           ·rintro w' ⟨s0, s1, s2, s3, s4, s5⟩
            go_simp
            with_reducible rfl
           rotate_left
           ·simp only [Act.put, List.setIfInBounds_toArray, List.set_cons_zero, List.set_cons_succ, i64_w, i32_w, hq1, hq2, hq3, hq4, hq5, hq6]
            rfl
           refine pure_ (i := 24) (N := some 73) (v := ?_) (a' := ?_) #[true, true, true, true, true, true, true, true, true, true, true, true, true, true, true, true, true, true, true, true, true, true, true, true, true, false] rfl rfl (any_of HT_.out (by kernel_rfl)) (fun _ _ _ h => h) (Or.inl ⟨by rfl, ?_⟩) ?_ ?_
           rotate_left
           ·intro w'
            go_simp
            with_reducible rfl
           rotate_left
           ·simp only [Act.put, List.setIfInBounds_toArray, List.set_cons_zero, List.set_cons_succ, i64_w, i32_w, hq1, hq2, hq3, hq4, hq5, hq6]
            rfl
           refine last_ (i := 25) (N := none) #[true, true, true, true, true, true, true, true, true, true, true, true, true, true, true, true, true, true, true, true, true, true, true, true, true, true] rfl rfl (one_of HT_.out (by kernel_rfl)) (by decide) (fun K hK => ?_)
           refine skip_ (w1 := ?_) (by rfl) rfl ?_ ?_
           rotate_left
           ·go_simp
            rfl
           refine hK.out _ _ ?_
           clear hK K
           refine done_ (done_of HT_.out (by kernel_rfl)) ?_
           go_wp2
           go_roundg kq4
           case measure => omega
           case rel => exact ⟨x + 1, congrArg _ hw.out.1, ⟨by have := HX.out; omega, by have := HX.out; omega⟩, ⟨Kd.S_far HSO.out (fun k hk he => by have he : k = gq := he; have := HBQ.out.1; have := hk.2; omega) _⟩, ⟨Kd.R_step HRP.out (fun k hk _ => Below.heap_setCell wd _ _ k (fun he => by have he : k = gq := he; have := HBQ.out.1; have := hk.2; omega))⟩, ⟨by rw [hw.out.2, ← Nat.add_assoc, ← HQT.out]; exact HS3.out⟩, ⟨bkf BKg7.out (ne_types BKg7.out HCQ.out (by decide)) _⟩, ⟨bkf BKg8.out (ne_types BKg8.out HCQ.out (by decide)) _⟩, ⟨bkf BKg6.out (ne_types BKg6.out HCQ.out (by decide)) _⟩, ⟨bws HB.out HBQ.out.2⟩, ⟨by simpa [World.setCell] using HNB.out⟩⟩
theorem copy_ints (l : List Int) (hl : l.length ≤ 10000000) : ∀ (n j : Nat), j + n = l.length → Ev fun k => r00_CopyInts.l0 k l (l.take j) j = some l := by
 intro n
 induction n with
 | zero =>
  intro j hj
  refine Ev.const (fun k => ?_)
  rw [r00_CopyInts.l0, if_neg (by omega), List.take_of_length_le (by omega)]
 | succ n ih =>
  intro j hj
  have hjl : j < l.length := by omega
  have hx : l[j]? = some l[j] := List.getElem?_eq_getElem hjl
  refine Ev.step (fun k => ?_) (ih (j + 1) (by omega))
  rw [r00_CopyInts.l0, if_pos (by omega), if_pos (by omega), if_pos (by rw [List.length_take]; omega), w64_succ j (by omega), rd_at l j _ hx, List.take_add_one, hx]
  rfl
theorem copy_row (l : List Int) (hl : l.length ≤ 10000000) : Ev fun k => r00_CopyInts.f k l = some l := by
 obtain ⟨K, hK⟩ := copy_ints l hl l.length 0 (by omega)
 refine ⟨K, fun k hk => ?_⟩
 show r00_CopyInts.f k l = some l
 unfold r00_CopyInts.f
 rw [if_pos (by omega)]
 exact hK k hk
theorem copy_rows (ps : List (List Int)) (hn : ps.length ≤ 1000) (hr : ∀ r ∈ ps, r.length ≤ 10000000) : ∀ (n j : Nat), j + n = ps.length → Ev fun k => r00_CopyRows.l0 k ps (ps.take j) j = some ps := by
 intro n
 induction n with
 | zero =>
  intro j hj
  refine Ev.const (fun k => ?_)
  rw [r00_CopyRows.l0, if_neg (by omega), List.take_of_length_le (by omega)]
 | succ n ih =>
  intro j hj
  have hjl : j < ps.length := by omega
  have hx : ps[j]? = some ps[j] := List.getElem?_eq_getElem hjl
  refine Ev.step (g := fun k => (r00_CopyInts.f k ps[j]).bind fun t => r00_CopyRows.l0 k ps (ps.take j ++ [t]) ((j + 1 : Nat) : Int)) (fun k => ?_) (Ev.bind (copy_row _ (hr _ (List.getElem_mem hjl))) ?_)
  ·rw [r00_CopyRows.l0, if_pos (by omega), if_pos (by omega), w64_succ j (by omega), rdL1_at ps j _ hx]
   congr 1
   funext t
   rw [if_pos (by rw [List.length_take]; omega)]
  ·have := ih (j + 1) (by omega)
   rw [List.take_add_one, hx] at this
   exact this
theorem copy_image (a b c : Int) (ps : List (List Int)) (hn : ps.length ≤ 1000) (hr : ∀ r ∈ ps, r.length ≤ 10000000) : Ev fun k => r00_CopyImage.f k a b c ps = some (a, b, c, ps) := by
 obtain ⟨K, hK⟩ := copy_rows ps hn hr ps.length 0 (by omega)
 refine ⟨K, fun k hk => ?_⟩
 show r00_CopyImage.f k a b c ps = some (a, b, c, ps)
 have h1 : r00_CopyRows.f k ps = some ps := by
  unfold r00_CopyRows.f
  rw [if_pos (by omega)]
  exact hK k hk
 unfold r00_CopyImage.f
 rw [h1]
 rfl
theorem okPic.len {s : Nat × Nat × List (List Int)} (h : okPic s) : ∀ r ∈ s.2.2, r.length ≤ 10000000 := fun r hr => by
 have h1 := h.2.2.2.2.2 r hr
 have h2 := Nat.mul_le_mul h.2.1 h.2.2.2.1
 omega
def r00_EqInts.l0 : Nat → List Int → List Int → Int → Option (Bool)
 | 0, _, _, _ => none
 | k + 1, x0, x1, x5 => if x5 < (x0.length : Int) then (if 0 ≤ x5 then (if x5 < (x1.length : Int) then (if (rd x0 x5) = (rd x1 x5) then (r00_EqInts.l0 k x0 x1 (wrap64 (x5 + 1))) else (some false)) else (none)) else (none)) else (some true)
def r00_EqInts.f (k : Nat) (l0 : List Int) (l1 : List Int) : Option (Bool) := if (l0.length : Int) = (l1.length : Int) then (r00_EqInts.l0 k l0 l1 0) else (some false)
set_option maxHeartbeats 8000000 in
set_option maxRecDepth 100000 in
theorem r00_EqInts.calls (k : Nat) (A0 : Option Addr) (c0 : Nat) (l0 : List Int) (A1 : Option Addr) (c1 : Nat) (l1 : List Int) (r : Bool) (w : World) (hr0 : Kd.C (Kd.int .i64) w A0 l0.length l0) (hc0 : l0.length ≤ c0) (hr1 : Kd.C (Kd.int .i64) w A1 l1.length l1) (hc1 : l1.length ≤ c1) (h : r00_EqInts.f k l0 l1 = some r) :
  Calls Tryz.prog 23 #[.slice A0 l0.length c0, .slice A1 l1.length c1] w fun e w' => e = .returned (.bool r) ∧ Drawn0 w w' := by
 have HR0 := As0.mk hr0
 have HC0 := As0.mk hc0
 clear hr0 hc0
 have HR1 := As0.mk hr1
 have HC1 := As0.mk hc1
 clear hr1 hc1
 have H : (if (l0.length : Int) = (l1.length : Int) then (r00_EqInts.l0 k l0 l1 0) else (some false)) = some r := h
 clear h
 by_cases c3 : (l0.length : Int) = (l1.length : Int)
 ·rw [if_pos c3] at H
  have c3b0 : ((l0.length : Int) == (l1.length : Int)) = true := beq_iff_eq.mpr c3
  have c3b1 : ((l0.length : Int) != (l1.length : Int)) = false := bne_eq_false_iff_eq.mpr c3
  have c3b2 : (l0.length == l1.length) = true := by first | simpa using c3 | (simp at c3 ⊢; omega)
  clear c3
  have H' := As0.mk H
  clear H
  go_enter Tryz.func23, Tryz.ntmps23
  go_wp2
  repeat (go_quiet (fail); try go_wp2)
  go_loopg [5] k (fun kq v5 w' => ∃ (x5_1 : Int), v5 = .int .i64 x5_1 ∧ As0 (r00_EqInts.l0 kq l0 l1 x5_1 = some r) ∧ As0 (kq ≤ k) ∧ Drawn0 w w')
  case atStart => exact ⟨(0), (by first | rfl | (simp; done) | (simp [*]; done)), H', ⟨Nat.le_refl _⟩, by repeat (first | exact Drawn0.refl _ | apply Drawn0.step)⟩
  case round =>
   clear H'
   try clear c1
   try clear c2
   try clear p2
   try clear c3
   try clear c3b0
   try clear c3b1
   try clear c3b2
   obtain ⟨x5_1, rfl, HA, HK1, ⟨m1, rfl⟩⟩ := hrel
   cases gk with
   | zero => exact absurd HA.out (by simp [r00_EqInts.l0])
   | succ k1 =>
    have H := HA.out
    clear HA
    simp only [r00_EqInts.l0] at H
    by_cases c4 : x5_1 < (l0.length : Int)
    ·rw [if_pos c4] at H
     have c4b0 : decide (x5_1 < (l0.length : Int)) = true := decide_eq_true c4
     clear c4
     by_cases c5 : 0 ≤ x5_1
     ·rw [if_pos c5] at H
      have c5b0 : decide (0 ≤ x5_1) = true := decide_eq_true c5
      clear c5
      by_cases c6 : x5_1 < (l1.length : Int)
      ·rw [if_pos c6] at H
       have c6b0 : decide (x5_1 < (l1.length : Int)) = true := decide_eq_true c6
       clear c6
       by_cases c7 : (rd l0 x5_1) = (rd l1 x5_1)
       ·rw [if_pos c7] at H
        have c7b0 : ((rd l0 x5_1) == (rd l1 x5_1)) = true := beq_iff_eq.mpr c7
        have c7b1 : ((rd l0 x5_1) != (rd l1 x5_1)) = false := bne_eq_false_iff_eq.mpr c7
        clear c7
        have H' := As0.mk H
        clear H
        have p195 : 0 ≤ (x5_1 : Int) := of_decide_eq_true (by first | (with_reducible assumption) | assumption)
        have q195 : x5_1 < (l0.length : Int) := of_decide_eq_true (by first | (with_reducible assumption) | assumption)
        obtain ⟨ad195, e195, hx195_0⟩ := Kd.at_int HR0.out x5_1 p195 q195
        cases e195
        replace p195 := eq_true p195
        replace q195 := eq_true q195
        have p196 : 0 ≤ (x5_1 : Int) := of_decide_eq_true (by first | (with_reducible assumption) | assumption)
        have q196 : x5_1 < (l1.length : Int) := of_decide_eq_true (by first | (with_reducible assumption) | assumption)
        obtain ⟨ad196, e196, hx196_0⟩ := Kd.at_int HR1.out x5_1 p196 q196
        cases e196
        replace p196 := eq_true p196
        replace q196 := eq_true q196
        go_wp2
        repeat (go_quiet (fail); try go_wp2)
        go_roundg k1
        case measure => have := HK1.out; omega
        case rel => exact ⟨(wrap64 (x5_1 + 1)), (by first | rfl | (simp; done) | (simp [*]; done)), H', ⟨by have := HK1.out; omega⟩, by repeat (first | exact Drawn0.refl _ | apply Drawn0.step)⟩
       ·rw [if_neg c7] at H
        have c7b0 : ((rd l0 x5_1) == (rd l1 x5_1)) = false := beq_eq_false_iff_ne.mpr c7
        have c7b1 : ((rd l0 x5_1) != (rd l1 x5_1)) = true := bne_iff_ne.mpr c7
        obtain rfl := Option.some.inj H
        have p195 : 0 ≤ (x5_1 : Int) := of_decide_eq_true (by first | (with_reducible assumption) | assumption)
        have q195 : x5_1 < (l0.length : Int) := of_decide_eq_true (by first | (with_reducible assumption) | assumption)
        obtain ⟨ad195, e195, hx195_0⟩ := Kd.at_int HR0.out x5_1 p195 q195
        cases e195
        replace p195 := eq_true p195
        replace q195 := eq_true q195
        have p196 : 0 ≤ (x5_1 : Int) := of_decide_eq_true (by first | (with_reducible assumption) | assumption)
        have q196 : x5_1 < (l1.length : Int) := of_decide_eq_true (by first | (with_reducible assumption) | assumption)
        obtain ⟨ad196, e196, hx196_0⟩ := Kd.at_int HR1.out x5_1 p196 q196
        cases e196
        replace p196 := eq_true p196
        replace q196 := eq_true q196
        go_wp2
        repeat (go_quiet (fail); try go_wp2)
        go_ret
        exact ⟨by first | rfl | (simp; done) | (simp [*]; done), by repeat (first | exact Drawn0.refl _ | apply Drawn0.step)⟩
      ·rw [if_neg c6] at H
       exact absurd H (by simp)
     ·rw [if_neg c5] at H
      exact absurd H (by simp)
    ·rw [if_neg c4] at H
     have c4b0 : decide (x5_1 < (l0.length : Int)) = false := decide_eq_false c4
     clear c4
     obtain rfl := Option.some.inj H
     go_wp2
     repeat (go_quiet (fail); try go_wp2)
     go_ret
     exact ⟨by first | rfl | (simp; done) | (simp [*]; done), by repeat (first | exact Drawn0.refl _ | apply Drawn0.step)⟩
 ·rw [if_neg c3] at H
  have c3b0 : ((l0.length : Int) == (l1.length : Int)) = false := beq_eq_false_iff_ne.mpr c3
  have c3b1 : ((l0.length : Int) != (l1.length : Int)) = true := bne_iff_ne.mpr c3
  have c3b2 : (l0.length == l1.length) = false := by first | simpa using c3 | (simp at c3 ⊢; omega)
  obtain rfl := Option.some.inj H
  go_enter Tryz.func23, Tryz.ntmps23
  go_wp2
  repeat (go_quiet (fail); try go_wp2)
  go_ret
  exact ⟨by first | rfl | (simp; done) | (simp [*]; done), by repeat (first | exact Drawn0.refl _ | apply Drawn0.step)⟩
def r00_EqRows.l0 : Nat → List (List Int) → List (List Int) → Int → Option (Bool)
 | 0, _, _, _ => none
 | k + 1, x0, x1, x5 => if x5 < (x0.length : Int) then (if 0 ≤ x5 then (if x5 < (x1.length : Int) then ((r00_EqInts.f k (rd_L1 x0 x5) (rd_L1 x1 x5)).bind fun t199 => (if t199 = true then (r00_EqRows.l0 k x0 x1 (wrap64 (x5 + 1))) else (some false))) else (none)) else (none)) else (some true)
def r00_EqRows.f (k : Nat) (l0 : List (List Int)) (l1 : List (List Int)) : Option (Bool) := if (l0.length : Int) = (l1.length : Int) then (r00_EqRows.l0 k l0 l1 0) else (some false)
set_option maxHeartbeats 8000000 in
set_option maxRecDepth 100000 in
theorem r00_EqRows.calls (k : Nat) (A0 : Option Addr) (c0 : Nat) (l0 : List (List Int)) (A1 : Option Addr) (c1 : Nat) (l1 : List (List Int)) (r : Bool) (w : World) (hr0 : Kd.C (Kd.slice 3 (Kd.int .i64)) w A0 l0.length l0) (hc0 : l0.length ≤ c0) (hr1 : Kd.C (Kd.slice 3 (Kd.int .i64)) w A1 l1.length l1) (hc1 : l1.length ≤ c1) (h : r00_EqRows.f k l0 l1 = some r) :
  Calls Tryz.prog 52 #[.slice A0 l0.length c0, .slice A1 l1.length c1] w fun e w' => e = .returned (.bool r) ∧ Drawn0 w w' := by
 have HR0 := As0.mk hr0
 have HC0 := As0.mk hc0
 clear hr0 hc0
 have HR1 := As0.mk hr1
 have HC1 := As0.mk hc1
 clear hr1 hc1
 have H : (if (l0.length : Int) = (l1.length : Int) then (r00_EqRows.l0 k l0 l1 0) else (some false)) = some r := h
 clear h
 by_cases c3 : (l0.length : Int) = (l1.length : Int)
 ·rw [if_pos c3] at H
  have c3b0 : ((l0.length : Int) == (l1.length : Int)) = true := beq_iff_eq.mpr c3
  have c3b1 : ((l0.length : Int) != (l1.length : Int)) = false := bne_eq_false_iff_eq.mpr c3
  have c3b2 : (l0.length == l1.length) = true := by first | simpa using c3 | (simp at c3 ⊢; omega)
  clear c3
  have H' := As0.mk H
  clear H
  go_enter Tryz.func52, Tryz.ntmps52
  go_wp2
  repeat (go_quiet (fail); try go_wp2)
  go_loopg [5] k (fun kq v5 w' => ∃ (x5_1 : Int), v5 = .int .i64 x5_1 ∧ As0 (r00_EqRows.l0 kq l0 l1 x5_1 = some r) ∧ As0 (kq ≤ k) ∧ Drawn0 w w')
  case atStart => exact ⟨(0), (by first | rfl | (simp; done) | (simp [*]; done)), H', ⟨Nat.le_refl _⟩, by repeat (first | exact Drawn0.refl _ | apply Drawn0.step)⟩
  case round =>
   clear H'
   try clear c1
   try clear p2
   try clear c3
   try clear c3b0
   try clear c3b1
   try clear c3b2
   obtain ⟨x5_1, rfl, HA, HK1, ⟨m1, rfl⟩⟩ := hrel
   cases gk with
   | zero => exact absurd HA.out (by simp [r00_EqRows.l0])
   | succ k1 =>
    have H := HA.out
    clear HA
    simp only [r00_EqRows.l0] at H
    by_cases c4 : x5_1 < (l0.length : Int)
    ·rw [if_pos c4] at H
     have c4b0 : decide (x5_1 < (l0.length : Int)) = true := decide_eq_true c4
     clear c4
     by_cases c5 : 0 ≤ x5_1
     ·rw [if_pos c5] at H
      have c5b0 : decide (0 ≤ x5_1) = true := decide_eq_true c5
      clear c5
      by_cases c6 : x5_1 < (l1.length : Int)
      ·rw [if_pos c6] at H
       have c6b0 : decide (x5_1 < (l1.length : Int)) = true := decide_eq_true c6
       clear c6
       replace H := Option.bind_eq_some_iff.mp H
       obtain ⟨t199, A70, H⟩ := H
       replace H : (if t199 = true then (r00_EqRows.l0 k1 l0 l1 (wrap64 (x5_1 + 1))) else (some false)) = some r := H
       have A7 := As0.mk A70
       clear A70
       by_cases c8 : t199 = true
       ·subst c8
        have H1 : (r00_EqRows.l0 k1 l0 l1 (wrap64 (x5_1 + 1))) = some r := by rw [if_pos rfl] at H; exact H
        clear H
        have H := H1
        clear H1
        have H' := As0.mk H
        clear H
        have p197 : 0 ≤ (x5_1 : Int) := of_decide_eq_true (by first | (with_reducible assumption) | assumption)
        have q197 : x5_1 < (l0.length : Int) := of_decide_eq_true (by first | (with_reducible assumption) | assumption)
        obtain ⟨ad197, A197_0, c197_0, e197, hx197_0, hl197_0, hi197_0⟩ := at_L1 HR0.out x5_1 p197 q197
        cases e197
        have HR197_0 := As0.mk hi197_0
        have HC197_0 := As0.mk hl197_0
        clear hi197_0 hl197_0
        replace p197 := eq_true p197
        replace q197 := eq_true q197
        have p198 : 0 ≤ (x5_1 : Int) := of_decide_eq_true (by first | (with_reducible assumption) | assumption)
        have q198 : x5_1 < (l1.length : Int) := of_decide_eq_true (by first | (with_reducible assumption) | assumption)
        obtain ⟨ad198, A198_0, c198_0, e198, hx198_0, hl198_0, hi198_0⟩ := at_L1 HR1.out x5_1 p198 q198
        cases e198
        have HR198_0 := As0.mk hi198_0
        have HC198_0 := As0.mk hl198_0
        clear hi198_0 hl198_0
        replace p198 := eq_true p198
        replace q198 := eq_true q198
        go_wp2_with (first | (go_at_call 23; (with_reducible refine (r00_EqInts.calls k1 _ _ (rd_L1 l0 x5_1) _ _ (rd_L1 l1 x5_1) true _ ?side1 ?side2 ?side3 ?side4 A7.out).mono ?_); (case side1 => repeat (first | exact HR197_0.out | (with_reducible refine Kd.C_alloc ?_ _) | (with_reducible refine Kd.C_drewN ?_ _) | (with_reducible refine Kd.C_drew ?_))); (case side2 => exact HC197_0.out); (case side3 => repeat (first | exact HR198_0.out | (with_reducible refine Kd.C_alloc ?_ _) | (with_reducible refine Kd.C_drewN ?_ _) | (with_reducible refine Kd.C_drew ?_))); (case side4 => exact HC198_0.out); rintro e w' ⟨rfl, ⟨nd, rfl⟩⟩; (try first | exact ⟨rfl, _, World.drewN_drewN _ _ _⟩ | exact ⟨rfl, _, Eq.trans (World.drewN_drewN _ _ _) (congrArg (World.drewN _) (Nat.add_assoc _ _ _))⟩)))
        repeat (go_quiet (first | (go_at_call 23; (with_reducible refine (r00_EqInts.calls k1 _ _ (rd_L1 l0 x5_1) _ _ (rd_L1 l1 x5_1) true _ ?side1 ?side2 ?side3 ?side4 A7.out).mono ?_); (case side1 => repeat (first | exact HR197_0.out | (with_reducible refine Kd.C_alloc ?_ _) | (with_reducible refine Kd.C_drewN ?_ _) | (with_reducible refine Kd.C_drew ?_))); (case side2 => exact HC197_0.out); (case side3 => repeat (first | exact HR198_0.out | (with_reducible refine Kd.C_alloc ?_ _) | (with_reducible refine Kd.C_drewN ?_ _) | (with_reducible refine Kd.C_drew ?_))); (case side4 => exact HC198_0.out); rintro e w' ⟨rfl, ⟨nd, rfl⟩⟩; (try first | exact ⟨rfl, _, World.drewN_drewN _ _ _⟩ | exact ⟨rfl, _, Eq.trans (World.drewN_drewN _ _ _) (congrArg (World.drewN _) (Nat.add_assoc _ _ _))⟩))); try go_wp2_with (first | (go_at_call 23; (with_reducible refine (r00_EqInts.calls k1 _ _ (rd_L1 l0 x5_1) _ _ (rd_L1 l1 x5_1) true _ ?side1 ?side2 ?side3 ?side4 A7.out).mono ?_); (case side1 => repeat (first | exact HR197_0.out | (with_reducible refine Kd.C_alloc ?_ _) | (with_reducible refine Kd.C_drewN ?_ _) | (with_reducible refine Kd.C_drew ?_))); (case side2 => exact HC197_0.out); (case side3 => repeat (first | exact HR198_0.out | (with_reducible refine Kd.C_alloc ?_ _) | (with_reducible refine Kd.C_drewN ?_ _) | (with_reducible refine Kd.C_drew ?_))); (case side4 => exact HC198_0.out); rintro e w' ⟨rfl, ⟨nd, rfl⟩⟩; (try first | exact ⟨rfl, _, World.drewN_drewN _ _ _⟩ | exact ⟨rfl, _, Eq.trans (World.drewN_drewN _ _ _) (congrArg (World.drewN _) (Nat.add_assoc _ _ _))⟩))))
        go_roundg k1
        case measure => have := HK1.out; omega
        case rel => exact ⟨(wrap64 (x5_1 + 1)), (by first | rfl | (simp; done) | (simp [*]; done)), H', ⟨by have := HK1.out; omega⟩, by repeat (first | exact Drawn0.refl _ | apply Drawn0.step)⟩
       ·replace c8 := Bool.eq_false_iff.mpr c8
        subst c8
        have H1 : (some false) = some r := by rw [if_neg (show ¬ (false = true) by decide)] at H; exact H
        clear H
        have H := H1
        clear H1
        obtain rfl := Option.some.inj H
        have p197 : 0 ≤ (x5_1 : Int) := of_decide_eq_true (by first | (with_reducible assumption) | assumption)
        have q197 : x5_1 < (l0.length : Int) := of_decide_eq_true (by first | (with_reducible assumption) | assumption)
        obtain ⟨ad197, A197_0, c197_0, e197, hx197_0, hl197_0, hi197_0⟩ := at_L1 HR0.out x5_1 p197 q197
        cases e197
        have HR197_0 := As0.mk hi197_0
        have HC197_0 := As0.mk hl197_0
        clear hi197_0 hl197_0
        replace p197 := eq_true p197
        replace q197 := eq_true q197
        have p198 : 0 ≤ (x5_1 : Int) := of_decide_eq_true (by first | (with_reducible assumption) | assumption)
        have q198 : x5_1 < (l1.length : Int) := of_decide_eq_true (by first | (with_reducible assumption) | assumption)
        obtain ⟨ad198, A198_0, c198_0, e198, hx198_0, hl198_0, hi198_0⟩ := at_L1 HR1.out x5_1 p198 q198
        cases e198
        have HR198_0 := As0.mk hi198_0
        have HC198_0 := As0.mk hl198_0
        clear hi198_0 hl198_0
        replace p198 := eq_true p198
        replace q198 := eq_true q198
        go_wp2_with (first | (go_at_call 23; (with_reducible refine (r00_EqInts.calls k1 _ _ (rd_L1 l0 x5_1) _ _ (rd_L1 l1 x5_1) false _ ?side1 ?side2 ?side3 ?side4 A7.out).mono ?_); (case side1 => repeat (first | exact HR197_0.out | (with_reducible refine Kd.C_alloc ?_ _) | (with_reducible refine Kd.C_drewN ?_ _) | (with_reducible refine Kd.C_drew ?_))); (case side2 => exact HC197_0.out); (case side3 => repeat (first | exact HR198_0.out | (with_reducible refine Kd.C_alloc ?_ _) | (with_reducible refine Kd.C_drewN ?_ _) | (with_reducible refine Kd.C_drew ?_))); (case side4 => exact HC198_0.out); rintro e w' ⟨rfl, ⟨nd, rfl⟩⟩; (try first | exact ⟨rfl, _, World.drewN_drewN _ _ _⟩ | exact ⟨rfl, _, Eq.trans (World.drewN_drewN _ _ _) (congrArg (World.drewN _) (Nat.add_assoc _ _ _))⟩)))
        repeat (go_quiet (first | (go_at_call 23; (with_reducible refine (r00_EqInts.calls k1 _ _ (rd_L1 l0 x5_1) _ _ (rd_L1 l1 x5_1) false _ ?side1 ?side2 ?side3 ?side4 A7.out).mono ?_); (case side1 => repeat (first | exact HR197_0.out | (with_reducible refine Kd.C_alloc ?_ _) | (with_reducible refine Kd.C_drewN ?_ _) | (with_reducible refine Kd.C_drew ?_))); (case side2 => exact HC197_0.out); (case side3 => repeat (first | exact HR198_0.out | (with_reducible refine Kd.C_alloc ?_ _) | (with_reducible refine Kd.C_drewN ?_ _) | (with_reducible refine Kd.C_drew ?_))); (case side4 => exact HC198_0.out); rintro e w' ⟨rfl, ⟨nd, rfl⟩⟩; (try first | exact ⟨rfl, _, World.drewN_drewN _ _ _⟩ | exact ⟨rfl, _, Eq.trans (World.drewN_drewN _ _ _) (congrArg (World.drewN _) (Nat.add_assoc _ _ _))⟩))); try go_wp2_with (first | (go_at_call 23; (with_reducible refine (r00_EqInts.calls k1 _ _ (rd_L1 l0 x5_1) _ _ (rd_L1 l1 x5_1) false _ ?side1 ?side2 ?side3 ?side4 A7.out).mono ?_); (case side1 => repeat (first | exact HR197_0.out | (with_reducible refine Kd.C_alloc ?_ _) | (with_reducible refine Kd.C_drewN ?_ _) | (with_reducible refine Kd.C_drew ?_))); (case side2 => exact HC197_0.out); (case side3 => repeat (first | exact HR198_0.out | (with_reducible refine Kd.C_alloc ?_ _) | (with_reducible refine Kd.C_drewN ?_ _) | (with_reducible refine Kd.C_drew ?_))); (case side4 => exact HC198_0.out); rintro e w' ⟨rfl, ⟨nd, rfl⟩⟩; (try first | exact ⟨rfl, _, World.drewN_drewN _ _ _⟩ | exact ⟨rfl, _, Eq.trans (World.drewN_drewN _ _ _) (congrArg (World.drewN _) (Nat.add_assoc _ _ _))⟩))))
        go_ret
        exact ⟨by first | rfl | (simp; done) | (simp [*]; done), by repeat (first | exact Drawn0.refl _ | apply Drawn0.step)⟩
      ·rw [if_neg c6] at H
       exact absurd H (by simp)
     ·rw [if_neg c5] at H
      exact absurd H (by simp)
    ·rw [if_neg c4] at H
     have c4b0 : decide (x5_1 < (l0.length : Int)) = false := decide_eq_false c4
     clear c4
     obtain rfl := Option.some.inj H
     go_wp2
     repeat (go_quiet (fail); try go_wp2)
     go_ret
     exact ⟨by first | rfl | (simp; done) | (simp [*]; done), by repeat (first | exact Drawn0.refl _ | apply Drawn0.step)⟩
 ·rw [if_neg c3] at H
  have c3b0 : ((l0.length : Int) == (l1.length : Int)) = false := beq_eq_false_iff_ne.mpr c3
  have c3b1 : ((l0.length : Int) != (l1.length : Int)) = true := bne_iff_ne.mpr c3
  have c3b2 : (l0.length == l1.length) = false := by first | simpa using c3 | (simp at c3 ⊢; omega)
  obtain rfl := Option.some.inj H
  go_enter Tryz.func52, Tryz.ntmps52
  go_wp2
  repeat (go_quiet (fail); try go_wp2)
  go_ret
  exact ⟨by first | rfl | (simp; done) | (simp [*]; done), by repeat (first | exact Drawn0.refl _ | apply Drawn0.step)⟩
def r00_EqImage.f (k : Nat) (a0_0 : Int) (a0_1 : Int) (a0_2 : Int) (l0_3 : List (List Int)) (a1_0 : Int) (a1_1 : Int) (a1_2 : Int) (l1_3 : List (List Int)) : Option (Bool) := if a0_0 = a1_0 then (if a0_1 = a1_1 then (if a0_2 = a1_2 then ((r00_EqRows.f k l0_3 l1_3).bind fun t202 => (some t202)) else (some false)) else (some false)) else (some false)
set_option maxHeartbeats 8000000 in
set_option maxRecDepth 100000 in
theorem r00_EqImage.calls (k : Nat) (a0_0 : Int) (a0_1 : Int) (a0_2 : Int) (A0_3 : Option Addr) (c0_3 : Nat) (l0_3 : List (List Int)) (a1_0 : Int) (a1_1 : Int) (a1_2 : Int) (A1_3 : Option Addr) (c1_3 : Nat) (l1_3 : List (List Int)) (r : Bool) (w : World) (hr0_3 : Kd.C (Kd.slice 3 (Kd.int .i64)) w A0_3 l0_3.length l0_3) (hc0_3 : l0_3.length ≤ c0_3) (hr1_3 : Kd.C (Kd.slice 3 (Kd.int .i64)) w A1_3 l1_3.length l1_3) (hc1_3 : l1_3.length ≤ c1_3) (h : r00_EqImage.f k a0_0 a0_1 a0_2 l0_3 a1_0 a1_1 a1_2 l1_3 = some r) :
  Calls Tryz.prog 15 #[.agg #[.int .i64 a0_0, .int .i64 a0_1, .int .i64 a0_2, .slice A0_3 l0_3.length c0_3], .agg #[.int .i64 a1_0, .int .i64 a1_1, .int .i64 a1_2, .slice A1_3 l1_3.length c1_3]] w fun e w' => e = .returned (.bool r) ∧ Below w.heap.size w w' := by
 have hu24 := Tryz.underlying24
 have HR0_3 := As0.mk hr0_3
 have HC0_3 := As0.mk hc0_3
 clear hr0_3 hc0_3
 have HR1_3 := As0.mk hr1_3
 have HC1_3 := As0.mk hc1_3
 clear hr1_3 hc1_3
 have HB := As0.mk (Below.refl w.heap.size w)
 have H : (if a0_0 = a1_0 then (if a0_1 = a1_1 then (if a0_2 = a1_2 then ((r00_EqRows.f k l0_3 l1_3).bind fun t202 => (some t202)) else (some false)) else (some false)) else (some false)) = some r := h
 clear h
 by_cases c3 : a0_0 = a1_0
 ·rw [if_pos c3] at H
  have c3b0 : (a0_0 == a1_0) = true := beq_iff_eq.mpr c3
  have c3b1 : (a0_0 != a1_0) = false := bne_eq_false_iff_eq.mpr c3
  clear c3
  by_cases c4 : a0_1 = a1_1
  ·rw [if_pos c4] at H
   have c4b0 : (a0_1 == a1_1) = true := beq_iff_eq.mpr c4
   have c4b1 : (a0_1 != a1_1) = false := bne_eq_false_iff_eq.mpr c4
   clear c4
   by_cases c5 : a0_2 = a1_2
   ·rw [if_pos c5] at H
    have c5b0 : (a0_2 == a1_2) = true := beq_iff_eq.mpr c5
    have c5b1 : (a0_2 != a1_2) = false := bne_eq_false_iff_eq.mpr c5
    clear c5
    replace H := Option.bind_eq_some_iff.mp H
    obtain ⟨t202, A60, H⟩ := H
    replace H : (some t202) = some r := H
    have A6 := As0.mk A60
    clear A60
    obtain rfl := Option.some.inj H
    go_enter Tryz.func15, Tryz.ntmps15
    go_wp2_with (first | ((with_reducible refine gdt (N := 2) rfl ?_); refine bxe ?hg (N := 2) ?hd (cs := #[.int .i64 a0_0, .int .i64 a0_1, .int .i64 a0_2, .slice A0_3 l0_3.length c0_3]) (t := 24) ?hr ?_; (case hd => rfl); (case hg => rfl); (case hr => first | (go_simp; done) | (go_simp; rfl)); intro gb200 hg w7 hbox hb; have n0_ := As0.mk (bwp (by repeat (first | (with_reducible first | exact HB.out | apply bwa | apply pwN | apply bwd) | exact HB.out)) hb); have n1_ := As0.mk (hbox); have n2_ := As0.mk ((by rw [hg]; exact (bwz (by repeat (first | (with_reducible first | exact HB.out | apply bwa | apply pwN | apply bwd) | exact HB.out))) : w.heap.size ≤ gb200)); have n3_ := As0.mk ((by rw [hg]; exact (bwz (by repeat (first | (with_reducible first | exact HB.out | apply bwa | apply pwN | apply bwd) | exact HB.out))) : w.heap.size ≤ gb200)); clear HB; have HB := n0_; have BK200 := n1_; have GW200 := n2_; have GE200 := n3_; clear n0_ n1_ n2_ n3_; clear hb hbox hg) | ((with_reducible refine gdt (N := 3) rfl ?_); refine bxe ?hg (N := 3) ?hd (cs := #[.int .i64 a1_0, .int .i64 a1_1, .int .i64 a1_2, .slice A1_3 l1_3.length c1_3]) (t := 24) ?hr ?_; (case hd => rfl); (case hg => rfl); (case hr => first | (go_simp; done) | (go_simp; rfl)); intro gb201 hg w8 hbox hb; have n0_ := As0.mk (bkb (g := gb200) (o := .cells #[.int .i64 a0_0, .int .i64 a0_1, .int .i64 a0_2, .slice A0_3 l0_3.length c0_3] 24 (0, 0)) (by (with_reducible repeat (first | refine bkN ?_ _ | refine bkd ?_ | refine bka ?_ _)); exact BK200.out) hb); have n1_ := As0.mk (bwp (by repeat (first | (with_reducible first | exact HB.out | apply bwa | apply pwN | apply bwd | refine bws ?_ GE200.out) | exact HB.out)) hb); have n2_ := As0.mk (hbox); have n3_ := As0.mk ((by rw [hg]; exact (bwz (by repeat (first | (with_reducible first | exact HB.out | apply bwa | apply pwN | apply bwd | refine bws ?_ GE200.out) | exact HB.out))) : w.heap.size ≤ gb201)); have n4_ := As0.mk ((by rw [hg]; exact (bwz (by repeat (first | (with_reducible first | exact HB.out | apply bwa | apply pwN | apply bwd | refine bws ?_ GE200.out) | exact HB.out))) : w.heap.size ≤ gb201)); have n5_ := As0.mk ((by rw [hg]; exact Nat.ne_of_lt (blk_lt (g := gb200) (o := .cells #[.int .i64 a0_0, .int .i64 a0_1, .int .i64 a0_2, .slice A0_3 l0_3.length c0_3] 24 (0, 0)) (by (with_reducible repeat (first | refine bkN ?_ _ | refine bkd ?_ | refine bka ?_ _)); exact BK200.out)) : gb200 ≠ gb201)); have n6_ := As0.mk ((by rw [hg]; exact Nat.ne_of_gt (blk_lt (g := gb200) (o := .cells #[.int .i64 a0_0, .int .i64 a0_1, .int .i64 a0_2, .slice A0_3 l0_3.length c0_3] 24 (0, 0)) (by (with_reducible repeat (first | refine bkN ?_ _ | refine bkd ?_ | refine bka ?_ _)); exact BK200.out)) : gb201 ≠ gb200)); clear BK200; clear HB; have BK200 := n0_; have HB := n1_; have BK201 := n2_; have GW201 := n3_; have GE201 := n4_; have NB200_201 := n5_; have NB201_200 := n6_; clear n0_ n1_ n2_ n3_ n4_ n5_ n6_; clear hb hbox hg; have hnb9 := NB200_201.out; have hnc9 := NB201_200.out; have hcz10_0 : w8.cell? ⟨gb200, 0, none⟩ = some (.int .i64 a0_0) := (bkc BK200.out 0).trans rfl; have hcz10_1 : w8.cell? ⟨gb200, 1, none⟩ = some (.int .i64 a0_1) := (bkc BK200.out 1).trans rfl; have hcz10_2 : w8.cell? ⟨gb200, 2, none⟩ = some (.int .i64 a0_2) := (bkc BK200.out 2).trans rfl; have hcz10_3 : w8.cell? ⟨gb200, 3, none⟩ = some (.slice A0_3 l0_3.length c0_3) := (bkc BK200.out 3).trans rfl; have hfz10_0 := bkz BK200.out 0; have hfz10_1 := bkz BK200.out 1; have hfz10_2 := bkz BK200.out 2; have hfz10_3 := bkz BK200.out 3; have hcz11_0 : w8.cell? ⟨gb201, 0, none⟩ = some (.int .i64 a1_0) := (bkc BK201.out 0).trans rfl; have hcz11_1 : w8.cell? ⟨gb201, 1, none⟩ = some (.int .i64 a1_1) := (bkc BK201.out 1).trans rfl; have hcz11_2 : w8.cell? ⟨gb201, 2, none⟩ = some (.int .i64 a1_2) := (bkc BK201.out 2).trans rfl; have hcz11_3 : w8.cell? ⟨gb201, 3, none⟩ = some (.slice A1_3 l1_3.length c1_3) := (bkc BK201.out 3).trans rfl; have hfz11_0 := bkz BK201.out 0; have hfz11_1 := bkz BK201.out 1; have hfz11_2 := bkz BK201.out 2; have hfz11_3 := bkz BK201.out 3) | (go_at_call 52; (with_reducible refine (r00_EqRows.calls k _ _ l0_3 _ _ l1_3 t202 _ ?side1 ?side2 ?side3 ?side4 A6.out).mono ?_); (case side1 => repeat (first | exact (Kd.C_below HR0_3.out HB.out) | (with_reducible refine Kd.C_alloc ?_ _) | (with_reducible refine Kd.C_drewN ?_ _) | (with_reducible refine Kd.C_drew ?_))); (case side2 => exact HC0_3.out); (case side3 => repeat (first | exact (Kd.C_below HR1_3.out HB.out) | (with_reducible refine Kd.C_alloc ?_ _) | (with_reducible refine Kd.C_drewN ?_ _) | (with_reducible refine Kd.C_drew ?_))); (case side4 => exact HC1_3.out); rintro e w' ⟨rfl, ⟨nd, rfl⟩⟩))
    go_ret
    exact ⟨by first | rfl | (simp [errW_none, errW_some] <;> rfl) | (simp [*, errW_none, errW_some] <;> rfl), by repeat (first | (with_reducible first | exact HB.out | apply bwa | apply pwN | apply bwd | refine bws ?_ GE200.out | refine bws ?_ GE201.out) | exact HB.out)⟩
   ·rw [if_neg c5] at H
    have c5b0 : (a0_2 == a1_2) = false := beq_eq_false_iff_ne.mpr c5
    have c5b1 : (a0_2 != a1_2) = true := bne_iff_ne.mpr c5
    obtain rfl := Option.some.inj H
    go_enter Tryz.func15, Tryz.ntmps15
    go_wp2_with (first | ((with_reducible refine gdt (N := 2) rfl ?_); refine bxe ?hg (N := 2) ?hd (cs := #[.int .i64 a0_0, .int .i64 a0_1, .int .i64 a0_2, .slice A0_3 l0_3.length c0_3]) (t := 24) ?hr ?_; (case hd => rfl); (case hg => rfl); (case hr => first | (go_simp; done) | (go_simp; rfl)); intro gb200 hg w12 hbox hb; have n0_ := As0.mk (bwp (by repeat (first | (with_reducible first | exact HB.out | apply bwa | apply pwN | apply bwd) | exact HB.out)) hb); have n1_ := As0.mk (hbox); have n2_ := As0.mk ((by rw [hg]; exact (bwz (by repeat (first | (with_reducible first | exact HB.out | apply bwa | apply pwN | apply bwd) | exact HB.out))) : w.heap.size ≤ gb200)); have n3_ := As0.mk ((by rw [hg]; exact (bwz (by repeat (first | (with_reducible first | exact HB.out | apply bwa | apply pwN | apply bwd) | exact HB.out))) : w.heap.size ≤ gb200)); clear HB; have HB := n0_; have BK200 := n1_; have GW200 := n2_; have GE200 := n3_; clear n0_ n1_ n2_ n3_; clear hb hbox hg) | ((with_reducible refine gdt (N := 3) rfl ?_); refine bxe ?hg (N := 3) ?hd (cs := #[.int .i64 a1_0, .int .i64 a1_1, .int .i64 a1_2, .slice A1_3 l1_3.length c1_3]) (t := 24) ?hr ?_; (case hd => rfl); (case hg => rfl); (case hr => first | (go_simp; done) | (go_simp; rfl)); intro gb201 hg w13 hbox hb; have n0_ := As0.mk (bkb (g := gb200) (o := .cells #[.int .i64 a0_0, .int .i64 a0_1, .int .i64 a0_2, .slice A0_3 l0_3.length c0_3] 24 (0, 0)) (by (with_reducible repeat (first | refine bkN ?_ _ | refine bkd ?_ | refine bka ?_ _)); exact BK200.out) hb); have n1_ := As0.mk (bwp (by repeat (first | (with_reducible first | exact HB.out | apply bwa | apply pwN | apply bwd | refine bws ?_ GE200.out) | exact HB.out)) hb); have n2_ := As0.mk (hbox); have n3_ := As0.mk ((by rw [hg]; exact (bwz (by repeat (first | (with_reducible first | exact HB.out | apply bwa | apply pwN | apply bwd | refine bws ?_ GE200.out) | exact HB.out))) : w.heap.size ≤ gb201)); have n4_ := As0.mk ((by rw [hg]; exact (bwz (by repeat (first | (with_reducible first | exact HB.out | apply bwa | apply pwN | apply bwd | refine bws ?_ GE200.out) | exact HB.out))) : w.heap.size ≤ gb201)); have n5_ := As0.mk ((by rw [hg]; exact Nat.ne_of_lt (blk_lt (g := gb200) (o := .cells #[.int .i64 a0_0, .int .i64 a0_1, .int .i64 a0_2, .slice A0_3 l0_3.length c0_3] 24 (0, 0)) (by (with_reducible repeat (first | refine bkN ?_ _ | refine bkd ?_ | refine bka ?_ _)); exact BK200.out)) : gb200 ≠ gb201)); have n6_ := As0.mk ((by rw [hg]; exact Nat.ne_of_gt (blk_lt (g := gb200) (o := .cells #[.int .i64 a0_0, .int .i64 a0_1, .int .i64 a0_2, .slice A0_3 l0_3.length c0_3] 24 (0, 0)) (by (with_reducible repeat (first | refine bkN ?_ _ | refine bkd ?_ | refine bka ?_ _)); exact BK200.out)) : gb201 ≠ gb200)); clear BK200; clear HB; have BK200 := n0_; have HB := n1_; have BK201 := n2_; have GW201 := n3_; have GE201 := n4_; have NB200_201 := n5_; have NB201_200 := n6_; clear n0_ n1_ n2_ n3_ n4_ n5_ n6_; clear hb hbox hg; have hnb14 := NB200_201.out; have hnc14 := NB201_200.out; have hcz15_0 : w13.cell? ⟨gb200, 0, none⟩ = some (.int .i64 a0_0) := (bkc BK200.out 0).trans rfl; have hcz15_1 : w13.cell? ⟨gb200, 1, none⟩ = some (.int .i64 a0_1) := (bkc BK200.out 1).trans rfl; have hcz15_2 : w13.cell? ⟨gb200, 2, none⟩ = some (.int .i64 a0_2) := (bkc BK200.out 2).trans rfl; have hcz15_3 : w13.cell? ⟨gb200, 3, none⟩ = some (.slice A0_3 l0_3.length c0_3) := (bkc BK200.out 3).trans rfl; have hfz15_0 := bkz BK200.out 0; have hfz15_1 := bkz BK200.out 1; have hfz15_2 := bkz BK200.out 2; have hfz15_3 := bkz BK200.out 3; have hcz16_0 : w13.cell? ⟨gb201, 0, none⟩ = some (.int .i64 a1_0) := (bkc BK201.out 0).trans rfl; have hcz16_1 : w13.cell? ⟨gb201, 1, none⟩ = some (.int .i64 a1_1) := (bkc BK201.out 1).trans rfl; have hcz16_2 : w13.cell? ⟨gb201, 2, none⟩ = some (.int .i64 a1_2) := (bkc BK201.out 2).trans rfl; have hcz16_3 : w13.cell? ⟨gb201, 3, none⟩ = some (.slice A1_3 l1_3.length c1_3) := (bkc BK201.out 3).trans rfl; have hfz16_0 := bkz BK201.out 0; have hfz16_1 := bkz BK201.out 1; have hfz16_2 := bkz BK201.out 2; have hfz16_3 := bkz BK201.out 3))
    go_ret
    exact ⟨by first | rfl | (simp [errW_none, errW_some] <;> rfl) | (simp [*, errW_none, errW_some] <;> rfl), by repeat (first | (with_reducible first | exact HB.out | apply bwa | apply pwN | apply bwd | refine bws ?_ GE200.out | refine bws ?_ GE201.out) | exact HB.out)⟩
  ·rw [if_neg c4] at H
   have c4b0 : (a0_1 == a1_1) = false := beq_eq_false_iff_ne.mpr c4
   have c4b1 : (a0_1 != a1_1) = true := bne_iff_ne.mpr c4
   obtain rfl := Option.some.inj H
   go_enter Tryz.func15, Tryz.ntmps15
   go_wp2_with (first | ((with_reducible refine gdt (N := 2) rfl ?_); refine bxe ?hg (N := 2) ?hd (cs := #[.int .i64 a0_0, .int .i64 a0_1, .int .i64 a0_2, .slice A0_3 l0_3.length c0_3]) (t := 24) ?hr ?_; (case hd => rfl); (case hg => rfl); (case hr => first | (go_simp; done) | (go_simp; rfl)); intro gb200 hg w17 hbox hb; have n0_ := As0.mk (bwp (by repeat (first | (with_reducible first | exact HB.out | apply bwa | apply pwN | apply bwd) | exact HB.out)) hb); have n1_ := As0.mk (hbox); have n2_ := As0.mk ((by rw [hg]; exact (bwz (by repeat (first | (with_reducible first | exact HB.out | apply bwa | apply pwN | apply bwd) | exact HB.out))) : w.heap.size ≤ gb200)); have n3_ := As0.mk ((by rw [hg]; exact (bwz (by repeat (first | (with_reducible first | exact HB.out | apply bwa | apply pwN | apply bwd) | exact HB.out))) : w.heap.size ≤ gb200)); clear HB; have HB := n0_; have BK200 := n1_; have GW200 := n2_; have GE200 := n3_; clear n0_ n1_ n2_ n3_; clear hb hbox hg) | ((with_reducible refine gdt (N := 3) rfl ?_); refine bxe ?hg (N := 3) ?hd (cs := #[.int .i64 a1_0, .int .i64 a1_1, .int .i64 a1_2, .slice A1_3 l1_3.length c1_3]) (t := 24) ?hr ?_; (case hd => rfl); (case hg => rfl); (case hr => first | (go_simp; done) | (go_simp; rfl)); intro gb201 hg w18 hbox hb; have n0_ := As0.mk (bkb (g := gb200) (o := .cells #[.int .i64 a0_0, .int .i64 a0_1, .int .i64 a0_2, .slice A0_3 l0_3.length c0_3] 24 (0, 0)) (by (with_reducible repeat (first | refine bkN ?_ _ | refine bkd ?_ | refine bka ?_ _)); exact BK200.out) hb); have n1_ := As0.mk (bwp (by repeat (first | (with_reducible first | exact HB.out | apply bwa | apply pwN | apply bwd | refine bws ?_ GE200.out) | exact HB.out)) hb); have n2_ := As0.mk (hbox); have n3_ := As0.mk ((by rw [hg]; exact (bwz (by repeat (first | (with_reducible first | exact HB.out | apply bwa | apply pwN | apply bwd | refine bws ?_ GE200.out) | exact HB.out))) : w.heap.size ≤ gb201)); have n4_ := As0.mk ((by rw [hg]; exact (bwz (by repeat (first | (with_reducible first | exact HB.out | apply bwa | apply pwN | apply bwd | refine bws ?_ GE200.out) | exact HB.out))) : w.heap.size ≤ gb201)); have n5_ := As0.mk ((by rw [hg]; exact Nat.ne_of_lt (blk_lt (g := gb200) (o := .cells #[.int .i64 a0_0, .int .i64 a0_1, .int .i64 a0_2, .slice A0_3 l0_3.length c0_3] 24 (0, 0)) (by (with_reducible repeat (first | refine bkN ?_ _ | refine bkd ?_ | refine bka ?_ _)); exact BK200.out)) : gb200 ≠ gb201)); have n6_ := As0.mk ((by rw [hg]; exact Nat.ne_of_gt (blk_lt (g := gb200) (o := .cells #[.int .i64 a0_0, .int .i64 a0_1, .int .i64 a0_2, .slice A0_3 l0_3.length c0_3] 24 (0, 0)) (by (with_reducible repeat (first | refine bkN ?_ _ | refine bkd ?_ | refine bka ?_ _)); exact BK200.out)) : gb201 ≠ gb200)); clear BK200; clear HB; have BK200 := n0_; have HB := n1_; have BK201 := n2_; have GW201 := n3_; have GE201 := n4_; have NB200_201 := n5_; have NB201_200 := n6_; clear n0_ n1_ n2_ n3_ n4_ n5_ n6_; clear hb hbox hg; have hnb19 := NB200_201.out; have hnc19 := NB201_200.out; have hcz20_0 : w18.cell? ⟨gb200, 0, none⟩ = some (.int .i64 a0_0) := (bkc BK200.out 0).trans rfl; have hcz20_1 : w18.cell? ⟨gb200, 1, none⟩ = some (.int .i64 a0_1) := (bkc BK200.out 1).trans rfl; have hcz20_2 : w18.cell? ⟨gb200, 2, none⟩ = some (.int .i64 a0_2) := (bkc BK200.out 2).trans rfl; have hcz20_3 : w18.cell? ⟨gb200, 3, none⟩ = some (.slice A0_3 l0_3.length c0_3) := (bkc BK200.out 3).trans rfl; have hfz20_0 := bkz BK200.out 0; have hfz20_1 := bkz BK200.out 1; have hfz20_2 := bkz BK200.out 2; have hfz20_3 := bkz BK200.out 3; have hcz21_0 : w18.cell? ⟨gb201, 0, none⟩ = some (.int .i64 a1_0) := (bkc BK201.out 0).trans rfl; have hcz21_1 : w18.cell? ⟨gb201, 1, none⟩ = some (.int .i64 a1_1) := (bkc BK201.out 1).trans rfl; have hcz21_2 : w18.cell? ⟨gb201, 2, none⟩ = some (.int .i64 a1_2) := (bkc BK201.out 2).trans rfl; have hcz21_3 : w18.cell? ⟨gb201, 3, none⟩ = some (.slice A1_3 l1_3.length c1_3) := (bkc BK201.out 3).trans rfl; have hfz21_0 := bkz BK201.out 0; have hfz21_1 := bkz BK201.out 1; have hfz21_2 := bkz BK201.out 2; have hfz21_3 := bkz BK201.out 3))
   go_ret
   exact ⟨by first | rfl | (simp [errW_none, errW_some] <;> rfl) | (simp [*, errW_none, errW_some] <;> rfl), by repeat (first | (with_reducible first | exact HB.out | apply bwa | apply pwN | apply bwd | refine bws ?_ GE200.out | refine bws ?_ GE201.out) | exact HB.out)⟩
 ·rw [if_neg c3] at H
  have c3b0 : (a0_0 == a1_0) = false := beq_eq_false_iff_ne.mpr c3
  have c3b1 : (a0_0 != a1_0) = true := bne_iff_ne.mpr c3
  obtain rfl := Option.some.inj H
  go_enter Tryz.func15, Tryz.ntmps15
  go_wp2_with (first | ((with_reducible refine gdt (N := 2) rfl ?_); refine bxe ?hg (N := 2) ?hd (cs := #[.int .i64 a0_0, .int .i64 a0_1, .int .i64 a0_2, .slice A0_3 l0_3.length c0_3]) (t := 24) ?hr ?_; (case hd => rfl); (case hg => rfl); (case hr => first | (go_simp; done) | (go_simp; rfl)); intro gb200 hg w22 hbox hb; have n0_ := As0.mk (bwp (by repeat (first | (with_reducible first | exact HB.out | apply bwa | apply pwN | apply bwd) | exact HB.out)) hb); have n1_ := As0.mk (hbox); have n2_ := As0.mk ((by rw [hg]; exact (bwz (by repeat (first | (with_reducible first | exact HB.out | apply bwa | apply pwN | apply bwd) | exact HB.out))) : w.heap.size ≤ gb200)); have n3_ := As0.mk ((by rw [hg]; exact (bwz (by repeat (first | (with_reducible first | exact HB.out | apply bwa | apply pwN | apply bwd) | exact HB.out))) : w.heap.size ≤ gb200)); clear HB; have HB := n0_; have BK200 := n1_; have GW200 := n2_; have GE200 := n3_; clear n0_ n1_ n2_ n3_; clear hb hbox hg) | ((with_reducible refine gdt (N := 3) rfl ?_); refine bxe ?hg (N := 3) ?hd (cs := #[.int .i64 a1_0, .int .i64 a1_1, .int .i64 a1_2, .slice A1_3 l1_3.length c1_3]) (t := 24) ?hr ?_; (case hd => rfl); (case hg => rfl); (case hr => first | (go_simp; done) | (go_simp; rfl)); intro gb201 hg w23 hbox hb; have n0_ := As0.mk (bkb (g := gb200) (o := .cells #[.int .i64 a0_0, .int .i64 a0_1, .int .i64 a0_2, .slice A0_3 l0_3.length c0_3] 24 (0, 0)) (by (with_reducible repeat (first | refine bkN ?_ _ | refine bkd ?_ | refine bka ?_ _)); exact BK200.out) hb); have n1_ := As0.mk (bwp (by repeat (first | (with_reducible first | exact HB.out | apply bwa | apply pwN | apply bwd | refine bws ?_ GE200.out) | exact HB.out)) hb); have n2_ := As0.mk (hbox); have n3_ := As0.mk ((by rw [hg]; exact (bwz (by repeat (first | (with_reducible first | exact HB.out | apply bwa | apply pwN | apply bwd | refine bws ?_ GE200.out) | exact HB.out))) : w.heap.size ≤ gb201)); have n4_ := As0.mk ((by rw [hg]; exact (bwz (by repeat (first | (with_reducible first | exact HB.out | apply bwa | apply pwN | apply bwd | refine bws ?_ GE200.out) | exact HB.out))) : w.heap.size ≤ gb201)); have n5_ := As0.mk ((by rw [hg]; exact Nat.ne_of_lt (blk_lt (g := gb200) (o := .cells #[.int .i64 a0_0, .int .i64 a0_1, .int .i64 a0_2, .slice A0_3 l0_3.length c0_3] 24 (0, 0)) (by (with_reducible repeat (first | refine bkN ?_ _ | refine bkd ?_ | refine bka ?_ _)); exact BK200.out)) : gb200 ≠ gb201)); have n6_ := As0.mk ((by rw [hg]; exact Nat.ne_of_gt (blk_lt (g := gb200) (o := .cells #[.int .i64 a0_0, .int .i64 a0_1, .int .i64 a0_2, .slice A0_3 l0_3.length c0_3] 24 (0, 0)) (by (with_reducible repeat (first | refine bkN ?_ _ | refine bkd ?_ | refine bka ?_ _)); exact BK200.out)) : gb201 ≠ gb200)); clear BK200; clear HB; have BK200 := n0_; have HB := n1_; have BK201 := n2_; have GW201 := n3_; have GE201 := n4_; have NB200_201 := n5_; have NB201_200 := n6_; clear n0_ n1_ n2_ n3_ n4_ n5_ n6_; clear hb hbox hg; have hnb24 := NB200_201.out; have hnc24 := NB201_200.out; have hcz25_0 : w23.cell? ⟨gb200, 0, none⟩ = some (.int .i64 a0_0) := (bkc BK200.out 0).trans rfl; have hcz25_1 : w23.cell? ⟨gb200, 1, none⟩ = some (.int .i64 a0_1) := (bkc BK200.out 1).trans rfl; have hcz25_2 : w23.cell? ⟨gb200, 2, none⟩ = some (.int .i64 a0_2) := (bkc BK200.out 2).trans rfl; have hcz25_3 : w23.cell? ⟨gb200, 3, none⟩ = some (.slice A0_3 l0_3.length c0_3) := (bkc BK200.out 3).trans rfl; have hfz25_0 := bkz BK200.out 0; have hfz25_1 := bkz BK200.out 1; have hfz25_2 := bkz BK200.out 2; have hfz25_3 := bkz BK200.out 3; have hcz26_0 : w23.cell? ⟨gb201, 0, none⟩ = some (.int .i64 a1_0) := (bkc BK201.out 0).trans rfl; have hcz26_1 : w23.cell? ⟨gb201, 1, none⟩ = some (.int .i64 a1_1) := (bkc BK201.out 1).trans rfl; have hcz26_2 : w23.cell? ⟨gb201, 2, none⟩ = some (.int .i64 a1_2) := (bkc BK201.out 2).trans rfl; have hcz26_3 : w23.cell? ⟨gb201, 3, none⟩ = some (.slice A1_3 l1_3.length c1_3) := (bkc BK201.out 3).trans rfl; have hfz26_0 := bkz BK201.out 0; have hfz26_1 := bkz BK201.out 1; have hfz26_2 := bkz BK201.out 2; have hfz26_3 := bkz BK201.out 3))
  go_ret
  exact ⟨by first | rfl | (simp [errW_none, errW_some] <;> rfl) | (simp [*, errW_none, errW_some] <;> rfl), by repeat (first | (with_reducible first | exact HB.out | apply bwa | apply pwN | apply bwd | refine bws ?_ GE200.out | refine bws ?_ GE201.out) | exact HB.out)⟩
def item_Turn.f (a0_0 : Int) (a0_1 : Int) (a0_2 : Int) (l0_3 : List (List Int)) (a1 : Int) (a2 : Bool) : Option (Int × Int × Int × (List (List Int)) × Int) := (picture_Check.f a0_0 a0_1 a0_2 l0_3).bind fun t117 => (if t117 = 0 then ((item_within.f a1 0 3).bind fun t118 => (if t118 = true then ((item_turned.f a0_0 a0_1 a0_2 l0_3 a1 a2).bind fun bt119 => (some (bt119.1, bt119.2.1, bt119.2.2.1, bt119.2.2.2, 0))) else (some (0, 0, 0, ([] : List (List Int)), 1)))) else (some (0, 0, 0, ([] : List (List Int)), t117)))
set_option maxHeartbeats 8000000 in
set_option maxRecDepth 100000 in
theorem item_Turn.calls (a0_0 : Int) (a0_1 : Int) (a0_2 : Int) (A0_3 : Option Addr) (c0_3 : Nat) (l0_3 : List (List Int)) (a1 : Int) (a2 : Bool) (r1 : Int) (r2 : Int) (r3 : Int) (r4 : List (List Int)) (r5 : Int) (w : World) (hr0_3 : Kd.C (Kd.slice 3 (Kd.int .i64)) w A0_3 l0_3.length l0_3) (hc0_3 : l0_3.length ≤ c0_3) (h : item_Turn.f a0_0 a0_1 a0_2 l0_3 a1 a2 = some (r1, r2, r3, r4, r5)) :
  Calls Tryz.prog 13 #[.agg #[.int .i64 a0_0, .int .i64 a0_1, .int .i64 a0_2, .slice A0_3 l0_3.length c0_3], .int .i64 a1, .bool a2] w fun e w' => ∃ v3_ : Value, e = .returned (.tuple #[.agg #[.int .i64 r1, .int .i64 r2, .int .i64 r3, v3_], .int .i64 r5]) ∧ Kd.S (Kd.slice 3 (Kd.int .i64)) 39 w' w.heap.size (fun _ => True) v3_ r4 ∧ Below w.heap.size w w' := by
 have hu24 := Tryz.underlying24
 have HR0_3 := As0.mk hr0_3
 have HC0_3 := As0.mk hc0_3
 clear hr0_3 hc0_3
 have HB := As0.mk (Below.refl w.heap.size w)
 have H : ((picture_Check.f a0_0 a0_1 a0_2 l0_3).bind fun t117 => (if t117 = 0 then ((item_within.f a1 0 3).bind fun t118 => (if t118 = true then ((item_turned.f a0_0 a0_1 a0_2 l0_3 a1 a2).bind fun bt119 => (some (bt119.1, bt119.2.1, bt119.2.2.1, bt119.2.2.2, 0))) else (some (0, 0, 0, ([] : List (List Int)), 1)))) else (some (0, 0, 0, ([] : List (List Int)), t117)))) = some (r1, r2, r3, r4, r5) := h
 clear h
 replace H := Option.bind_eq_some_iff.mp H
 obtain ⟨t117, A40, H⟩ := H
 replace H : (if t117 = 0 then ((item_within.f a1 0 3).bind fun t118 => (if t118 = true then ((item_turned.f a0_0 a0_1 a0_2 l0_3 a1 a2).bind fun bt119 => (some (bt119.1, bt119.2.1, bt119.2.2.1, bt119.2.2.2, 0))) else (some (0, 0, 0, ([] : List (List Int)), 1)))) else (some (0, 0, 0, ([] : List (List Int)), t117))) = some (r1, r2, r3, r4, r5) := H
 have A4 := As0.mk A40
 clear A40
 by_cases c5 : t117 = 0
 ·rw [if_pos c5] at H
  have c5b0 : (t117 == 0) = true := beq_iff_eq.mpr c5
  have c5b1 : (t117 != 0) = false := bne_eq_false_iff_eq.mpr c5
  clear c5
  replace H := Option.bind_eq_some_iff.mp H
  obtain ⟨t118, A60, H⟩ := H
  replace H : (if t118 = true then ((item_turned.f a0_0 a0_1 a0_2 l0_3 a1 a2).bind fun bt119 => (some (bt119.1, bt119.2.1, bt119.2.2.1, bt119.2.2.2, 0))) else (some (0, 0, 0, ([] : List (List Int)), 1))) = some (r1, r2, r3, r4, r5) := H
  have A6 := As0.mk A60
  clear A60
  by_cases c7 : t118 = true
  ·subst c7
   have H1 : ((item_turned.f a0_0 a0_1 a0_2 l0_3 a1 a2).bind fun bt119 => (some (bt119.1, bt119.2.1, bt119.2.2.1, bt119.2.2.2, 0))) = some (r1, r2, r3, r4, r5) := by rw [if_pos rfl] at H; exact H
   clear H
   have H := H1
   clear H1
   replace H := Option.bind_eq_some_iff.mp H
   obtain ⟨⟨t119, t120, t121, t122⟩, A80, H⟩ := H
   replace H : (some (t119, t120, t121, t122, 0)) = some (r1, r2, r3, r4, r5) := H
   have A8 := As0.mk A80
   clear A80
   simp only [Option.some.injEq, Prod.mk.injEq] at H
   obtain ⟨rfl, rfl, rfl, rfl, rfl⟩ := H
   go_enter Tryz.func13, Tryz.ntmps13
   go_wp2_with (first | ((with_reducible refine gdt (N := 3) rfl ?_); refine bxe ?hg (N := 3) ?hd (cs := #[.int .i64 a0_0, .int .i64 a0_1, .int .i64 a0_2, .slice A0_3 l0_3.length c0_3]) (t := 24) ?hr ?_; (case hd => rfl); (case hg => rfl); (case hr => first | (go_simp; done) | (go_simp; rfl)); intro gb115 hg w9 hbox hb; have n0_ := As0.mk (bwp (by repeat (first | (with_reducible first | exact HB.out | apply bwa | apply pwN | apply bwd) | exact HB.out)) hb); have n1_ := As0.mk (hbox); have n2_ := As0.mk ((by rw [hg]; exact (bwz (by repeat (first | (with_reducible first | exact HB.out | apply bwa | apply pwN | apply bwd) | exact HB.out))) : w.heap.size ≤ gb115)); have n3_ := As0.mk ((by rw [hg]; exact (bwz (by repeat (first | (with_reducible first | exact HB.out | apply bwa | apply pwN | apply bwd) | exact HB.out))) : w.heap.size ≤ gb115)); clear HB; have HB := n0_; have BK115 := n1_; have GW115 := n2_; have GE115 := n3_; clear n0_ n1_ n2_ n3_; clear hb hbox hg) | ((with_reducible refine gdt (N := 6) rfl ?_); refine bxe ?hg (N := 6) ?hd (cs := #[.int .i64 0, .int .i64 0, .int .i64 0, .slice none 0 0]) (t := 24) ?hr ?_; (case hd => rfl); (case hg => rfl); (case hr => first | (go_simp; done) | (go_simp; rfl)); intro gb116 hg w10 hbox hb; have n0_ := As0.mk (bkb (g := gb115) (o := .cells #[.int .i64 a0_0, .int .i64 a0_1, .int .i64 a0_2, .slice A0_3 l0_3.length c0_3] 24 (0, 0)) (by (with_reducible repeat (first | refine bkN ?_ _ | refine bkd ?_ | refine bka ?_ _)); exact BK115.out) hb); have n1_ := As0.mk (bwp (by repeat (first | (with_reducible first | exact HB.out | apply bwa | apply pwN | apply bwd | refine bws ?_ GE115.out) | exact HB.out)) hb); have n2_ := As0.mk (hbox); have n3_ := As0.mk ((by rw [hg]; exact (bwz (by repeat (first | (with_reducible first | exact HB.out | apply bwa | apply pwN | apply bwd | refine bws ?_ GE115.out) | exact HB.out))) : w.heap.size ≤ gb116)); have n4_ := As0.mk ((by rw [hg]; exact (bwz (by repeat (first | (with_reducible first | exact HB.out | apply bwa | apply pwN | apply bwd | refine bws ?_ GE115.out) | exact HB.out))) : w.heap.size ≤ gb116)); have n5_ := As0.mk ((by rw [hg]; exact Nat.ne_of_lt (blk_lt (g := gb115) (o := .cells #[.int .i64 a0_0, .int .i64 a0_1, .int .i64 a0_2, .slice A0_3 l0_3.length c0_3] 24 (0, 0)) (by (with_reducible repeat (first | refine bkN ?_ _ | refine bkd ?_ | refine bka ?_ _)); exact BK115.out)) : gb115 ≠ gb116)); have n6_ := As0.mk ((by rw [hg]; exact Nat.ne_of_gt (blk_lt (g := gb115) (o := .cells #[.int .i64 a0_0, .int .i64 a0_1, .int .i64 a0_2, .slice A0_3 l0_3.length c0_3] 24 (0, 0)) (by (with_reducible repeat (first | refine bkN ?_ _ | refine bkd ?_ | refine bka ?_ _)); exact BK115.out)) : gb116 ≠ gb115)); clear BK115; clear HB; have BK115 := n0_; have HB := n1_; have BK116 := n2_; have GW116 := n3_; have GE116 := n4_; have NB115_116 := n5_; have NB116_115 := n6_; clear n0_ n1_ n2_ n3_ n4_ n5_ n6_; clear hb hbox hg; have hnb11 := NB115_116.out; have hnc11 := NB116_115.out; have hcz12_0 : w10.cell? ⟨gb115, 0, none⟩ = some (.int .i64 a0_0) := (bkc BK115.out 0).trans rfl; have hcz12_1 : w10.cell? ⟨gb115, 1, none⟩ = some (.int .i64 a0_1) := (bkc BK115.out 1).trans rfl; have hcz12_2 : w10.cell? ⟨gb115, 2, none⟩ = some (.int .i64 a0_2) := (bkc BK115.out 2).trans rfl; have hcz12_3 : w10.cell? ⟨gb115, 3, none⟩ = some (.slice A0_3 l0_3.length c0_3) := (bkc BK115.out 3).trans rfl; have hfz12_0 := bkz BK115.out 0; have hfz12_1 := bkz BK115.out 1; have hfz12_2 := bkz BK115.out 2; have hfz12_3 := bkz BK115.out 3) | ((with_reducible refine gate_callee (f := 47) rfl ?_); refine goesL_ (some 10) rfl rfl Tryz.func47 (by kernel_rfl) rfl #[.agg #[.int .i64 a0_0, .int .i64 a0_1, .int .i64 a0_2, .slice A0_3 l0_3.length c0_3]] rfl (by (try simp only [List.map_toArray, List.map_cons, List.map_nil]); first | done | rfl | (simp only [List.length_drop, List.length_take]; rfl)) ?_; (with_reducible refine (picture_Check.calls a0_0 a0_1 a0_2 _ _ l0_3 t117 _ ?side1 ?side2 A4.out).mono ?_); (case side1 => repeat (first | exact (Kd.C_below HR0_3.out HB.out) | (with_reducible refine Kd.C_alloc ?_ _) | (with_reducible refine Kd.C_drewN ?_ _) | (with_reducible refine Kd.C_drew ?_))); (case side2 => exact HC0_3.out); rintro e w13 ⟨rfl, hb⟩; refine ⟨_, rfl, ?_⟩; have n0_ := As0.mk (bkb (g := gb115) (o := .cells #[.int .i64 a0_0, .int .i64 a0_1, .int .i64 a0_2, .slice A0_3 l0_3.length c0_3] 24 (0, 0)) (by (with_reducible repeat (first | refine bkN ?_ _ | refine bkd ?_ | refine bka ?_ _)); exact BK115.out) hb); have n1_ := As0.mk (bkb (g := gb116) (o := .cells #[.int .i64 0, .int .i64 0, .int .i64 0, .slice none 0 0] 24 (0, 0)) (by (with_reducible repeat (first | refine bkN ?_ _ | refine bkd ?_ | refine bka ?_ _)); exact BK116.out) hb); have n2_ := As0.mk (bwp (by repeat (first | (with_reducible first | exact HB.out | apply bwa | apply pwN | apply bwd | refine bws ?_ GE115.out | refine bws ?_ GE116.out) | exact HB.out)) hb); clear BK115; clear BK116; clear HB; have BK115 := n0_; have BK116 := n1_; have HB := n2_; clear n0_ n1_ n2_; (try clear hb); (try clear hb2); (try clear hk); (try clear hi)) | ((with_reducible refine gate_callee (f := 48) rfl ?_); refine goesL_ (some 16) rfl rfl Tryz.func48 (by kernel_rfl) rfl #[.int .i64 a1, .int .i64 0, .int .i64 3] rfl (by (try simp only [List.map_toArray, List.map_cons, List.map_nil]); first | done | rfl | (simp only [List.length_drop, List.length_take]; rfl)) ?_; (with_reducible refine (item_within.calls a1 0 3 true _ A6.out).mono ?_); rintro e w' ⟨rfl, ⟨nd, rfl⟩⟩; refine ⟨_, rfl, ?_⟩; (try (rw [drewN_self w13]; generalize hq_ : World.drewN w13 _ = w13; have n0_ : As0 (w13.heap[gb115]? = some (.cells #[.int .i64 a0_0, .int .i64 a0_1, .int .i64 a0_2, .slice A0_3 l0_3.length c0_3] 24 (0, 0))) := ⟨by rw [← hq_]; exact (by (with_reducible repeat (first | refine bkN ?_ _ | refine bkd ?_ | refine bka ?_ _)); exact BK115.out)⟩; have n1_ : As0 (w13.heap[gb116]? = some (.cells #[.int .i64 0, .int .i64 0, .int .i64 0, .slice none 0 0] 24 (0, 0))) := ⟨by rw [← hq_]; exact (by (with_reducible repeat (first | refine bkN ?_ _ | refine bkd ?_ | refine bka ?_ _)); exact BK116.out)⟩; have n2_ : As0 (Below w.heap.size w w13) := ⟨by rw [← hq_]; exact (by repeat (first | (with_reducible first | exact HB.out | apply bwa | apply pwN | apply bwd | refine bws ?_ GE115.out | refine bws ?_ GE116.out) | exact HB.out))⟩; clear BK115 BK116 HB hq_; have BK115 := n0_; have BK116 := n1_; have HB := n2_; clear n0_ n1_ n2_)); have hcz14_0 : w13.cell? ⟨gb115, 0, none⟩ = some (.int .i64 a0_0) := (bkc BK115.out 0).trans rfl; have hcz14_1 : w13.cell? ⟨gb115, 1, none⟩ = some (.int .i64 a0_1) := (bkc BK115.out 1).trans rfl; have hcz14_2 : w13.cell? ⟨gb115, 2, none⟩ = some (.int .i64 a0_2) := (bkc BK115.out 2).trans rfl; have hcz14_3 : w13.cell? ⟨gb115, 3, none⟩ = some (.slice A0_3 l0_3.length c0_3) := (bkc BK115.out 3).trans rfl; have hfz14_0 := bkz BK115.out 0; have hfz14_1 := bkz BK115.out 1; have hfz14_2 := bkz BK115.out 2; have hfz14_3 := bkz BK115.out 3) | ((with_reducible refine gate_callee (f := 49) rfl ?_); refine goesL_ (some 22) rfl rfl Tryz.func49 (by kernel_rfl) rfl #[.agg #[.int .i64 a0_0, .int .i64 a0_1, .int .i64 a0_2, .slice A0_3 l0_3.length c0_3], .int .i64 a1, .bool a2] rfl (by (try simp only [List.map_toArray, List.map_cons, List.map_nil]); first | done | rfl | (simp only [List.length_drop, List.length_take]; rfl)) ?_; (with_reducible refine (item_turned.calls a0_0 a0_1 a0_2 _ _ l0_3 a1 a2 t119 t120 t121 t122 _ ?side1 ?side2 A8.out).mono ?_); (case side1 => repeat (first | exact (Kd.C_below HR0_3.out HB.out) | (with_reducible refine Kd.C_alloc ?_ _) | (with_reducible refine Kd.C_drewN ?_ _) | (with_reducible refine Kd.C_drew ?_))); (case side2 => exact HC0_3.out); rintro e w15 ⟨v123, rfl, ho0, hb⟩; refine ⟨_, rfl, ?_⟩; have n0_ := As0.mk (Kd.S_lower ho0 (bwz (by repeat (first | (with_reducible first | exact HB.out | apply bwa | apply pwN | apply bwd | refine bws ?_ GE115.out | refine bws ?_ GE116.out) | exact HB.out)))); have n1_ := As0.mk (bkb (g := gb115) (o := .cells #[.int .i64 a0_0, .int .i64 a0_1, .int .i64 a0_2, .slice A0_3 l0_3.length c0_3] 24 (0, 0)) (by (with_reducible repeat (first | refine bkN ?_ _ | refine bkd ?_ | refine bka ?_ _)); exact BK115.out) hb); have n2_ := As0.mk (bkb (g := gb116) (o := .cells #[.int .i64 0, .int .i64 0, .int .i64 0, .slice none 0 0] 24 (0, 0)) (by (with_reducible repeat (first | refine bkN ?_ _ | refine bkd ?_ | refine bka ?_ _)); exact BK116.out) hb); have n3_ := As0.mk (bwp (by repeat (first | (with_reducible first | exact HB.out | apply bwa | apply pwN | apply bwd | refine bws ?_ GE115.out | refine bws ?_ GE116.out) | exact HB.out)) hb); clear BK115; clear BK116; clear HB; have HO124 := n0_; have BK115 := n1_; have BK116 := n2_; have HB := n3_; clear n0_ n1_ n2_ n3_; (try clear hb); (try clear hb2); (try clear hk); (try clear hi); (try clear ho0); have hcz16_0 : w15.cell? ⟨gb116, 0, none⟩ = some (.int .i64 0) := (bkc BK116.out 0).trans rfl; have hcz16_1 : w15.cell? ⟨gb116, 1, none⟩ = some (.int .i64 0) := (bkc BK116.out 1).trans rfl; have hcz16_2 : w15.cell? ⟨gb116, 2, none⟩ = some (.int .i64 0) := (bkc BK116.out 2).trans rfl; have hcz16_3 : w15.cell? ⟨gb116, 3, none⟩ = some (.slice none 0 0) := (bkc BK116.out 3).trans rfl; have hfz16_0 := bkz BK116.out 0; have hfz16_1 := bkz BK116.out 1; have hfz16_2 := bkz BK116.out 2; have hfz16_3 := bkz BK116.out 3; obtain ⟨Ao17, co17, eo17⟩ := Kd.S_slice HO124.out; subst eo17))
   refine bodyPost_ret (results_ct rfl _ _ gb116 24 #[.int .i64 t119, .int .i64 t120, .int .i64 t121, .slice Ao17 t122.length co17] (0, 0) _ rfl (by (with_reducible repeat (first | refine bkN ?_ _ | refine bkd ?_ | refine bka ?_ _)); refine blk_put (cs := #[.int .i64 t119, .int .i64 t120, .int .i64 t121, .slice none 0 0]) ?_ 3 _ rfl; (with_reducible repeat (first | refine bkN ?_ _ | refine bkd ?_ | refine bka ?_ _)); refine blk_put (cs := #[.int .i64 t119, .int .i64 t120, .int .i64 0, .slice none 0 0]) ?_ 2 _ rfl; (with_reducible repeat (first | refine bkN ?_ _ | refine bkd ?_ | refine bka ?_ _)); refine blk_put (cs := #[.int .i64 t119, .int .i64 0, .int .i64 0, .slice none 0 0]) ?_ 1 _ rfl; (with_reducible repeat (first | refine bkN ?_ _ | refine bkd ?_ | refine bka ?_ _)); refine blk_put (cs := #[.int .i64 0, .int .i64 0, .int .i64 0, .slice none 0 0]) ?_ 0 _ rfl; (with_reducible repeat (first | refine bkN ?_ _ | refine bkd ?_ | refine bka ?_ _)); exact BK116.out) Tryz.underlying24 rfl (by kernel_rfl)) rfl ?_
   exact ⟨_, by first | rfl | (simp [errW_none, errW_some] <;> rfl) | (simp [*, errW_none, errW_some] <;> rfl), by (with_reducible repeat (first | apply Kd.S_alloc | apply Kd.S_drewN | apply Kd.S_drew)); exact Kd.S_mono (Kd.S_far (p := ⟨gb116, 3, none⟩) (Kd.S_far (p := ⟨gb116, 2, none⟩) (Kd.S_far (p := ⟨gb116, 1, none⟩) (Kd.S_far (p := ⟨gb116, 0, none⟩) (Kd.S_types HO124.out BK116.out (by decide)) (fun _ hk => hk.2) (.int .i64 t119)) (fun _ hk => hk.2) (.int .i64 t120)) (fun _ hk => hk.2) (.int .i64 t121)) (fun _ hk => hk.2) (.slice Ao17 t122.length co17)) (fun _ hk => trivial), by repeat (first | (with_reducible first | exact HB.out | apply bwa | apply pwN | apply bwd | refine bws ?_ GE115.out | refine bws ?_ GE116.out) | exact HB.out)⟩
  ·replace c7 := Bool.eq_false_iff.mpr c7
   subst c7
   have H1 : (some (0, 0, 0, ([] : List (List Int)), 1)) = some (r1, r2, r3, r4, r5) := by rw [if_neg (show ¬ (false = true) by decide)] at H; exact H
   clear H
   have H := H1
   clear H1
   simp only [Option.some.injEq, Prod.mk.injEq] at H
   obtain ⟨rfl, rfl, rfl, rfl, rfl⟩ := H
   go_enter Tryz.func13, Tryz.ntmps13
   go_wp2_with (first | ((with_reducible refine gdt (N := 3) rfl ?_); refine bxe ?hg (N := 3) ?hd (cs := #[.int .i64 a0_0, .int .i64 a0_1, .int .i64 a0_2, .slice A0_3 l0_3.length c0_3]) (t := 24) ?hr ?_; (case hd => rfl); (case hg => rfl); (case hr => first | (go_simp; done) | (go_simp; rfl)); intro gb115 hg w18 hbox hb; have n0_ := As0.mk (bwp (by repeat (first | (with_reducible first | exact HB.out | apply bwa | apply pwN | apply bwd) | exact HB.out)) hb); have n1_ := As0.mk (hbox); have n2_ := As0.mk ((by rw [hg]; exact (bwz (by repeat (first | (with_reducible first | exact HB.out | apply bwa | apply pwN | apply bwd) | exact HB.out))) : w.heap.size ≤ gb115)); have n3_ := As0.mk ((by rw [hg]; exact (bwz (by repeat (first | (with_reducible first | exact HB.out | apply bwa | apply pwN | apply bwd) | exact HB.out))) : w.heap.size ≤ gb115)); clear HB; have HB := n0_; have BK115 := n1_; have GW115 := n2_; have GE115 := n3_; clear n0_ n1_ n2_ n3_; clear hb hbox hg) | ((with_reducible refine gdt (N := 6) rfl ?_); refine bxe ?hg (N := 6) ?hd (cs := #[.int .i64 0, .int .i64 0, .int .i64 0, .slice none 0 0]) (t := 24) ?hr ?_; (case hd => rfl); (case hg => rfl); (case hr => first | (go_simp; done) | (go_simp; rfl)); intro gb116 hg w19 hbox hb; have n0_ := As0.mk (bkb (g := gb115) (o := .cells #[.int .i64 a0_0, .int .i64 a0_1, .int .i64 a0_2, .slice A0_3 l0_3.length c0_3] 24 (0, 0)) (by (with_reducible repeat (first | refine bkN ?_ _ | refine bkd ?_ | refine bka ?_ _)); exact BK115.out) hb); have n1_ := As0.mk (bwp (by repeat (first | (with_reducible first | exact HB.out | apply bwa | apply pwN | apply bwd | refine bws ?_ GE115.out) | exact HB.out)) hb); have n2_ := As0.mk (hbox); have n3_ := As0.mk ((by rw [hg]; exact (bwz (by repeat (first | (with_reducible first | exact HB.out | apply bwa | apply pwN | apply bwd | refine bws ?_ GE115.out) | exact HB.out))) : w.heap.size ≤ gb116)); have n4_ := As0.mk ((by rw [hg]; exact (bwz (by repeat (first | (with_reducible first | exact HB.out | apply bwa | apply pwN | apply bwd | refine bws ?_ GE115.out) | exact HB.out))) : w.heap.size ≤ gb116)); have n5_ := As0.mk ((by rw [hg]; exact Nat.ne_of_lt (blk_lt (g := gb115) (o := .cells #[.int .i64 a0_0, .int .i64 a0_1, .int .i64 a0_2, .slice A0_3 l0_3.length c0_3] 24 (0, 0)) (by (with_reducible repeat (first | refine bkN ?_ _ | refine bkd ?_ | refine bka ?_ _)); exact BK115.out)) : gb115 ≠ gb116)); have n6_ := As0.mk ((by rw [hg]; exact Nat.ne_of_gt (blk_lt (g := gb115) (o := .cells #[.int .i64 a0_0, .int .i64 a0_1, .int .i64 a0_2, .slice A0_3 l0_3.length c0_3] 24 (0, 0)) (by (with_reducible repeat (first | refine bkN ?_ _ | refine bkd ?_ | refine bka ?_ _)); exact BK115.out)) : gb116 ≠ gb115)); clear BK115; clear HB; have BK115 := n0_; have HB := n1_; have BK116 := n2_; have GW116 := n3_; have GE116 := n4_; have NB115_116 := n5_; have NB116_115 := n6_; clear n0_ n1_ n2_ n3_ n4_ n5_ n6_; clear hb hbox hg; have hnb20 := NB115_116.out; have hnc20 := NB116_115.out; have hcz21_0 : w19.cell? ⟨gb115, 0, none⟩ = some (.int .i64 a0_0) := (bkc BK115.out 0).trans rfl; have hcz21_1 : w19.cell? ⟨gb115, 1, none⟩ = some (.int .i64 a0_1) := (bkc BK115.out 1).trans rfl; have hcz21_2 : w19.cell? ⟨gb115, 2, none⟩ = some (.int .i64 a0_2) := (bkc BK115.out 2).trans rfl; have hcz21_3 : w19.cell? ⟨gb115, 3, none⟩ = some (.slice A0_3 l0_3.length c0_3) := (bkc BK115.out 3).trans rfl; have hfz21_0 := bkz BK115.out 0; have hfz21_1 := bkz BK115.out 1; have hfz21_2 := bkz BK115.out 2; have hfz21_3 := bkz BK115.out 3) | ((with_reducible refine gate_callee (f := 47) rfl ?_); refine goesL_ (some 10) rfl rfl Tryz.func47 (by kernel_rfl) rfl #[.agg #[.int .i64 a0_0, .int .i64 a0_1, .int .i64 a0_2, .slice A0_3 l0_3.length c0_3]] rfl (by (try simp only [List.map_toArray, List.map_cons, List.map_nil]); first | done | rfl | (simp only [List.length_drop, List.length_take]; rfl)) ?_; (with_reducible refine (picture_Check.calls a0_0 a0_1 a0_2 _ _ l0_3 t117 _ ?side1 ?side2 A4.out).mono ?_); (case side1 => repeat (first | exact (Kd.C_below HR0_3.out HB.out) | (with_reducible refine Kd.C_alloc ?_ _) | (with_reducible refine Kd.C_drewN ?_ _) | (with_reducible refine Kd.C_drew ?_))); (case side2 => exact HC0_3.out); rintro e w22 ⟨rfl, hb⟩; refine ⟨_, rfl, ?_⟩; have n0_ := As0.mk (bkb (g := gb115) (o := .cells #[.int .i64 a0_0, .int .i64 a0_1, .int .i64 a0_2, .slice A0_3 l0_3.length c0_3] 24 (0, 0)) (by (with_reducible repeat (first | refine bkN ?_ _ | refine bkd ?_ | refine bka ?_ _)); exact BK115.out) hb); have n1_ := As0.mk (bkb (g := gb116) (o := .cells #[.int .i64 0, .int .i64 0, .int .i64 0, .slice none 0 0] 24 (0, 0)) (by (with_reducible repeat (first | refine bkN ?_ _ | refine bkd ?_ | refine bka ?_ _)); exact BK116.out) hb); have n2_ := As0.mk (bwp (by repeat (first | (with_reducible first | exact HB.out | apply bwa | apply pwN | apply bwd | refine bws ?_ GE115.out | refine bws ?_ GE116.out) | exact HB.out)) hb); clear BK115; clear BK116; clear HB; have BK115 := n0_; have BK116 := n1_; have HB := n2_; clear n0_ n1_ n2_; (try clear hb); (try clear hb2); (try clear hk); (try clear hi)) | ((with_reducible refine gate_callee (f := 48) rfl ?_); refine goesL_ (some 16) rfl rfl Tryz.func48 (by kernel_rfl) rfl #[.int .i64 a1, .int .i64 0, .int .i64 3] rfl (by (try simp only [List.map_toArray, List.map_cons, List.map_nil]); first | done | rfl | (simp only [List.length_drop, List.length_take]; rfl)) ?_; (with_reducible refine (item_within.calls a1 0 3 false _ A6.out).mono ?_); rintro e w' ⟨rfl, ⟨nd, rfl⟩⟩; refine ⟨_, rfl, ?_⟩; (try (rw [drewN_self w22]; generalize hq_ : World.drewN w22 _ = w22; have n0_ : As0 (w22.heap[gb115]? = some (.cells #[.int .i64 a0_0, .int .i64 a0_1, .int .i64 a0_2, .slice A0_3 l0_3.length c0_3] 24 (0, 0))) := ⟨by rw [← hq_]; exact (by (with_reducible repeat (first | refine bkN ?_ _ | refine bkd ?_ | refine bka ?_ _)); exact BK115.out)⟩; have n1_ : As0 (w22.heap[gb116]? = some (.cells #[.int .i64 0, .int .i64 0, .int .i64 0, .slice none 0 0] 24 (0, 0))) := ⟨by rw [← hq_]; exact (by (with_reducible repeat (first | refine bkN ?_ _ | refine bkd ?_ | refine bka ?_ _)); exact BK116.out)⟩; have n2_ : As0 (Below w.heap.size w w22) := ⟨by rw [← hq_]; exact (by repeat (first | (with_reducible first | exact HB.out | apply bwa | apply pwN | apply bwd | refine bws ?_ GE115.out | refine bws ?_ GE116.out) | exact HB.out))⟩; clear BK115 BK116 HB hq_; have BK115 := n0_; have BK116 := n1_; have HB := n2_; clear n0_ n1_ n2_)); have hcz23_0 : w22.cell? ⟨gb116, 0, none⟩ = some (.int .i64 0) := (bkc BK116.out 0).trans rfl; have hcz23_1 : w22.cell? ⟨gb116, 1, none⟩ = some (.int .i64 0) := (bkc BK116.out 1).trans rfl; have hcz23_2 : w22.cell? ⟨gb116, 2, none⟩ = some (.int .i64 0) := (bkc BK116.out 2).trans rfl; have hcz23_3 : w22.cell? ⟨gb116, 3, none⟩ = some (.slice none 0 0) := (bkc BK116.out 3).trans rfl; have hfz23_0 := bkz BK116.out 0; have hfz23_1 := bkz BK116.out 1; have hfz23_2 := bkz BK116.out 2; have hfz23_3 := bkz BK116.out 3))
   refine bodyPost_ret (results_ct rfl _ _ gb116 24 #[.int .i64 0, .int .i64 0, .int .i64 0, .slice none 0 0] (0, 0) _ rfl (by (with_reducible repeat (first | refine bkN ?_ _ | refine bkd ?_ | refine bka ?_ _)); refine blk_put (cs := #[.int .i64 0, .int .i64 0, .int .i64 0, .slice none 0 0]) ?_ 3 _ rfl; (with_reducible repeat (first | refine bkN ?_ _ | refine bkd ?_ | refine bka ?_ _)); refine blk_put (cs := #[.int .i64 0, .int .i64 0, .int .i64 0, .slice none 0 0]) ?_ 2 _ rfl; (with_reducible repeat (first | refine bkN ?_ _ | refine bkd ?_ | refine bka ?_ _)); refine blk_put (cs := #[.int .i64 0, .int .i64 0, .int .i64 0, .slice none 0 0]) ?_ 1 _ rfl; (with_reducible repeat (first | refine bkN ?_ _ | refine bkd ?_ | refine bka ?_ _)); refine blk_put (cs := #[.int .i64 0, .int .i64 0, .int .i64 0, .slice none 0 0]) ?_ 0 _ rfl; (with_reducible repeat (first | refine bkN ?_ _ | refine bkd ?_ | refine bka ?_ _)); exact BK116.out) Tryz.underlying24 rfl (by kernel_rfl)) rfl ?_
   exact ⟨_, by first | rfl | (simp [errW_none, errW_some] <;> rfl) | (simp [*, errW_none, errW_some] <;> rfl), by first | exact Kd.S_nil _ _ _ _ _ | exact Kd.N_nil _ _ _ _ _ | exact Kd.V_nil _ _ _ _ _ | exact Kd.Q_nil _ _ _ _ _ | exact Kd.R_nil _ _ _ _ _, by repeat (first | (with_reducible first | exact HB.out | apply bwa | apply pwN | apply bwd | refine bws ?_ GE115.out | refine bws ?_ GE116.out) | exact HB.out)⟩
 ·rw [if_neg c5] at H
  have c5b0 : (t117 == 0) = false := beq_eq_false_iff_ne.mpr c5
  have c5b1 : (t117 != 0) = true := bne_iff_ne.mpr c5
  simp only [Option.some.injEq, Prod.mk.injEq] at H
  obtain ⟨rfl, rfl, rfl, rfl, rfl⟩ := H
  go_enter Tryz.func13, Tryz.ntmps13
  go_wp2_with (first | ((with_reducible refine gdt (N := 3) rfl ?_); refine bxe ?hg (N := 3) ?hd (cs := #[.int .i64 a0_0, .int .i64 a0_1, .int .i64 a0_2, .slice A0_3 l0_3.length c0_3]) (t := 24) ?hr ?_; (case hd => rfl); (case hg => rfl); (case hr => first | (go_simp; done) | (go_simp; rfl)); intro gb115 hg w24 hbox hb; have n0_ := As0.mk (bwp (by repeat (first | (with_reducible first | exact HB.out | apply bwa | apply pwN | apply bwd) | exact HB.out)) hb); have n1_ := As0.mk (hbox); have n2_ := As0.mk ((by rw [hg]; exact (bwz (by repeat (first | (with_reducible first | exact HB.out | apply bwa | apply pwN | apply bwd) | exact HB.out))) : w.heap.size ≤ gb115)); have n3_ := As0.mk ((by rw [hg]; exact (bwz (by repeat (first | (with_reducible first | exact HB.out | apply bwa | apply pwN | apply bwd) | exact HB.out))) : w.heap.size ≤ gb115)); clear HB; have HB := n0_; have BK115 := n1_; have GW115 := n2_; have GE115 := n3_; clear n0_ n1_ n2_ n3_; clear hb hbox hg) | ((with_reducible refine gdt (N := 6) rfl ?_); refine bxe ?hg (N := 6) ?hd (cs := #[.int .i64 0, .int .i64 0, .int .i64 0, .slice none 0 0]) (t := 24) ?hr ?_; (case hd => rfl); (case hg => rfl); (case hr => first | (go_simp; done) | (go_simp; rfl)); intro gb116 hg w25 hbox hb; have n0_ := As0.mk (bkb (g := gb115) (o := .cells #[.int .i64 a0_0, .int .i64 a0_1, .int .i64 a0_2, .slice A0_3 l0_3.length c0_3] 24 (0, 0)) (by (with_reducible repeat (first | refine bkN ?_ _ | refine bkd ?_ | refine bka ?_ _)); exact BK115.out) hb); have n1_ := As0.mk (bwp (by repeat (first | (with_reducible first | exact HB.out | apply bwa | apply pwN | apply bwd | refine bws ?_ GE115.out) | exact HB.out)) hb); have n2_ := As0.mk (hbox); have n3_ := As0.mk ((by rw [hg]; exact (bwz (by repeat (first | (with_reducible first | exact HB.out | apply bwa | apply pwN | apply bwd | refine bws ?_ GE115.out) | exact HB.out))) : w.heap.size ≤ gb116)); have n4_ := As0.mk ((by rw [hg]; exact (bwz (by repeat (first | (with_reducible first | exact HB.out | apply bwa | apply pwN | apply bwd | refine bws ?_ GE115.out) | exact HB.out))) : w.heap.size ≤ gb116)); have n5_ := As0.mk ((by rw [hg]; exact Nat.ne_of_lt (blk_lt (g := gb115) (o := .cells #[.int .i64 a0_0, .int .i64 a0_1, .int .i64 a0_2, .slice A0_3 l0_3.length c0_3] 24 (0, 0)) (by (with_reducible repeat (first | refine bkN ?_ _ | refine bkd ?_ | refine bka ?_ _)); exact BK115.out)) : gb115 ≠ gb116)); have n6_ := As0.mk ((by rw [hg]; exact Nat.ne_of_gt (blk_lt (g := gb115) (o := .cells #[.int .i64 a0_0, .int .i64 a0_1, .int .i64 a0_2, .slice A0_3 l0_3.length c0_3] 24 (0, 0)) (by (with_reducible repeat (first | refine bkN ?_ _ | refine bkd ?_ | refine bka ?_ _)); exact BK115.out)) : gb116 ≠ gb115)); clear BK115; clear HB; have BK115 := n0_; have HB := n1_; have BK116 := n2_; have GW116 := n3_; have GE116 := n4_; have NB115_116 := n5_; have NB116_115 := n6_; clear n0_ n1_ n2_ n3_ n4_ n5_ n6_; clear hb hbox hg; have hnb26 := NB115_116.out; have hnc26 := NB116_115.out; have hcz27_0 : w25.cell? ⟨gb115, 0, none⟩ = some (.int .i64 a0_0) := (bkc BK115.out 0).trans rfl; have hcz27_1 : w25.cell? ⟨gb115, 1, none⟩ = some (.int .i64 a0_1) := (bkc BK115.out 1).trans rfl; have hcz27_2 : w25.cell? ⟨gb115, 2, none⟩ = some (.int .i64 a0_2) := (bkc BK115.out 2).trans rfl; have hcz27_3 : w25.cell? ⟨gb115, 3, none⟩ = some (.slice A0_3 l0_3.length c0_3) := (bkc BK115.out 3).trans rfl; have hfz27_0 := bkz BK115.out 0; have hfz27_1 := bkz BK115.out 1; have hfz27_2 := bkz BK115.out 2; have hfz27_3 := bkz BK115.out 3) | ((with_reducible refine gate_callee (f := 47) rfl ?_); refine goesL_ (some 10) rfl rfl Tryz.func47 (by kernel_rfl) rfl #[.agg #[.int .i64 a0_0, .int .i64 a0_1, .int .i64 a0_2, .slice A0_3 l0_3.length c0_3]] rfl (by (try simp only [List.map_toArray, List.map_cons, List.map_nil]); first | done | rfl | (simp only [List.length_drop, List.length_take]; rfl)) ?_; (with_reducible refine (picture_Check.calls a0_0 a0_1 a0_2 _ _ l0_3 t117 _ ?side1 ?side2 A4.out).mono ?_); (case side1 => repeat (first | exact (Kd.C_below HR0_3.out HB.out) | (with_reducible refine Kd.C_alloc ?_ _) | (with_reducible refine Kd.C_drewN ?_ _) | (with_reducible refine Kd.C_drew ?_))); (case side2 => exact HC0_3.out); rintro e w28 ⟨rfl, hb⟩; refine ⟨_, rfl, ?_⟩; have n0_ := As0.mk (bkb (g := gb115) (o := .cells #[.int .i64 a0_0, .int .i64 a0_1, .int .i64 a0_2, .slice A0_3 l0_3.length c0_3] 24 (0, 0)) (by (with_reducible repeat (first | refine bkN ?_ _ | refine bkd ?_ | refine bka ?_ _)); exact BK115.out) hb); have n1_ := As0.mk (bkb (g := gb116) (o := .cells #[.int .i64 0, .int .i64 0, .int .i64 0, .slice none 0 0] 24 (0, 0)) (by (with_reducible repeat (first | refine bkN ?_ _ | refine bkd ?_ | refine bka ?_ _)); exact BK116.out) hb); have n2_ := As0.mk (bwp (by repeat (first | (with_reducible first | exact HB.out | apply bwa | apply pwN | apply bwd | refine bws ?_ GE115.out | refine bws ?_ GE116.out) | exact HB.out)) hb); clear BK115; clear BK116; clear HB; have BK115 := n0_; have BK116 := n1_; have HB := n2_; clear n0_ n1_ n2_; (try clear hb); (try clear hb2); (try clear hk); (try clear hi); have hcz29_0 : w28.cell? ⟨gb116, 0, none⟩ = some (.int .i64 0) := (bkc BK116.out 0).trans rfl; have hcz29_1 : w28.cell? ⟨gb116, 1, none⟩ = some (.int .i64 0) := (bkc BK116.out 1).trans rfl; have hcz29_2 : w28.cell? ⟨gb116, 2, none⟩ = some (.int .i64 0) := (bkc BK116.out 2).trans rfl; have hcz29_3 : w28.cell? ⟨gb116, 3, none⟩ = some (.slice none 0 0) := (bkc BK116.out 3).trans rfl; have hfz29_0 := bkz BK116.out 0; have hfz29_1 := bkz BK116.out 1; have hfz29_2 := bkz BK116.out 2; have hfz29_3 := bkz BK116.out 3))
  refine bodyPost_ret (results_ct rfl _ _ gb116 24 #[.int .i64 0, .int .i64 0, .int .i64 0, .slice none 0 0] (0, 0) _ rfl (by (with_reducible repeat (first | refine bkN ?_ _ | refine bkd ?_ | refine bka ?_ _)); refine blk_put (cs := #[.int .i64 0, .int .i64 0, .int .i64 0, .slice none 0 0]) ?_ 3 _ rfl; (with_reducible repeat (first | refine bkN ?_ _ | refine bkd ?_ | refine bka ?_ _)); refine blk_put (cs := #[.int .i64 0, .int .i64 0, .int .i64 0, .slice none 0 0]) ?_ 2 _ rfl; (with_reducible repeat (first | refine bkN ?_ _ | refine bkd ?_ | refine bka ?_ _)); refine blk_put (cs := #[.int .i64 0, .int .i64 0, .int .i64 0, .slice none 0 0]) ?_ 1 _ rfl; (with_reducible repeat (first | refine bkN ?_ _ | refine bkd ?_ | refine bka ?_ _)); refine blk_put (cs := #[.int .i64 0, .int .i64 0, .int .i64 0, .slice none 0 0]) ?_ 0 _ rfl; (with_reducible repeat (first | refine bkN ?_ _ | refine bkd ?_ | refine bka ?_ _)); exact BK116.out) Tryz.underlying24 rfl (by kernel_rfl)) rfl ?_
  exact ⟨_, by first | rfl | (simp [errW_none, errW_some] <;> rfl) | (simp [*, errW_none, errW_some] <;> rfl), by first | exact Kd.S_nil _ _ _ _ _ | exact Kd.N_nil _ _ _ _ _ | exact Kd.V_nil _ _ _ _ _ | exact Kd.Q_nil _ _ _ _ _ | exact Kd.R_nil _ _ _ _ _, by repeat (first | (with_reducible first | exact HB.out | apply bwa | apply pwN | apply bwd | refine bws ?_ GE115.out | refine bws ?_ GE116.out) | exact HB.out)⟩
theorem eq_ints (l : List Int) (hl : l.length ≤ 10000000) : ∀ (n j : Nat), j + n = l.length → Ev fun k => r00_EqInts.l0 k l l j = some true := by
 intro n
 induction n with
 | zero =>
  intro j hj
  refine Ev.const (fun k => ?_)
  rw [r00_EqInts.l0, if_neg (by omega)]
 | succ n ih =>
  intro j hj
  refine Ev.step (fun k => ?_) (ih (j + 1) (by omega))
  rw [r00_EqInts.l0, if_pos (by omega), if_pos (by omega), if_pos (by omega), if_pos rfl, w64_succ j (by omega)]
theorem eq_rows (ps : List (List Int)) (hn : ps.length ≤ 1000) (hr : ∀ r ∈ ps, r.length ≤ 10000000) : ∀ (n j : Nat), j + n = ps.length → Ev fun k => r00_EqRows.l0 k ps ps j = some true := by
 intro n
 induction n with
 | zero =>
  intro j hj
  refine Ev.const (fun k => ?_)
  rw [r00_EqRows.l0, if_neg (by omega)]
 | succ n ih =>
  intro j hj
  have hjl : j < ps.length := by omega
  have hx : ps[j]? = some ps[j] := List.getElem?_eq_getElem hjl
  have hrl := hr _ (List.getElem_mem hjl)
  refine Ev.step (g := fun k => (r00_EqInts.f k ps[j] ps[j]).bind fun t => if t = true then r00_EqRows.l0 k ps ps ((j + 1 : Nat) : Int) else some false) (fun k => ?_) (Ev.bind (x := true) ?_ ?_)
  ·rw [r00_EqRows.l0, if_pos (by omega), if_pos (by omega), if_pos (by omega), w64_succ j (by omega), rdL1_at ps j _ hx]
  ·obtain ⟨K, hK⟩ := eq_ints ps[j] hrl ps[j].length 0 (by omega)
   refine ⟨K, fun k hk => ?_⟩
   show r00_EqInts.f k ps[j] ps[j] = some true
   unfold r00_EqInts.f
   rw [if_pos rfl]
   exact hK k hk
  ·exact (ih (j + 1) (by omega)).mono (fun k hk => by rw [if_pos rfl]; exact hk)
theorem eq_image (a b c : Int) (ps : List (List Int)) (hn : ps.length ≤ 1000) (hr : ∀ r ∈ ps, r.length ≤ 10000000) : Ev fun k => r00_EqImage.f k a b c ps a b c ps = some true := by
 obtain ⟨K, hK⟩ := eq_rows ps hn hr ps.length 0 (by omega)
 refine ⟨K, fun k hk => ?_⟩
 show r00_EqImage.f k a b c ps a b c ps = some true
 have h1 : r00_EqRows.f k ps ps = some true := by
  unfold r00_EqRows.f
  rw [if_pos rfl]
  exact hK k hk
 unfold r00_EqImage.f
 rw [if_pos rfl, if_pos rfl, if_pos rfl, h1]
 rfl
theorem check_zero (a b c : Int) (l : List (List Int)) (h : picture_Check.f a b c l = some 0) : 1 ≤ a ∧ a ≤ 64 ∧ 1 ≤ b ∧ b ≤ 64 ∧ 1 ≤ c ∧ c ≤ 12 ∧ 0 < l.length ∧ l.length ≤ 4 ∧ (∀ r ∈ l, r.length = a.toNat * b.toNat) ∧ okPlanes c l = true := by
 unfold picture_Check.f at h
 have h := Option.some.inj h
 split at h
 ·cases h
 ·rename_i h1
  split at h
  ·cases h
  ·rename_i h2
   split at h
   ·rename_i h3
    have h1 : (btw a 1 64 && btw b 1 64 && btw c 1 12 && btw (l.length : Int) 1 4) = true := by cases hb : (btw a 1 64 && btw b 1 64 && btw c 1 12 && btw (l.length : Int) 1 4) with | true => rfl | false => exact absurd hb h1
    simp only [btw, Bool.and_eq_true, decide_eq_true_eq] at h1
    obtain ⟨⟨⟨⟨a1, a2⟩, b1, b2⟩, c1, c2⟩, n1, n2⟩ := h1
    refine ⟨a1, a2, b1, b2, c1, c2, by omega, by omega, fun r hr => ?_, h3⟩
    have hall : ¬ ((r.length : Int) != wrap64 (a * b)) = true := fun he => h2 (List.any_eq_true.2 ⟨r, hr, he⟩)
    have he : (r.length : Int) = wrap64 (a * b) := by simpa using hall
    have hm : a * b = ((a.toNat * b.toNat : Nat) : Int) := by
     rw [Int.natCast_mul]
     congr 1 <;> omega
    have hmb : a.toNat * b.toNat ≤ 64 * 64 := Nat.mul_le_mul (by omega) (by omega)
    rw [hm, w64_nat _ (by omega)] at he
    exact Int.ofNat_inj.1 he
   ·cases h
def inB (c : Int) (r : List Int) : Prop := ∀ v ∈ r, btw v 0 (2 ^ c.toNat - 1) = true
theorem inB.getD {c : Int} {r : List Int} (hr : inB c r) (i : Nat) : btw (r.getD i 0) 0 (2 ^ c.toNat - 1) = true := by
 rw [List.getD_eq_getElem?_getD]
 cases hx : r[i]? with
 | some x => exact hr x (List.mem_of_getElem? hx)
 | none =>
  have : (0 : Int) < 2 ^ c.toNat := Int.pow_pos (by decide)
  simp [btw]
  omega
theorem inB.map {c : Int} {r : List Int} (hr : inB c r) (n : Nat) (f : Nat → Nat) : inB c ((List.range n).map fun q => r.getD (f q) 0) := by
 intro v hv
 obtain ⟨q, _, rfl⟩ := List.mem_map.1 hv
 exact hr.getD _
theorem inB.rot {c : Int} {r : List Int} (hr : inB c r) (w h : Nat) : inB c (rot1 w h r) := hr.map _ _
def okAll (c : Int) (s : Nat × Nat × List (List Int)) : Prop := (1 ≤ s.1 ∧ s.1 ≤ 64) ∧ (1 ≤ s.2.1 ∧ s.2.1 ≤ 64) ∧ (1 ≤ c ∧ c ≤ 12) ∧ (0 < s.2.2.length ∧ s.2.2.length ≤ 4) ∧ (∀ r ∈ s.2.2, r.length = s.1 * s.2.1) ∧ ∀ r ∈ s.2.2, inB c r
theorem okAll.turn {c : Int} {s : Nat × Nat × List (List Int)} (h : okAll c s) : okAll c (s.2.1, s.1, s.2.2.map (rot1 s.1 s.2.1)) := by
 obtain ⟨h1, h2, h3, h4, h5, h6⟩ := h
 refine ⟨h2, h1, h3, by simpa using h4, fun r hr => ?_, fun r hr => ?_⟩
 ·obtain ⟨r', _, rfl⟩ := List.mem_map.1 hr
  rw [rot1_length, Nat.mul_comm]
 ·obtain ⟨r', hr', rfl⟩ := List.mem_map.1 hr
  exact (h6 r' hr').rot _ _
theorem okAll.turnN {c : Int} : ∀ (k : Nat) {s : Nat × Nat × List (List Int)}, okAll c s → okAll c (turnN k s)
 | 0, _, h => h
 | k + 1, _, h => okAll.turnN k h.turn
def l15_plain.l0 : Nat → Int → Int → Int → Int → List (List Int) → Option (Bool)
 | 0, _, _, _, _, _ => none
 | k + 1, x3, x102000, x102001, x102002, x102003 => if x3 < (x102003.length : Int) then (if 0 ≤ x3 then (if ((rd_L1 x102003 x3).length : Int) > 5000 then (some false) else (l15_plain.l0 k (wrap64 (x3 + 1)) x102000 x102001 x102002 x102003)) else (none)) else (some (decide ((x102003.length : Int) ≤ 8)))
def l15_plain.f (k : Nat) (a0_0 : Int) (a0_1 : Int) (a0_2 : Int) (l0_3 : List (List Int)) : Option (Bool) := l15_plain.l0 k 0 a0_0 a0_1 a0_2 l0_3
set_option maxHeartbeats 8000000 in
set_option maxRecDepth 100000 in
theorem l15_plain.calls (k : Nat) (a0_0 : Int) (a0_1 : Int) (a0_2 : Int) (A0_3 : Option Addr) (c0_3 : Nat) (l0_3 : List (List Int)) (r : Bool) (w : World) (hr0_3 : Kd.C (Kd.slice 3 (Kd.int .i64)) w A0_3 l0_3.length l0_3) (hc0_3 : l0_3.length ≤ c0_3) (h : l15_plain.f k a0_0 a0_1 a0_2 l0_3 = some r) :
  Calls Tryz.prog 12 #[.agg #[.int .i64 a0_0, .int .i64 a0_1, .int .i64 a0_2, .slice A0_3 l0_3.length c0_3]] w fun e w' => e = .returned (.bool r) ∧ Below w.heap.size w w' := by
 have hu24 := Tryz.underlying24
 have HR0_3 := As0.mk hr0_3
 have HC0_3 := As0.mk hc0_3
 clear hr0_3 hc0_3
 have HB := As0.mk (Below.refl w.heap.size w)
 have H : (l15_plain.l0 k 0 a0_0 a0_1 a0_2 l0_3) = some r := h
 clear h
 have H' := As0.mk H
 clear H
 go_enter Tryz.func12, Tryz.ntmps12
 go_wp2_with (first | ((with_reducible refine gdt (N := 1) rfl ?_); refine bxe ?hg (N := 1) ?hd (cs := #[.int .i64 a0_0, .int .i64 a0_1, .int .i64 a0_2, .slice A0_3 l0_3.length c0_3]) (t := 24) ?hr ?_; (case hd => rfl); (case hg => rfl); (case hr => first | (go_simp; done) | (go_simp; rfl)); intro gb101 hg w2 hbox hb; have n0_ := As0.mk (bwp (by repeat (first | (with_reducible first | exact HB.out | apply bwa | apply pwN | apply bwd) | exact HB.out)) hb); have n1_ := As0.mk (hbox); have n2_ := As0.mk ((by rw [hg]; exact (bwz (by repeat (first | (with_reducible first | exact HB.out | apply bwa | apply pwN | apply bwd) | exact HB.out))) : w.heap.size ≤ gb101)); have n3_ := As0.mk ((by rw [hg]; exact (bwz (by repeat (first | (with_reducible first | exact HB.out | apply bwa | apply pwN | apply bwd) | exact HB.out))) : w.heap.size ≤ gb101)); clear HB; have HB := n0_; have BK101 := n1_; have GW101 := n2_; have GE101 := n3_; clear n0_ n1_ n2_ n3_; clear hb hbox hg))
 go_loopg [3] k (fun kq v3 w' => ∃ (x3_1 : Int), v3 = .int .i64 x3_1 ∧ As0 (l15_plain.l0 kq x3_1 a0_0 a0_1 a0_2 l0_3 = some r) ∧ As0 (kq ≤ k) ∧ As0 (w'.heap[gb101]? = some (.cells #[.int .i64 a0_0, .int .i64 a0_1, .int .i64 a0_2, (.slice A0_3 l0_3.length c0_3)] 24 (0, 0))) ∧ As0 (Below w.heap.size w w'))
 case atStart => exact ⟨(0), (by first | rfl | (simp; done) | (simp [*]; done)), H', ⟨Nat.le_refl _⟩, ⟨by (with_reducible repeat (first | refine bkN ?_ _ | refine bkd ?_ | refine bka ?_ _)); exact BK101.out⟩, ⟨by repeat (first | (with_reducible first | exact HB.out | apply bwa | apply pwN | apply bwd | refine bws ?_ GE101.out) | exact HB.out)⟩⟩
 case round =>
  clear H'
  try clear c1
  try clear p2
  obtain ⟨x3_1, rfl, HA, HK1, BK101, HB⟩ := hrel
  cases gk with
  | zero => exact absurd HA.out (by simp [l15_plain.l0])
  | succ k1 =>
   have H := HA.out
   clear HA
   simp only [l15_plain.l0] at H
   by_cases c3 : x3_1 < (l0_3.length : Int)
   ·rw [if_pos c3] at H
    have c3b0 : decide (x3_1 < (l0_3.length : Int)) = true := decide_eq_true c3
    clear c3
    by_cases c4 : 0 ≤ x3_1
    ·rw [if_pos c4] at H
     have c4b0 : decide (0 ≤ x3_1) = true := decide_eq_true c4
     clear c4
     by_cases c5 : ((rd_L1 l0_3 x3_1).length : Int) > 5000
     ·rw [if_pos c5] at H
      have c5b0 : decide (5000 < ((rd_L1 l0_3 x3_1).length : Int)) = true := decide_eq_true c5
      have c5b1 : decide (5000 < (rd_L1 l0_3 x3_1).length) = true := decide_eq_true (by omega)
      clear c5
      obtain rfl := Option.some.inj H
      have hcz6_0 : wr.cell? ⟨gb101, 0, none⟩ = some (.int .i64 a0_0) := (bkc BK101.out 0).trans rfl
      have hcz6_1 : wr.cell? ⟨gb101, 1, none⟩ = some (.int .i64 a0_1) := (bkc BK101.out 1).trans rfl
      have hcz6_2 : wr.cell? ⟨gb101, 2, none⟩ = some (.int .i64 a0_2) := (bkc BK101.out 2).trans rfl
      have hcz6_3 : wr.cell? ⟨gb101, 3, none⟩ = some (.slice A0_3 l0_3.length c0_3) := (bkc BK101.out 3).trans rfl
      have hfz6_0 := bkz BK101.out 0
      have hfz6_1 := bkz BK101.out 1
      have hfz6_2 := bkz BK101.out 2
      have hfz6_3 := bkz BK101.out 3
      have p102 : 0 ≤ (x3_1 : Int) := of_decide_eq_true (by first | (with_reducible assumption) | assumption)
      have q102 : x3_1 < (l0_3.length : Int) := of_decide_eq_true (by first | (with_reducible assumption) | assumption)
      obtain ⟨ad102, A102_0, c102_0, e102, hx102_0, hl102_0, hi102_0⟩ := at_L1 HR0_3.out x3_1 p102 q102
      cases e102
      replace hx102_0 := (HB.out.cell (World.block_lt_of_cell? w _ hx102_0)).trans hx102_0
      have HR102_0 := As0.mk hi102_0
      have HC102_0 := As0.mk hl102_0
      clear hi102_0 hl102_0
      replace p102 := eq_true p102
      replace q102 := eq_true q102
      go_wp2
      go_ret
      exact ⟨by first | rfl | (simp [errW_none, errW_some] <;> rfl) | (simp [*, errW_none, errW_some] <;> rfl), by repeat (first | (with_reducible first | exact HB.out | apply bwa | apply pwN | apply bwd | refine bws ?_ GE101.out) | exact HB.out)⟩
     ·rw [if_neg c5] at H
      have c5b0 : decide (5000 < ((rd_L1 l0_3 x3_1).length : Int)) = false := decide_eq_false c5
      have c5b1 : decide (5000 < (rd_L1 l0_3 x3_1).length) = false := decide_eq_false (by omega)
      clear c5
      have H' := As0.mk H
      clear H
      have hcz7_0 : wr.cell? ⟨gb101, 0, none⟩ = some (.int .i64 a0_0) := (bkc BK101.out 0).trans rfl
      have hcz7_1 : wr.cell? ⟨gb101, 1, none⟩ = some (.int .i64 a0_1) := (bkc BK101.out 1).trans rfl
      have hcz7_2 : wr.cell? ⟨gb101, 2, none⟩ = some (.int .i64 a0_2) := (bkc BK101.out 2).trans rfl
      have hcz7_3 : wr.cell? ⟨gb101, 3, none⟩ = some (.slice A0_3 l0_3.length c0_3) := (bkc BK101.out 3).trans rfl
      have hfz7_0 := bkz BK101.out 0
      have hfz7_1 := bkz BK101.out 1
      have hfz7_2 := bkz BK101.out 2
      have hfz7_3 := bkz BK101.out 3
      have p102 : 0 ≤ (x3_1 : Int) := of_decide_eq_true (by first | (with_reducible assumption) | assumption)
      have q102 : x3_1 < (l0_3.length : Int) := of_decide_eq_true (by first | (with_reducible assumption) | assumption)
      obtain ⟨ad102, A102_0, c102_0, e102, hx102_0, hl102_0, hi102_0⟩ := at_L1 HR0_3.out x3_1 p102 q102
      cases e102
      replace hx102_0 := (HB.out.cell (World.block_lt_of_cell? w _ hx102_0)).trans hx102_0
      have HR102_0 := As0.mk hi102_0
      have HC102_0 := As0.mk hl102_0
      clear hi102_0 hl102_0
      replace p102 := eq_true p102
      replace q102 := eq_true q102
      go_wp2
      go_roundg k1
      case measure => have := HK1.out; omega
      case rel => exact ⟨(wrap64 (x3_1 + 1)), (by first | rfl | (simp; done) | (simp [*]; done)), H', ⟨by have := HK1.out; omega⟩, ⟨by (with_reducible repeat (first | refine bkN ?_ _ | refine bkd ?_ | refine bka ?_ _)); exact BK101.out⟩, ⟨by repeat (first | (with_reducible first | exact HB.out | apply bwa | apply pwN | apply bwd | refine bws ?_ GE101.out) | exact HB.out)⟩⟩
    ·rw [if_neg c4] at H
     exact absurd H (by simp)
   ·rw [if_neg c3] at H
    have c3b0 : decide (x3_1 < (l0_3.length : Int)) = false := decide_eq_false c3
    clear c3
    obtain rfl := Option.some.inj H
    have hcz8_0 : wr.cell? ⟨gb101, 0, none⟩ = some (.int .i64 a0_0) := (bkc BK101.out 0).trans rfl
    have hcz8_1 : wr.cell? ⟨gb101, 1, none⟩ = some (.int .i64 a0_1) := (bkc BK101.out 1).trans rfl
    have hcz8_2 : wr.cell? ⟨gb101, 2, none⟩ = some (.int .i64 a0_2) := (bkc BK101.out 2).trans rfl
    have hcz8_3 : wr.cell? ⟨gb101, 3, none⟩ = some (.slice A0_3 l0_3.length c0_3) := (bkc BK101.out 3).trans rfl
    have hfz8_0 := bkz BK101.out 0
    have hfz8_1 := bkz BK101.out 1
    have hfz8_2 := bkz BK101.out 2
    have hfz8_3 := bkz BK101.out 3
    go_wp2
    go_ret
    exact ⟨by first | rfl | (simp [errW_none, errW_some] <;> rfl) | (simp [*, errW_none, errW_some] <;> rfl), by repeat (first | (with_reducible first | exact HB.out | apply bwa | apply pwN | apply bwd | refine bws ?_ GE101.out) | exact HB.out)⟩
def item_side.f (a0 : Int) : Option (Bool) := (item_within.f a0 1 64).bind fun t203 => (some t203)
set_option maxHeartbeats 8000000 in
set_option maxRecDepth 100000 in
theorem item_side.calls (a0 : Int) (r : Bool) (w : World) (h : item_side.f a0 = some r) :
  Calls Tryz.prog 70 #[.int .i64 a0] w fun e w' => e = .returned (.bool r) ∧ Drawn0 w w' := by
 have H : ((item_within.f a0 1 64).bind fun t203 => (some t203)) = some r := h
 clear h
 replace H := Option.bind_eq_some_iff.mp H
 obtain ⟨t203, A20, H⟩ := H
 replace H : (some t203) = some r := H
 have A2 := As0.mk A20
 clear A20
 obtain rfl := Option.some.inj H
 go_enter Tryz.func70, Tryz.ntmps70
 go_wp2_with (first | ((with_reducible refine gate_callee (f := 48) rfl ?_); refine goesL_ (some 4) rfl rfl Tryz.func48 (by kernel_rfl) rfl #[.int .i64 a0, .int .i64 1, .int .i64 64] rfl (by (try simp only [List.map_toArray, List.map_cons, List.map_nil]); first | done | rfl | (simp only [List.length_drop, List.length_take]; rfl)) ?_; (with_reducible refine (item_within.calls a0 1 64 t203 _ A2.out).mono ?_); rintro e w' ⟨rfl, ⟨nd, rfl⟩⟩; refine ⟨_, rfl, ?_⟩))
 go_ret
 exact ⟨by first | rfl | (simp; done) | (simp [*]; done), by repeat (first | exact Drawn0.refl _ | apply Drawn0.step)⟩
theorem iwithin_f (a b c : Int) : item_within.f a b c = some (btw a b c) := by
 unfold item_within.f btw
 split
 ·rename_i h; simp [h]
 ·rename_i h; simp [show ¬ b ≤ a from h]
theorem iwithin_is (a b c : Int) (v : Bool) (h : btw a b c = v) (w : World) : Calls Tryz.prog 48 #[.int .i64 a, .int .i64 b, .int .i64 c] w fun e w' => e = .returned (.bool v) ∧ Drawn0 w w' := h ▸ item_within.calls a b c _ w (iwithin_f a b c)
theorem iside_is (a : Int) (v : Bool) (h : btw a 1 64 = v) (w : World) : Calls Tryz.prog 70 #[.int .i64 a] w fun e w' => e = .returned (.bool v) ∧ Drawn0 w w' := h ▸ item_side.calls a _ w (by unfold item_side.f; rw [iwithin_f]; rfl)
theorem enters_109 : ∀ (args : Array Value) (W : World), (callFunc 109 args).run Tryz.prog W = .ok (.enter 109 args) W := enters_of Tryz.func109 (by kernel_rfl) rfl
theorem enters_110 : ∀ (args : Array Value) (W : World), (callFunc 110 args).run Tryz.prog W = .ok (.enter 110 args) W := enters_of Tryz.func110 (by kernel_rfl) rfl
theorem pred_109 (w : World) : PredIn Tryz.prog 109 #[] (fun _ (x : Int) v => v = .int .i64 x) (fun v => !(btw v 0 4095)) w := ⟨enters_109, fun W x v hb he => by
 subst he
 have HC := As0.mk (iwithin_is x 0 4095 _ rfl)
 simp only [Array.append_empty]
 go_enter Tryz.func109, Tryz.ntmps109
 go_wp2_with (refine (HC.out _).mono ?_; rintro e w' ⟨rfl, hd⟩; have HD := As0.mk hd; clear hd)
 go_ret
 exact ⟨rfl, HD.out.below⟩⟩
theorem pred_110 (w : World) : PredIn Tryz.prog 110 #[] (fun _ (x : Int) v => v = .int .i64 x) (fun v => !(btw v (-64) 64)) w := ⟨enters_110, fun W x v hb he => by
 subst he
 have HC := As0.mk (iwithin_is x (-64) 64 _ rfl)
 simp only [Array.append_empty]
 go_enter Tryz.func110, Tryz.ntmps110
 go_wp2_with (refine (HC.out _).mono ?_; rintro e w' ⟨rfl, hd⟩; have HD := As0.mk hd; clear hd)
 go_ret
 exact ⟨rfl, HD.out.below⟩⟩
def item_ranges.f (a0_0 : Int) (a0_1 : Int) (l0_2 : List Int) (l0_3 : List Int) (l0_4 : List Int) (a0_5 : Int) (a0_6 : Int) (a0_7 : Int) (a0_8 : Int) (l0_9 : List Int) (a0_10 : Int) (a0_11 : Bool) : Option Bool :=
 some (if (btw a0_0 1 1000 && btw a0_1 0 3 && btw a0_10 0 3) = false then false
  else if a0_1 = 1 then (l0_3.length : Int) == 1
  else if a0_1 = 2 then btw a0_7 1 64 && btw a0_8 1 64 && btw (l0_9.length : Int) 1 4 && !(l0_9.any fun v => !(btw v 0 4095)) && decide ((l0_3.length : Int) ≤ 8) && ((l0_4.length : Int) == wrap64 (2 * (l0_3.length : Int))) && !(l0_4.any fun v => !(btw v (-64) 64))
  else if a0_1 = 3 then btw a0_7 1 64 && btw a0_8 1 64 && btw a0_5 1 8 && btw a0_6 1 8 && ((l0_3.length : Int) == wrap64 (a0_5 * a0_6))
  else true)
set_option maxHeartbeats 16000000 in
set_option maxRecDepth 100000 in
theorem item_ranges.calls (a0_0 : Int) (a0_1 : Int) (A0_2 : Option Addr) (c0_2 : Nat) (l0_2 : List Int) (A0_3 : Option Addr) (c0_3 : Nat) (l0_3 : List Int) (A0_4 : Option Addr) (c0_4 : Nat) (l0_4 : List Int) (a0_5 : Int) (a0_6 : Int) (a0_7 : Int) (a0_8 : Int) (A0_9 : Option Addr) (c0_9 : Nat) (l0_9 : List Int) (a0_10 : Int) (a0_11 : Bool) (r : Bool) (w : World) (hr0_2 : Kd.C (Kd.int .u8) w A0_2 l0_2.length l0_2) (hc0_2 : l0_2.length ≤ c0_2) (hr0_3 : Kd.C (Kd.int .i64) w A0_3 l0_3.length l0_3) (hc0_3 : l0_3.length ≤ c0_3) (hr0_4 : Kd.C (Kd.int .i64) w A0_4 l0_4.length l0_4) (hc0_4 : l0_4.length ≤ c0_4) (hr0_9 : Kd.C (Kd.int .i64) w A0_9 l0_9.length l0_9) (hc0_9 : l0_9.length ≤ c0_9) (h : item_ranges.f a0_0 a0_1 l0_2 l0_3 l0_4 a0_5 a0_6 a0_7 a0_8 l0_9 a0_10 a0_11 = some r) :
  Calls Tryz.prog 53 #[.agg #[.int .i64 a0_0, .int .i64 a0_1, .slice A0_2 l0_2.length c0_2, .slice A0_3 l0_3.length c0_3, .slice A0_4 l0_4.length c0_4, .int .i64 a0_5, .int .i64 a0_6, .int .i64 a0_7, .int .i64 a0_8, .slice A0_9 l0_9.length c0_9, .int .i64 a0_10, .bool a0_11]] w fun e w' => e = .returned (.bool r) ∧ Below w.heap.size w w' := by
 have hu68 := Tryz.underlying68
 have HR4 := As0.mk hr0_4
 have HR9 := As0.mk hr0_9
 clear hr0_2 hc0_2 hr0_3 hc0_3 hr0_4 hc0_4 hr0_9 hc0_9
 injection h with h
 cases b1 : btw a0_0 1 1000 with
 | false =>
  have HC1 := As0.mk (iwithin_is _ _ _ _ b1)
  simp only [b1, Bool.and_true, Bool.and_false, Bool.true_and, Bool.false_and, Bool.not_true, Bool.not_false, if_true, Bool.true_eq_false, if_false, Int.reduceEq, if_pos, reduceIte] at h
  subst h
  clear b1
  go_enter Tryz.func53, Tryz.ntmps53
  go_wp2_with (first | ((with_reducible refine gdt (N := 1) rfl ?_); refine bxe ?hg (N := 1) ?hd (cs := #[.int .i64 a0_0, .int .i64 a0_1, .slice A0_2 l0_2.length c0_2, .slice A0_3 l0_3.length c0_3, .slice A0_4 l0_4.length c0_4, .int .i64 a0_5, .int .i64 a0_6, .int .i64 a0_7, .int .i64 a0_8, .slice A0_9 l0_9.length c0_9, .int .i64 a0_10, .bool a0_11]) (t := 68) ?hr ?_; (case hd => rfl); (case hg => rfl); (case hr => first | (go_simp; done) | (go_simp; rfl)); intro gb hg w2 hbox hb; have HB2 := As0.mk hb; have BK := As0.mk hbox; have k0 := (bkc hbox 0).trans rfl; have k1 := (bkc hbox 1).trans rfl; have k2 := (bkc hbox 2).trans rfl; have k3 := (bkc hbox 3).trans rfl; have k4 := (bkc hbox 4).trans rfl; have k5 := (bkc hbox 5).trans rfl; have k6 := (bkc hbox 6).trans rfl; have k7 := (bkc hbox 7).trans rfl; have k8 := (bkc hbox 8).trans rfl; have k9 := (bkc hbox 9).trans rfl; have k10 := (bkc hbox 10).trans rfl; have k11 := (bkc hbox 11).trans rfl; clear hb hbox hg) | (go_at_call 48; (with_reducible refine (HC1.out _).mono ?_); rintro e w' ⟨rfl, hd⟩; obtain ⟨n1, rfl⟩ := hd.out; clear hd))
  go_ret
  exact ⟨rfl, by repeat (first | exact HB2.out | apply pwN)⟩
 | true =>
  cases b2 : btw a0_1 0 3 with
  | false =>
   have HC1 := As0.mk (iwithin_is _ _ _ _ b1)
   have HC2 := As0.mk (iwithin_is _ _ _ _ b2)
   simp only [b1, b2, Bool.and_true, Bool.and_false, Bool.true_and, Bool.false_and, Bool.not_true, Bool.not_false, if_true, Bool.true_eq_false, if_false, Int.reduceEq, if_pos, reduceIte] at h
   subst h
   clear b1 b2
   go_enter Tryz.func53, Tryz.ntmps53
   go_wp2_with (first | ((with_reducible refine gdt (N := 1) rfl ?_); refine bxe ?hg (N := 1) ?hd (cs := #[.int .i64 a0_0, .int .i64 a0_1, .slice A0_2 l0_2.length c0_2, .slice A0_3 l0_3.length c0_3, .slice A0_4 l0_4.length c0_4, .int .i64 a0_5, .int .i64 a0_6, .int .i64 a0_7, .int .i64 a0_8, .slice A0_9 l0_9.length c0_9, .int .i64 a0_10, .bool a0_11]) (t := 68) ?hr ?_; (case hd => rfl); (case hg => rfl); (case hr => first | (go_simp; done) | (go_simp; rfl)); intro gb hg w2 hbox hb; have HB2 := As0.mk hb; have BK := As0.mk hbox; have k0 := (bkc hbox 0).trans rfl; have k1 := (bkc hbox 1).trans rfl; have k2 := (bkc hbox 2).trans rfl; have k3 := (bkc hbox 3).trans rfl; have k4 := (bkc hbox 4).trans rfl; have k5 := (bkc hbox 5).trans rfl; have k6 := (bkc hbox 6).trans rfl; have k7 := (bkc hbox 7).trans rfl; have k8 := (bkc hbox 8).trans rfl; have k9 := (bkc hbox 9).trans rfl; have k10 := (bkc hbox 10).trans rfl; have k11 := (bkc hbox 11).trans rfl; clear hb hbox hg) | (go_at_call 48; (with_reducible refine (HC1.out _).mono ?_); rintro e w' ⟨rfl, hd⟩; obtain ⟨n1, rfl⟩ := hd.out; clear hd) | (go_at_call 48; (with_reducible refine (HC2.out _).mono ?_); rintro e w' ⟨rfl, hd⟩; obtain ⟨n2, rfl⟩ := hd.out; clear hd))
   go_ret
   exact ⟨rfl, by repeat (first | exact HB2.out | apply pwN)⟩
  | true =>
   cases b3 : btw a0_10 0 3 with
   | false =>
    have HC1 := As0.mk (iwithin_is _ _ _ _ b1)
    have HC2 := As0.mk (iwithin_is _ _ _ _ b2)
    have HC3 := As0.mk (iwithin_is _ _ _ _ b3)
    simp only [b1, b2, b3, Bool.and_true, Bool.and_false, Bool.true_and, Bool.false_and, Bool.not_true, Bool.not_false, if_true, Bool.true_eq_false, if_false, Int.reduceEq, if_pos, reduceIte] at h
    subst h
    clear b1 b2 b3
    go_enter Tryz.func53, Tryz.ntmps53
    go_wp2_with (first | ((with_reducible refine gdt (N := 1) rfl ?_); refine bxe ?hg (N := 1) ?hd (cs := #[.int .i64 a0_0, .int .i64 a0_1, .slice A0_2 l0_2.length c0_2, .slice A0_3 l0_3.length c0_3, .slice A0_4 l0_4.length c0_4, .int .i64 a0_5, .int .i64 a0_6, .int .i64 a0_7, .int .i64 a0_8, .slice A0_9 l0_9.length c0_9, .int .i64 a0_10, .bool a0_11]) (t := 68) ?hr ?_; (case hd => rfl); (case hg => rfl); (case hr => first | (go_simp; done) | (go_simp; rfl)); intro gb hg w2 hbox hb; have HB2 := As0.mk hb; have BK := As0.mk hbox; have k0 := (bkc hbox 0).trans rfl; have k1 := (bkc hbox 1).trans rfl; have k2 := (bkc hbox 2).trans rfl; have k3 := (bkc hbox 3).trans rfl; have k4 := (bkc hbox 4).trans rfl; have k5 := (bkc hbox 5).trans rfl; have k6 := (bkc hbox 6).trans rfl; have k7 := (bkc hbox 7).trans rfl; have k8 := (bkc hbox 8).trans rfl; have k9 := (bkc hbox 9).trans rfl; have k10 := (bkc hbox 10).trans rfl; have k11 := (bkc hbox 11).trans rfl; clear hb hbox hg) | (go_at_call 48; (with_reducible refine (HC1.out _).mono ?_); rintro e w' ⟨rfl, hd⟩; obtain ⟨n1, rfl⟩ := hd.out; clear hd) | (go_at_call 48; (with_reducible refine (HC2.out _).mono ?_); rintro e w' ⟨rfl, hd⟩; obtain ⟨n2, rfl⟩ := hd.out; clear hd) | (go_at_call 48; (with_reducible refine (HC3.out _).mono ?_); rintro e w' ⟨rfl, hd⟩; obtain ⟨n3, rfl⟩ := hd.out; clear hd))
    go_ret
    exact ⟨rfl, by repeat (first | exact HB2.out | apply pwN)⟩
   | true =>
    have HC1 := As0.mk (iwithin_is _ _ _ _ b1)
    have HC2 := As0.mk (iwithin_is _ _ _ _ b2)
    have HC3 := As0.mk (iwithin_is _ _ _ _ b3)
    have hk : a0_1 = 0 ∨ a0_1 = 1 ∨ a0_1 = 2 ∨ a0_1 = 3 := by simp [btw] at b2; omega
    simp only [b1, b2, b3, Bool.and_true, Bool.true_eq_false, if_false] at h
    clear b1 b2 b3
    rcases hk with rfl | rfl | rfl | rfl
    ·simp only [Int.reduceEq, if_false, reduceIte] at h
     subst h
     go_enter Tryz.func53, Tryz.ntmps53
     go_wp2_with (first | ((with_reducible refine gdt (N := 1) rfl ?_); refine bxe ?hg (N := 1) ?hd (cs := #[.int .i64 a0_0, .int .i64 0, .slice A0_2 l0_2.length c0_2, .slice A0_3 l0_3.length c0_3, .slice A0_4 l0_4.length c0_4, .int .i64 a0_5, .int .i64 a0_6, .int .i64 a0_7, .int .i64 a0_8, .slice A0_9 l0_9.length c0_9, .int .i64 a0_10, .bool a0_11]) (t := 68) ?hr ?_; (case hd => rfl); (case hg => rfl); (case hr => first | (go_simp; done) | (go_simp; rfl)); intro gb hg w2 hbox hb; have HB2 := As0.mk hb; have BK := As0.mk hbox; have k0 := (bkc hbox 0).trans rfl; have k1 := (bkc hbox 1).trans rfl; have k2 := (bkc hbox 2).trans rfl; have k3 := (bkc hbox 3).trans rfl; have k4 := (bkc hbox 4).trans rfl; have k5 := (bkc hbox 5).trans rfl; have k6 := (bkc hbox 6).trans rfl; have k7 := (bkc hbox 7).trans rfl; have k8 := (bkc hbox 8).trans rfl; have k9 := (bkc hbox 9).trans rfl; have k10 := (bkc hbox 10).trans rfl; have k11 := (bkc hbox 11).trans rfl; clear hb hbox hg) | (go_at_call 48; (with_reducible refine (HC1.out _).mono ?_); rintro e w' ⟨rfl, hd⟩; obtain ⟨n1, rfl⟩ := hd.out; clear hd) | (go_at_call 48; (with_reducible refine (HC2.out _).mono ?_); rintro e w' ⟨rfl, hd⟩; obtain ⟨n2, rfl⟩ := hd.out; clear hd) | (go_at_call 48; (with_reducible refine (HC3.out _).mono ?_); rintro e w' ⟨rfl, hd⟩; obtain ⟨n3, rfl⟩ := hd.out; clear hd))
     go_ret
     exact ⟨rfl, by repeat (first | exact HB2.out | apply pwN)⟩
    ·simp only [Int.reduceEq, if_false, if_true, reduceIte] at h
     subst h
     go_enter Tryz.func53, Tryz.ntmps53
     go_wp2_with (first | ((with_reducible refine gdt (N := 1) rfl ?_); refine bxe ?hg (N := 1) ?hd (cs := #[.int .i64 a0_0, .int .i64 1, .slice A0_2 l0_2.length c0_2, .slice A0_3 l0_3.length c0_3, .slice A0_4 l0_4.length c0_4, .int .i64 a0_5, .int .i64 a0_6, .int .i64 a0_7, .int .i64 a0_8, .slice A0_9 l0_9.length c0_9, .int .i64 a0_10, .bool a0_11]) (t := 68) ?hr ?_; (case hd => rfl); (case hg => rfl); (case hr => first | (go_simp; done) | (go_simp; rfl)); intro gb hg w2 hbox hb; have HB2 := As0.mk hb; have BK := As0.mk hbox; have k0 := (bkc hbox 0).trans rfl; have k1 := (bkc hbox 1).trans rfl; have k2 := (bkc hbox 2).trans rfl; have k3 := (bkc hbox 3).trans rfl; have k4 := (bkc hbox 4).trans rfl; have k5 := (bkc hbox 5).trans rfl; have k6 := (bkc hbox 6).trans rfl; have k7 := (bkc hbox 7).trans rfl; have k8 := (bkc hbox 8).trans rfl; have k9 := (bkc hbox 9).trans rfl; have k10 := (bkc hbox 10).trans rfl; have k11 := (bkc hbox 11).trans rfl; clear hb hbox hg) | (go_at_call 48; (with_reducible refine (HC1.out _).mono ?_); rintro e w' ⟨rfl, hd⟩; obtain ⟨n1, rfl⟩ := hd.out; clear hd) | (go_at_call 48; (with_reducible refine (HC2.out _).mono ?_); rintro e w' ⟨rfl, hd⟩; obtain ⟨n2, rfl⟩ := hd.out; clear hd) | (go_at_call 48; (with_reducible refine (HC3.out _).mono ?_); rintro e w' ⟨rfl, hd⟩; obtain ⟨n3, rfl⟩ := hd.out; clear hd))
     go_ret
     exact ⟨rfl, by repeat (first | exact HB2.out | apply pwN)⟩
    ·simp only [Int.reduceEq, if_false, if_true, reduceIte] at h
     cases b4 : btw a0_7 1 64 with
     | false =>
      simp only [b4, Bool.and_true, Bool.and_false, Bool.true_and, Bool.false_and, Bool.not_true, Bool.not_false, if_true, Bool.true_eq_false, if_false, Int.reduceEq, if_pos, reduceIte] at h
      subst h
      have HC4 := As0.mk (iside_is _ _ b4)
      clear b4
      go_enter Tryz.func53, Tryz.ntmps53
      go_wp2_with (first | ((with_reducible refine gdt (N := 1) rfl ?_); refine bxe ?hg (N := 1) ?hd (cs := #[.int .i64 a0_0, .int .i64 2, .slice A0_2 l0_2.length c0_2, .slice A0_3 l0_3.length c0_3, .slice A0_4 l0_4.length c0_4, .int .i64 a0_5, .int .i64 a0_6, .int .i64 a0_7, .int .i64 a0_8, .slice A0_9 l0_9.length c0_9, .int .i64 a0_10, .bool a0_11]) (t := 68) ?hr ?_; (case hd => rfl); (case hg => rfl); (case hr => first | (go_simp; done) | (go_simp; rfl)); intro gb hg w2 hbox hb; have HB2 := As0.mk hb; have BK := As0.mk hbox; have k0 := (bkc hbox 0).trans rfl; have k1 := (bkc hbox 1).trans rfl; have k2 := (bkc hbox 2).trans rfl; have k3 := (bkc hbox 3).trans rfl; have k4 := (bkc hbox 4).trans rfl; have k5 := (bkc hbox 5).trans rfl; have k6 := (bkc hbox 6).trans rfl; have k7 := (bkc hbox 7).trans rfl; have k8 := (bkc hbox 8).trans rfl; have k9 := (bkc hbox 9).trans rfl; have k10 := (bkc hbox 10).trans rfl; have k11 := (bkc hbox 11).trans rfl; clear hb hbox hg) | (go_at_call 48; (with_reducible refine (HC1.out _).mono ?_); rintro e w' ⟨rfl, hd⟩; obtain ⟨n1, rfl⟩ := hd.out; clear hd) | (go_at_call 48; (with_reducible refine (HC2.out _).mono ?_); rintro e w' ⟨rfl, hd⟩; obtain ⟨n2, rfl⟩ := hd.out; clear hd) | (go_at_call 48; (with_reducible refine (HC3.out _).mono ?_); rintro e w' ⟨rfl, hd⟩; obtain ⟨n3, rfl⟩ := hd.out; clear hd) | (go_at_call 70; (with_reducible refine (HC4.out _).mono ?_); rintro e w' ⟨rfl, hd⟩; obtain ⟨n4, rfl⟩ := hd.out; clear hd))
      go_ret
      exact ⟨rfl, by repeat (first | exact HB2.out | apply pwN)⟩
     | true =>
      cases b5 : btw a0_8 1 64 with
      | false =>
       simp only [b4, b5, Bool.and_true, Bool.and_false, Bool.true_and, Bool.false_and, Bool.not_true, Bool.not_false, if_true, Bool.true_eq_false, if_false, Int.reduceEq, if_pos, reduceIte] at h
       subst h
       have HC4 := As0.mk (iside_is _ _ b4)
       have HC5 := As0.mk (iside_is _ _ b5)
       clear b4 b5
       go_enter Tryz.func53, Tryz.ntmps53
       go_wp2_with (first | ((with_reducible refine gdt (N := 1) rfl ?_); refine bxe ?hg (N := 1) ?hd (cs := #[.int .i64 a0_0, .int .i64 2, .slice A0_2 l0_2.length c0_2, .slice A0_3 l0_3.length c0_3, .slice A0_4 l0_4.length c0_4, .int .i64 a0_5, .int .i64 a0_6, .int .i64 a0_7, .int .i64 a0_8, .slice A0_9 l0_9.length c0_9, .int .i64 a0_10, .bool a0_11]) (t := 68) ?hr ?_; (case hd => rfl); (case hg => rfl); (case hr => first | (go_simp; done) | (go_simp; rfl)); intro gb hg w2 hbox hb; have HB2 := As0.mk hb; have BK := As0.mk hbox; have k0 := (bkc hbox 0).trans rfl; have k1 := (bkc hbox 1).trans rfl; have k2 := (bkc hbox 2).trans rfl; have k3 := (bkc hbox 3).trans rfl; have k4 := (bkc hbox 4).trans rfl; have k5 := (bkc hbox 5).trans rfl; have k6 := (bkc hbox 6).trans rfl; have k7 := (bkc hbox 7).trans rfl; have k8 := (bkc hbox 8).trans rfl; have k9 := (bkc hbox 9).trans rfl; have k10 := (bkc hbox 10).trans rfl; have k11 := (bkc hbox 11).trans rfl; clear hb hbox hg) | (go_at_call 48; (with_reducible refine (HC1.out _).mono ?_); rintro e w' ⟨rfl, hd⟩; obtain ⟨n1, rfl⟩ := hd.out; clear hd) | (go_at_call 48; (with_reducible refine (HC2.out _).mono ?_); rintro e w' ⟨rfl, hd⟩; obtain ⟨n2, rfl⟩ := hd.out; clear hd) | (go_at_call 48; (with_reducible refine (HC3.out _).mono ?_); rintro e w' ⟨rfl, hd⟩; obtain ⟨n3, rfl⟩ := hd.out; clear hd) | (go_at_call 70; (with_reducible refine (HC4.out _).mono ?_); rintro e w' ⟨rfl, hd⟩; obtain ⟨n4, rfl⟩ := hd.out; clear hd) | (go_at_call 70; (with_reducible refine (HC5.out _).mono ?_); rintro e w' ⟨rfl, hd⟩; obtain ⟨n5, rfl⟩ := hd.out; clear hd))
       go_ret
       exact ⟨rfl, by repeat (first | exact HB2.out | apply pwN)⟩
      | true =>
       cases b6 : btw (l0_9.length : Int) 1 4 with
       | false =>
        simp only [b4, b5, b6, Bool.and_true, Bool.and_false, Bool.true_and, Bool.false_and, Bool.not_true, Bool.not_false, if_true, Bool.true_eq_false, if_false, Int.reduceEq, if_pos, reduceIte] at h
        subst h
        have HC4 := As0.mk (iside_is _ _ b4)
        have HC5 := As0.mk (iside_is _ _ b5)
        have HC6 := As0.mk (iwithin_is _ _ _ _ b6)
        clear b4 b5 b6
        go_enter Tryz.func53, Tryz.ntmps53
        go_wp2_with (first | ((with_reducible refine gdt (N := 1) rfl ?_); refine bxe ?hg (N := 1) ?hd (cs := #[.int .i64 a0_0, .int .i64 2, .slice A0_2 l0_2.length c0_2, .slice A0_3 l0_3.length c0_3, .slice A0_4 l0_4.length c0_4, .int .i64 a0_5, .int .i64 a0_6, .int .i64 a0_7, .int .i64 a0_8, .slice A0_9 l0_9.length c0_9, .int .i64 a0_10, .bool a0_11]) (t := 68) ?hr ?_; (case hd => rfl); (case hg => rfl); (case hr => first | (go_simp; done) | (go_simp; rfl)); intro gb hg w2 hbox hb; have HB2 := As0.mk hb; have BK := As0.mk hbox; have k0 := (bkc hbox 0).trans rfl; have k1 := (bkc hbox 1).trans rfl; have k2 := (bkc hbox 2).trans rfl; have k3 := (bkc hbox 3).trans rfl; have k4 := (bkc hbox 4).trans rfl; have k5 := (bkc hbox 5).trans rfl; have k6 := (bkc hbox 6).trans rfl; have k7 := (bkc hbox 7).trans rfl; have k8 := (bkc hbox 8).trans rfl; have k9 := (bkc hbox 9).trans rfl; have k10 := (bkc hbox 10).trans rfl; have k11 := (bkc hbox 11).trans rfl; clear hb hbox hg) | (go_at_call 48; (with_reducible refine (HC1.out _).mono ?_); rintro e w' ⟨rfl, hd⟩; obtain ⟨n1, rfl⟩ := hd.out; clear hd) | (go_at_call 48; (with_reducible refine (HC2.out _).mono ?_); rintro e w' ⟨rfl, hd⟩; obtain ⟨n2, rfl⟩ := hd.out; clear hd) | (go_at_call 48; (with_reducible refine (HC3.out _).mono ?_); rintro e w' ⟨rfl, hd⟩; obtain ⟨n3, rfl⟩ := hd.out; clear hd) | (go_at_call 70; (with_reducible refine (HC4.out _).mono ?_); rintro e w' ⟨rfl, hd⟩; obtain ⟨n4, rfl⟩ := hd.out; clear hd) | (go_at_call 70; (with_reducible refine (HC5.out _).mono ?_); rintro e w' ⟨rfl, hd⟩; obtain ⟨n5, rfl⟩ := hd.out; clear hd) | (go_at_call 48; (with_reducible refine (HC6.out _).mono ?_); rintro e w' ⟨rfl, hd⟩; obtain ⟨n6, rfl⟩ := hd.out; clear hd))
        go_ret
        exact ⟨rfl, by repeat (first | exact HB2.out | apply pwN)⟩
       | true =>
        cases b7 : l0_9.any (fun v => !(btw v 0 4095)) with
        | true =>
         simp only [b4, b5, b6, b7, Bool.and_true, Bool.and_false, Bool.true_and, Bool.false_and, Bool.not_true, Bool.not_false, if_true, Bool.true_eq_false, if_false, Int.reduceEq, if_pos, reduceIte] at h
         subst h
         have HC4 := As0.mk (iside_is _ _ b4)
         have HC5 := As0.mk (iside_is _ _ b5)
         have HC6 := As0.mk (iwithin_is _ _ _ _ b6)
         have HC7 := As0.mk b7
         clear b4 b5 b6 b7
         go_enter Tryz.func53, Tryz.ntmps53
         go_wp2_with (first | ((with_reducible refine gdt (N := 1) rfl ?_); refine bxe ?hg (N := 1) ?hd (cs := #[.int .i64 a0_0, .int .i64 2, .slice A0_2 l0_2.length c0_2, .slice A0_3 l0_3.length c0_3, .slice A0_4 l0_4.length c0_4, .int .i64 a0_5, .int .i64 a0_6, .int .i64 a0_7, .int .i64 a0_8, .slice A0_9 l0_9.length c0_9, .int .i64 a0_10, .bool a0_11]) (t := 68) ?hr ?_; (case hd => rfl); (case hg => rfl); (case hr => first | (go_simp; done) | (go_simp; rfl)); intro gb hg w2 hbox hb; have HB2 := As0.mk hb; have BK := As0.mk hbox; have k0 := (bkc hbox 0).trans rfl; have k1 := (bkc hbox 1).trans rfl; have k2 := (bkc hbox 2).trans rfl; have k3 := (bkc hbox 3).trans rfl; have k4 := (bkc hbox 4).trans rfl; have k5 := (bkc hbox 5).trans rfl; have k6 := (bkc hbox 6).trans rfl; have k7 := (bkc hbox 7).trans rfl; have k8 := (bkc hbox 8).trans rfl; have k9 := (bkc hbox 9).trans rfl; have k10 := (bkc hbox 10).trans rfl; have k11 := (bkc hbox 11).trans rfl; clear hb hbox hg) | (go_at_call 48; (with_reducible refine (HC1.out _).mono ?_); rintro e w' ⟨rfl, hd⟩; obtain ⟨n1, rfl⟩ := hd.out; clear hd) | (go_at_call 48; (with_reducible refine (HC2.out _).mono ?_); rintro e w' ⟨rfl, hd⟩; obtain ⟨n2, rfl⟩ := hd.out; clear hd) | (go_at_call 48; (with_reducible refine (HC3.out _).mono ?_); rintro e w' ⟨rfl, hd⟩; obtain ⟨n3, rfl⟩ := hd.out; clear hd) | (go_at_call 70; (with_reducible refine (HC4.out _).mono ?_); rintro e w' ⟨rfl, hd⟩; obtain ⟨n4, rfl⟩ := hd.out; clear hd) | (go_at_call 70; (with_reducible refine (HC5.out _).mono ?_); rintro e w' ⟨rfl, hd⟩; obtain ⟨n5, rfl⟩ := hd.out; clear hd) | (go_at_call 48; (with_reducible refine (HC6.out _).mono ?_); rintro e w' ⟨rfl, hd⟩; obtain ⟨n6, rfl⟩ := hd.out; clear hd) | (go_at_call 56; (with_reducible refine (ContainsFunc_int.calls 109 #[] (fun v => !(btw v 0 4095)) A0_9 c0_9 l0_9 _ ?hC ?hP).mono ?_); (case hC => exact Kd.C_below HR9.out (by repeat (first | exact HB2.out | apply pwN))); (case hP => exact pred_109 _); rintro e w' ⟨rfl, hb⟩; have HBc7 := As0.mk (pwt (by repeat (first | exact HB2.out | apply pwN)) hb); have BKc7 := As0.mk ((hb.block gb (by exact blk_lt BK.out)).trans (by exact BK.out)); clear hb; rw [HC7.out]; have k0 := (bkc BKc7.out 0).trans rfl; have k1 := (bkc BKc7.out 1).trans rfl; have k2 := (bkc BKc7.out 2).trans rfl; have k3 := (bkc BKc7.out 3).trans rfl; have k4 := (bkc BKc7.out 4).trans rfl; have k5 := (bkc BKc7.out 5).trans rfl; have k6 := (bkc BKc7.out 6).trans rfl; have k7 := (bkc BKc7.out 7).trans rfl; have k8 := (bkc BKc7.out 8).trans rfl; have k9 := (bkc BKc7.out 9).trans rfl; have k10 := (bkc BKc7.out 10).trans rfl; have k11 := (bkc BKc7.out 11).trans rfl))
         go_ret
         exact ⟨rfl, by repeat (first | exact HBc7.out | apply pwN)⟩
        | false =>
         cases b8 : decide ((l0_3.length : Int) ≤ 8) with
         | false =>
          simp only [b4, b5, b6, b7, b8, Bool.and_true, Bool.and_false, Bool.true_and, Bool.false_and, Bool.not_true, Bool.not_false, if_true, Bool.true_eq_false, if_false, Int.reduceEq, if_pos, reduceIte] at h
          subst h
          have HC4 := As0.mk (iside_is _ _ b4)
          have HC5 := As0.mk (iside_is _ _ b5)
          have HC6 := As0.mk (iwithin_is _ _ _ _ b6)
          have HC7 := As0.mk b7
          clear b4 b5 b6 b7
          go_enter Tryz.func53, Tryz.ntmps53
          go_wp2_with (first | ((with_reducible refine gdt (N := 1) rfl ?_); refine bxe ?hg (N := 1) ?hd (cs := #[.int .i64 a0_0, .int .i64 2, .slice A0_2 l0_2.length c0_2, .slice A0_3 l0_3.length c0_3, .slice A0_4 l0_4.length c0_4, .int .i64 a0_5, .int .i64 a0_6, .int .i64 a0_7, .int .i64 a0_8, .slice A0_9 l0_9.length c0_9, .int .i64 a0_10, .bool a0_11]) (t := 68) ?hr ?_; (case hd => rfl); (case hg => rfl); (case hr => first | (go_simp; done) | (go_simp; rfl)); intro gb hg w2 hbox hb; have HB2 := As0.mk hb; have BK := As0.mk hbox; have k0 := (bkc hbox 0).trans rfl; have k1 := (bkc hbox 1).trans rfl; have k2 := (bkc hbox 2).trans rfl; have k3 := (bkc hbox 3).trans rfl; have k4 := (bkc hbox 4).trans rfl; have k5 := (bkc hbox 5).trans rfl; have k6 := (bkc hbox 6).trans rfl; have k7 := (bkc hbox 7).trans rfl; have k8 := (bkc hbox 8).trans rfl; have k9 := (bkc hbox 9).trans rfl; have k10 := (bkc hbox 10).trans rfl; have k11 := (bkc hbox 11).trans rfl; clear hb hbox hg) | (go_at_call 48; (with_reducible refine (HC1.out _).mono ?_); rintro e w' ⟨rfl, hd⟩; obtain ⟨n1, rfl⟩ := hd.out; clear hd) | (go_at_call 48; (with_reducible refine (HC2.out _).mono ?_); rintro e w' ⟨rfl, hd⟩; obtain ⟨n2, rfl⟩ := hd.out; clear hd) | (go_at_call 48; (with_reducible refine (HC3.out _).mono ?_); rintro e w' ⟨rfl, hd⟩; obtain ⟨n3, rfl⟩ := hd.out; clear hd) | (go_at_call 70; (with_reducible refine (HC4.out _).mono ?_); rintro e w' ⟨rfl, hd⟩; obtain ⟨n4, rfl⟩ := hd.out; clear hd) | (go_at_call 70; (with_reducible refine (HC5.out _).mono ?_); rintro e w' ⟨rfl, hd⟩; obtain ⟨n5, rfl⟩ := hd.out; clear hd) | (go_at_call 48; (with_reducible refine (HC6.out _).mono ?_); rintro e w' ⟨rfl, hd⟩; obtain ⟨n6, rfl⟩ := hd.out; clear hd) | (go_at_call 56; (with_reducible refine (ContainsFunc_int.calls 109 #[] (fun v => !(btw v 0 4095)) A0_9 c0_9 l0_9 _ ?hC ?hP).mono ?_); (case hC => exact Kd.C_below HR9.out (by repeat (first | exact HB2.out | apply pwN))); (case hP => exact pred_109 _); rintro e w' ⟨rfl, hb⟩; have HBc7 := As0.mk (pwt (by repeat (first | exact HB2.out | apply pwN)) hb); have BKc7 := As0.mk ((hb.block gb (by exact blk_lt BK.out)).trans (by exact BK.out)); clear hb; rw [HC7.out]; have k0 := (bkc BKc7.out 0).trans rfl; have k1 := (bkc BKc7.out 1).trans rfl; have k2 := (bkc BKc7.out 2).trans rfl; have k3 := (bkc BKc7.out 3).trans rfl; have k4 := (bkc BKc7.out 4).trans rfl; have k5 := (bkc BKc7.out 5).trans rfl; have k6 := (bkc BKc7.out 6).trans rfl; have k7 := (bkc BKc7.out 7).trans rfl; have k8 := (bkc BKc7.out 8).trans rfl; have k9 := (bkc BKc7.out 9).trans rfl; have k10 := (bkc BKc7.out 10).trans rfl; have k11 := (bkc BKc7.out 11).trans rfl))
          go_ret
          exact ⟨rfl, by repeat (first | exact HBc7.out | apply pwN)⟩
         | true =>
          cases b9 : ((l0_4.length : Int) == wrap64 (2 * (l0_3.length : Int))) with
          | false =>
           simp only [b4, b5, b6, b7, b8, b9, Bool.and_true, Bool.and_false, Bool.true_and, Bool.false_and, Bool.not_true, Bool.not_false, if_true, Bool.true_eq_false, if_false, Int.reduceEq, if_pos, reduceIte] at h
           subst h
           have HC4 := As0.mk (iside_is _ _ b4)
           have HC5 := As0.mk (iside_is _ _ b5)
           have HC6 := As0.mk (iwithin_is _ _ _ _ b6)
           have HC7 := As0.mk b7
           clear b4 b5 b6 b7
           go_enter Tryz.func53, Tryz.ntmps53
           go_wp2_with (first | ((with_reducible refine gdt (N := 1) rfl ?_); refine bxe ?hg (N := 1) ?hd (cs := #[.int .i64 a0_0, .int .i64 2, .slice A0_2 l0_2.length c0_2, .slice A0_3 l0_3.length c0_3, .slice A0_4 l0_4.length c0_4, .int .i64 a0_5, .int .i64 a0_6, .int .i64 a0_7, .int .i64 a0_8, .slice A0_9 l0_9.length c0_9, .int .i64 a0_10, .bool a0_11]) (t := 68) ?hr ?_; (case hd => rfl); (case hg => rfl); (case hr => first | (go_simp; done) | (go_simp; rfl)); intro gb hg w2 hbox hb; have HB2 := As0.mk hb; have BK := As0.mk hbox; have k0 := (bkc hbox 0).trans rfl; have k1 := (bkc hbox 1).trans rfl; have k2 := (bkc hbox 2).trans rfl; have k3 := (bkc hbox 3).trans rfl; have k4 := (bkc hbox 4).trans rfl; have k5 := (bkc hbox 5).trans rfl; have k6 := (bkc hbox 6).trans rfl; have k7 := (bkc hbox 7).trans rfl; have k8 := (bkc hbox 8).trans rfl; have k9 := (bkc hbox 9).trans rfl; have k10 := (bkc hbox 10).trans rfl; have k11 := (bkc hbox 11).trans rfl; clear hb hbox hg) | (go_at_call 48; (with_reducible refine (HC1.out _).mono ?_); rintro e w' ⟨rfl, hd⟩; obtain ⟨n1, rfl⟩ := hd.out; clear hd) | (go_at_call 48; (with_reducible refine (HC2.out _).mono ?_); rintro e w' ⟨rfl, hd⟩; obtain ⟨n2, rfl⟩ := hd.out; clear hd) | (go_at_call 48; (with_reducible refine (HC3.out _).mono ?_); rintro e w' ⟨rfl, hd⟩; obtain ⟨n3, rfl⟩ := hd.out; clear hd) | (go_at_call 70; (with_reducible refine (HC4.out _).mono ?_); rintro e w' ⟨rfl, hd⟩; obtain ⟨n4, rfl⟩ := hd.out; clear hd) | (go_at_call 70; (with_reducible refine (HC5.out _).mono ?_); rintro e w' ⟨rfl, hd⟩; obtain ⟨n5, rfl⟩ := hd.out; clear hd) | (go_at_call 48; (with_reducible refine (HC6.out _).mono ?_); rintro e w' ⟨rfl, hd⟩; obtain ⟨n6, rfl⟩ := hd.out; clear hd) | (go_at_call 56; (with_reducible refine (ContainsFunc_int.calls 109 #[] (fun v => !(btw v 0 4095)) A0_9 c0_9 l0_9 _ ?hC ?hP).mono ?_); (case hC => exact Kd.C_below HR9.out (by repeat (first | exact HB2.out | apply pwN))); (case hP => exact pred_109 _); rintro e w' ⟨rfl, hb⟩; have HBc7 := As0.mk (pwt (by repeat (first | exact HB2.out | apply pwN)) hb); have BKc7 := As0.mk ((hb.block gb (by exact blk_lt BK.out)).trans (by exact BK.out)); clear hb; rw [HC7.out]; have k0 := (bkc BKc7.out 0).trans rfl; have k1 := (bkc BKc7.out 1).trans rfl; have k2 := (bkc BKc7.out 2).trans rfl; have k3 := (bkc BKc7.out 3).trans rfl; have k4 := (bkc BKc7.out 4).trans rfl; have k5 := (bkc BKc7.out 5).trans rfl; have k6 := (bkc BKc7.out 6).trans rfl; have k7 := (bkc BKc7.out 7).trans rfl; have k8 := (bkc BKc7.out 8).trans rfl; have k9 := (bkc BKc7.out 9).trans rfl; have k10 := (bkc BKc7.out 10).trans rfl; have k11 := (bkc BKc7.out 11).trans rfl))
           go_ret
           exact ⟨rfl, by repeat (first | exact HBc7.out | apply pwN)⟩
          | true =>
           cases b10 : l0_4.any (fun v => !(btw v (-64) 64)) with
           | false =>
            simp only [b4, b5, b6, b7, b8, b9, b10, Bool.and_true, Bool.and_false, Bool.true_and, Bool.false_and, Bool.not_true, Bool.not_false, if_true, Bool.true_eq_false, if_false, Int.reduceEq, if_pos, reduceIte] at h
            subst h
            have HC4 := As0.mk (iside_is _ _ b4)
            have HC5 := As0.mk (iside_is _ _ b5)
            have HC6 := As0.mk (iwithin_is _ _ _ _ b6)
            have HC7 := As0.mk b7
            have HC10 := As0.mk b10
            clear b4 b5 b6 b7 b10
            go_enter Tryz.func53, Tryz.ntmps53
            go_wp2_with (first | ((with_reducible refine gdt (N := 1) rfl ?_); refine bxe ?hg (N := 1) ?hd (cs := #[.int .i64 a0_0, .int .i64 2, .slice A0_2 l0_2.length c0_2, .slice A0_3 l0_3.length c0_3, .slice A0_4 l0_4.length c0_4, .int .i64 a0_5, .int .i64 a0_6, .int .i64 a0_7, .int .i64 a0_8, .slice A0_9 l0_9.length c0_9, .int .i64 a0_10, .bool a0_11]) (t := 68) ?hr ?_; (case hd => rfl); (case hg => rfl); (case hr => first | (go_simp; done) | (go_simp; rfl)); intro gb hg w2 hbox hb; have HB2 := As0.mk hb; have BK := As0.mk hbox; have k0 := (bkc hbox 0).trans rfl; have k1 := (bkc hbox 1).trans rfl; have k2 := (bkc hbox 2).trans rfl; have k3 := (bkc hbox 3).trans rfl; have k4 := (bkc hbox 4).trans rfl; have k5 := (bkc hbox 5).trans rfl; have k6 := (bkc hbox 6).trans rfl; have k7 := (bkc hbox 7).trans rfl; have k8 := (bkc hbox 8).trans rfl; have k9 := (bkc hbox 9).trans rfl; have k10 := (bkc hbox 10).trans rfl; have k11 := (bkc hbox 11).trans rfl; clear hb hbox hg) | (go_at_call 48; (with_reducible refine (HC1.out _).mono ?_); rintro e w' ⟨rfl, hd⟩; obtain ⟨n1, rfl⟩ := hd.out; clear hd) | (go_at_call 48; (with_reducible refine (HC2.out _).mono ?_); rintro e w' ⟨rfl, hd⟩; obtain ⟨n2, rfl⟩ := hd.out; clear hd) | (go_at_call 48; (with_reducible refine (HC3.out _).mono ?_); rintro e w' ⟨rfl, hd⟩; obtain ⟨n3, rfl⟩ := hd.out; clear hd) | (go_at_call 70; (with_reducible refine (HC4.out _).mono ?_); rintro e w' ⟨rfl, hd⟩; obtain ⟨n4, rfl⟩ := hd.out; clear hd) | (go_at_call 70; (with_reducible refine (HC5.out _).mono ?_); rintro e w' ⟨rfl, hd⟩; obtain ⟨n5, rfl⟩ := hd.out; clear hd) | (go_at_call 48; (with_reducible refine (HC6.out _).mono ?_); rintro e w' ⟨rfl, hd⟩; obtain ⟨n6, rfl⟩ := hd.out; clear hd) | (go_at_call 56; (with_reducible refine (ContainsFunc_int.calls 109 #[] (fun v => !(btw v 0 4095)) A0_9 c0_9 l0_9 _ ?hC ?hP).mono ?_); (case hC => exact Kd.C_below HR9.out (by repeat (first | exact HB2.out | apply pwN))); (case hP => exact pred_109 _); rintro e w' ⟨rfl, hb⟩; have HBc7 := As0.mk (pwt (by repeat (first | exact HB2.out | apply pwN)) hb); have BKc7 := As0.mk ((hb.block gb (by exact blk_lt BK.out)).trans (by exact BK.out)); clear hb; rw [HC7.out]; have k0 := (bkc BKc7.out 0).trans rfl; have k1 := (bkc BKc7.out 1).trans rfl; have k2 := (bkc BKc7.out 2).trans rfl; have k3 := (bkc BKc7.out 3).trans rfl; have k4 := (bkc BKc7.out 4).trans rfl; have k5 := (bkc BKc7.out 5).trans rfl; have k6 := (bkc BKc7.out 6).trans rfl; have k7 := (bkc BKc7.out 7).trans rfl; have k8 := (bkc BKc7.out 8).trans rfl; have k9 := (bkc BKc7.out 9).trans rfl; have k10 := (bkc BKc7.out 10).trans rfl; have k11 := (bkc BKc7.out 11).trans rfl) | (go_at_call 56; (with_reducible refine (ContainsFunc_int.calls 110 #[] (fun v => !(btw v (-64) 64)) A0_4 c0_4 l0_4 _ ?hC ?hP).mono ?_); (case hC => exact Kd.C_below HR4.out (by repeat (first | exact HBc7.out | apply pwN))); (case hP => exact pred_110 _); rintro e w' ⟨rfl, hb⟩; have HBc10 := As0.mk (pwt (by repeat (first | exact HBc7.out | apply pwN)) hb); have BKc10 := As0.mk ((hb.block gb (by exact blk_lt BKc7.out)).trans (by exact BKc7.out)); clear hb; rw [HC10.out]; have k0 := (bkc BKc10.out 0).trans rfl; have k1 := (bkc BKc10.out 1).trans rfl; have k2 := (bkc BKc10.out 2).trans rfl; have k3 := (bkc BKc10.out 3).trans rfl; have k4 := (bkc BKc10.out 4).trans rfl; have k5 := (bkc BKc10.out 5).trans rfl; have k6 := (bkc BKc10.out 6).trans rfl; have k7 := (bkc BKc10.out 7).trans rfl; have k8 := (bkc BKc10.out 8).trans rfl; have k9 := (bkc BKc10.out 9).trans rfl; have k10 := (bkc BKc10.out 10).trans rfl; have k11 := (bkc BKc10.out 11).trans rfl))
            go_ret
            exact ⟨rfl, by repeat (first | exact HBc10.out | apply pwN)⟩
           | true =>
            simp only [b4, b5, b6, b7, b8, b9, b10, Bool.and_true, Bool.and_false, Bool.true_and, Bool.false_and, Bool.not_true, Bool.not_false, if_true, Bool.true_eq_false, if_false, Int.reduceEq, if_pos, reduceIte] at h
            subst h
            have HC4 := As0.mk (iside_is _ _ b4)
            have HC5 := As0.mk (iside_is _ _ b5)
            have HC6 := As0.mk (iwithin_is _ _ _ _ b6)
            have HC7 := As0.mk b7
            have HC10 := As0.mk b10
            clear b4 b5 b6 b7 b10
            go_enter Tryz.func53, Tryz.ntmps53
            go_wp2_with (first | ((with_reducible refine gdt (N := 1) rfl ?_); refine bxe ?hg (N := 1) ?hd (cs := #[.int .i64 a0_0, .int .i64 2, .slice A0_2 l0_2.length c0_2, .slice A0_3 l0_3.length c0_3, .slice A0_4 l0_4.length c0_4, .int .i64 a0_5, .int .i64 a0_6, .int .i64 a0_7, .int .i64 a0_8, .slice A0_9 l0_9.length c0_9, .int .i64 a0_10, .bool a0_11]) (t := 68) ?hr ?_; (case hd => rfl); (case hg => rfl); (case hr => first | (go_simp; done) | (go_simp; rfl)); intro gb hg w2 hbox hb; have HB2 := As0.mk hb; have BK := As0.mk hbox; have k0 := (bkc hbox 0).trans rfl; have k1 := (bkc hbox 1).trans rfl; have k2 := (bkc hbox 2).trans rfl; have k3 := (bkc hbox 3).trans rfl; have k4 := (bkc hbox 4).trans rfl; have k5 := (bkc hbox 5).trans rfl; have k6 := (bkc hbox 6).trans rfl; have k7 := (bkc hbox 7).trans rfl; have k8 := (bkc hbox 8).trans rfl; have k9 := (bkc hbox 9).trans rfl; have k10 := (bkc hbox 10).trans rfl; have k11 := (bkc hbox 11).trans rfl; clear hb hbox hg) | (go_at_call 48; (with_reducible refine (HC1.out _).mono ?_); rintro e w' ⟨rfl, hd⟩; obtain ⟨n1, rfl⟩ := hd.out; clear hd) | (go_at_call 48; (with_reducible refine (HC2.out _).mono ?_); rintro e w' ⟨rfl, hd⟩; obtain ⟨n2, rfl⟩ := hd.out; clear hd) | (go_at_call 48; (with_reducible refine (HC3.out _).mono ?_); rintro e w' ⟨rfl, hd⟩; obtain ⟨n3, rfl⟩ := hd.out; clear hd) | (go_at_call 70; (with_reducible refine (HC4.out _).mono ?_); rintro e w' ⟨rfl, hd⟩; obtain ⟨n4, rfl⟩ := hd.out; clear hd) | (go_at_call 70; (with_reducible refine (HC5.out _).mono ?_); rintro e w' ⟨rfl, hd⟩; obtain ⟨n5, rfl⟩ := hd.out; clear hd) | (go_at_call 48; (with_reducible refine (HC6.out _).mono ?_); rintro e w' ⟨rfl, hd⟩; obtain ⟨n6, rfl⟩ := hd.out; clear hd) | (go_at_call 56; (with_reducible refine (ContainsFunc_int.calls 109 #[] (fun v => !(btw v 0 4095)) A0_9 c0_9 l0_9 _ ?hC ?hP).mono ?_); (case hC => exact Kd.C_below HR9.out (by repeat (first | exact HB2.out | apply pwN))); (case hP => exact pred_109 _); rintro e w' ⟨rfl, hb⟩; have HBc7 := As0.mk (pwt (by repeat (first | exact HB2.out | apply pwN)) hb); have BKc7 := As0.mk ((hb.block gb (by exact blk_lt BK.out)).trans (by exact BK.out)); clear hb; rw [HC7.out]; have k0 := (bkc BKc7.out 0).trans rfl; have k1 := (bkc BKc7.out 1).trans rfl; have k2 := (bkc BKc7.out 2).trans rfl; have k3 := (bkc BKc7.out 3).trans rfl; have k4 := (bkc BKc7.out 4).trans rfl; have k5 := (bkc BKc7.out 5).trans rfl; have k6 := (bkc BKc7.out 6).trans rfl; have k7 := (bkc BKc7.out 7).trans rfl; have k8 := (bkc BKc7.out 8).trans rfl; have k9 := (bkc BKc7.out 9).trans rfl; have k10 := (bkc BKc7.out 10).trans rfl; have k11 := (bkc BKc7.out 11).trans rfl) | (go_at_call 56; (with_reducible refine (ContainsFunc_int.calls 110 #[] (fun v => !(btw v (-64) 64)) A0_4 c0_4 l0_4 _ ?hC ?hP).mono ?_); (case hC => exact Kd.C_below HR4.out (by repeat (first | exact HBc7.out | apply pwN))); (case hP => exact pred_110 _); rintro e w' ⟨rfl, hb⟩; have HBc10 := As0.mk (pwt (by repeat (first | exact HBc7.out | apply pwN)) hb); have BKc10 := As0.mk ((hb.block gb (by exact blk_lt BKc7.out)).trans (by exact BKc7.out)); clear hb; rw [HC10.out]; have k0 := (bkc BKc10.out 0).trans rfl; have k1 := (bkc BKc10.out 1).trans rfl; have k2 := (bkc BKc10.out 2).trans rfl; have k3 := (bkc BKc10.out 3).trans rfl; have k4 := (bkc BKc10.out 4).trans rfl; have k5 := (bkc BKc10.out 5).trans rfl; have k6 := (bkc BKc10.out 6).trans rfl; have k7 := (bkc BKc10.out 7).trans rfl; have k8 := (bkc BKc10.out 8).trans rfl; have k9 := (bkc BKc10.out 9).trans rfl; have k10 := (bkc BKc10.out 10).trans rfl; have k11 := (bkc BKc10.out 11).trans rfl))
            go_ret
            exact ⟨rfl, by repeat (first | exact HBc10.out | apply pwN)⟩
    ·simp only [Int.reduceEq, if_false, if_true, reduceIte] at h
     cases b4 : btw a0_7 1 64 with
     | false =>
      simp only [b4, Bool.and_true, Bool.and_false, Bool.true_and, Bool.false_and, Bool.not_true, Bool.not_false, if_true, Bool.true_eq_false, if_false, Int.reduceEq, if_pos, reduceIte] at h
      subst h
      have HC4 := As0.mk (iside_is _ _ b4)
      clear b4
      go_enter Tryz.func53, Tryz.ntmps53
      go_wp2_with (first | ((with_reducible refine gdt (N := 1) rfl ?_); refine bxe ?hg (N := 1) ?hd (cs := #[.int .i64 a0_0, .int .i64 3, .slice A0_2 l0_2.length c0_2, .slice A0_3 l0_3.length c0_3, .slice A0_4 l0_4.length c0_4, .int .i64 a0_5, .int .i64 a0_6, .int .i64 a0_7, .int .i64 a0_8, .slice A0_9 l0_9.length c0_9, .int .i64 a0_10, .bool a0_11]) (t := 68) ?hr ?_; (case hd => rfl); (case hg => rfl); (case hr => first | (go_simp; done) | (go_simp; rfl)); intro gb hg w2 hbox hb; have HB2 := As0.mk hb; have BK := As0.mk hbox; have k0 := (bkc hbox 0).trans rfl; have k1 := (bkc hbox 1).trans rfl; have k2 := (bkc hbox 2).trans rfl; have k3 := (bkc hbox 3).trans rfl; have k4 := (bkc hbox 4).trans rfl; have k5 := (bkc hbox 5).trans rfl; have k6 := (bkc hbox 6).trans rfl; have k7 := (bkc hbox 7).trans rfl; have k8 := (bkc hbox 8).trans rfl; have k9 := (bkc hbox 9).trans rfl; have k10 := (bkc hbox 10).trans rfl; have k11 := (bkc hbox 11).trans rfl; clear hb hbox hg) | (go_at_call 48; (with_reducible refine (HC1.out _).mono ?_); rintro e w' ⟨rfl, hd⟩; obtain ⟨n1, rfl⟩ := hd.out; clear hd) | (go_at_call 48; (with_reducible refine (HC2.out _).mono ?_); rintro e w' ⟨rfl, hd⟩; obtain ⟨n2, rfl⟩ := hd.out; clear hd) | (go_at_call 48; (with_reducible refine (HC3.out _).mono ?_); rintro e w' ⟨rfl, hd⟩; obtain ⟨n3, rfl⟩ := hd.out; clear hd) | (go_at_call 70; (with_reducible refine (HC4.out _).mono ?_); rintro e w' ⟨rfl, hd⟩; obtain ⟨n4, rfl⟩ := hd.out; clear hd))
      go_ret
      exact ⟨rfl, by repeat (first | exact HB2.out | apply pwN)⟩
     | true =>
      cases b5 : btw a0_8 1 64 with
      | false =>
       simp only [b4, b5, Bool.and_true, Bool.and_false, Bool.true_and, Bool.false_and, Bool.not_true, Bool.not_false, if_true, Bool.true_eq_false, if_false, Int.reduceEq, if_pos, reduceIte] at h
       subst h
       have HC4 := As0.mk (iside_is _ _ b4)
       have HC5 := As0.mk (iside_is _ _ b5)
       clear b4 b5
       go_enter Tryz.func53, Tryz.ntmps53
       go_wp2_with (first | ((with_reducible refine gdt (N := 1) rfl ?_); refine bxe ?hg (N := 1) ?hd (cs := #[.int .i64 a0_0, .int .i64 3, .slice A0_2 l0_2.length c0_2, .slice A0_3 l0_3.length c0_3, .slice A0_4 l0_4.length c0_4, .int .i64 a0_5, .int .i64 a0_6, .int .i64 a0_7, .int .i64 a0_8, .slice A0_9 l0_9.length c0_9, .int .i64 a0_10, .bool a0_11]) (t := 68) ?hr ?_; (case hd => rfl); (case hg => rfl); (case hr => first | (go_simp; done) | (go_simp; rfl)); intro gb hg w2 hbox hb; have HB2 := As0.mk hb; have BK := As0.mk hbox; have k0 := (bkc hbox 0).trans rfl; have k1 := (bkc hbox 1).trans rfl; have k2 := (bkc hbox 2).trans rfl; have k3 := (bkc hbox 3).trans rfl; have k4 := (bkc hbox 4).trans rfl; have k5 := (bkc hbox 5).trans rfl; have k6 := (bkc hbox 6).trans rfl; have k7 := (bkc hbox 7).trans rfl; have k8 := (bkc hbox 8).trans rfl; have k9 := (bkc hbox 9).trans rfl; have k10 := (bkc hbox 10).trans rfl; have k11 := (bkc hbox 11).trans rfl; clear hb hbox hg) | (go_at_call 48; (with_reducible refine (HC1.out _).mono ?_); rintro e w' ⟨rfl, hd⟩; obtain ⟨n1, rfl⟩ := hd.out; clear hd) | (go_at_call 48; (with_reducible refine (HC2.out _).mono ?_); rintro e w' ⟨rfl, hd⟩; obtain ⟨n2, rfl⟩ := hd.out; clear hd) | (go_at_call 48; (with_reducible refine (HC3.out _).mono ?_); rintro e w' ⟨rfl, hd⟩; obtain ⟨n3, rfl⟩ := hd.out; clear hd) | (go_at_call 70; (with_reducible refine (HC4.out _).mono ?_); rintro e w' ⟨rfl, hd⟩; obtain ⟨n4, rfl⟩ := hd.out; clear hd) | (go_at_call 70; (with_reducible refine (HC5.out _).mono ?_); rintro e w' ⟨rfl, hd⟩; obtain ⟨n5, rfl⟩ := hd.out; clear hd))
       go_ret
       exact ⟨rfl, by repeat (first | exact HB2.out | apply pwN)⟩
      | true =>
       cases b6 : btw a0_5 1 8 with
       | false =>
        simp only [b4, b5, b6, Bool.and_true, Bool.and_false, Bool.true_and, Bool.false_and, Bool.not_true, Bool.not_false, if_true, Bool.true_eq_false, if_false, Int.reduceEq, if_pos, reduceIte] at h
        subst h
        have HC4 := As0.mk (iside_is _ _ b4)
        have HC5 := As0.mk (iside_is _ _ b5)
        have HC6 := As0.mk (iwithin_is _ _ _ _ b6)
        clear b4 b5 b6
        go_enter Tryz.func53, Tryz.ntmps53
        go_wp2_with (first | ((with_reducible refine gdt (N := 1) rfl ?_); refine bxe ?hg (N := 1) ?hd (cs := #[.int .i64 a0_0, .int .i64 3, .slice A0_2 l0_2.length c0_2, .slice A0_3 l0_3.length c0_3, .slice A0_4 l0_4.length c0_4, .int .i64 a0_5, .int .i64 a0_6, .int .i64 a0_7, .int .i64 a0_8, .slice A0_9 l0_9.length c0_9, .int .i64 a0_10, .bool a0_11]) (t := 68) ?hr ?_; (case hd => rfl); (case hg => rfl); (case hr => first | (go_simp; done) | (go_simp; rfl)); intro gb hg w2 hbox hb; have HB2 := As0.mk hb; have BK := As0.mk hbox; have k0 := (bkc hbox 0).trans rfl; have k1 := (bkc hbox 1).trans rfl; have k2 := (bkc hbox 2).trans rfl; have k3 := (bkc hbox 3).trans rfl; have k4 := (bkc hbox 4).trans rfl; have k5 := (bkc hbox 5).trans rfl; have k6 := (bkc hbox 6).trans rfl; have k7 := (bkc hbox 7).trans rfl; have k8 := (bkc hbox 8).trans rfl; have k9 := (bkc hbox 9).trans rfl; have k10 := (bkc hbox 10).trans rfl; have k11 := (bkc hbox 11).trans rfl; clear hb hbox hg) | (go_at_call 48; (with_reducible refine (HC1.out _).mono ?_); rintro e w' ⟨rfl, hd⟩; obtain ⟨n1, rfl⟩ := hd.out; clear hd) | (go_at_call 48; (with_reducible refine (HC2.out _).mono ?_); rintro e w' ⟨rfl, hd⟩; obtain ⟨n2, rfl⟩ := hd.out; clear hd) | (go_at_call 48; (with_reducible refine (HC3.out _).mono ?_); rintro e w' ⟨rfl, hd⟩; obtain ⟨n3, rfl⟩ := hd.out; clear hd) | (go_at_call 70; (with_reducible refine (HC4.out _).mono ?_); rintro e w' ⟨rfl, hd⟩; obtain ⟨n4, rfl⟩ := hd.out; clear hd) | (go_at_call 70; (with_reducible refine (HC5.out _).mono ?_); rintro e w' ⟨rfl, hd⟩; obtain ⟨n5, rfl⟩ := hd.out; clear hd) | (go_at_call 48; (with_reducible refine (HC6.out _).mono ?_); rintro e w' ⟨rfl, hd⟩; obtain ⟨n6, rfl⟩ := hd.out; clear hd))
        go_ret
        exact ⟨rfl, by repeat (first | exact HB2.out | apply pwN)⟩
       | true =>
        cases b7 : btw a0_6 1 8 with
        | false =>
         simp only [b4, b5, b6, b7, Bool.and_true, Bool.and_false, Bool.true_and, Bool.false_and, Bool.not_true, Bool.not_false, if_true, Bool.true_eq_false, if_false, Int.reduceEq, if_pos, reduceIte] at h
         subst h
         have HC4 := As0.mk (iside_is _ _ b4)
         have HC5 := As0.mk (iside_is _ _ b5)
         have HC6 := As0.mk (iwithin_is _ _ _ _ b6)
         have HC7 := As0.mk (iwithin_is _ _ _ _ b7)
         clear b4 b5 b6 b7
         go_enter Tryz.func53, Tryz.ntmps53
         go_wp2_with (first | ((with_reducible refine gdt (N := 1) rfl ?_); refine bxe ?hg (N := 1) ?hd (cs := #[.int .i64 a0_0, .int .i64 3, .slice A0_2 l0_2.length c0_2, .slice A0_3 l0_3.length c0_3, .slice A0_4 l0_4.length c0_4, .int .i64 a0_5, .int .i64 a0_6, .int .i64 a0_7, .int .i64 a0_8, .slice A0_9 l0_9.length c0_9, .int .i64 a0_10, .bool a0_11]) (t := 68) ?hr ?_; (case hd => rfl); (case hg => rfl); (case hr => first | (go_simp; done) | (go_simp; rfl)); intro gb hg w2 hbox hb; have HB2 := As0.mk hb; have BK := As0.mk hbox; have k0 := (bkc hbox 0).trans rfl; have k1 := (bkc hbox 1).trans rfl; have k2 := (bkc hbox 2).trans rfl; have k3 := (bkc hbox 3).trans rfl; have k4 := (bkc hbox 4).trans rfl; have k5 := (bkc hbox 5).trans rfl; have k6 := (bkc hbox 6).trans rfl; have k7 := (bkc hbox 7).trans rfl; have k8 := (bkc hbox 8).trans rfl; have k9 := (bkc hbox 9).trans rfl; have k10 := (bkc hbox 10).trans rfl; have k11 := (bkc hbox 11).trans rfl; clear hb hbox hg) | (go_at_call 48; (with_reducible refine (HC1.out _).mono ?_); rintro e w' ⟨rfl, hd⟩; obtain ⟨n1, rfl⟩ := hd.out; clear hd) | (go_at_call 48; (with_reducible refine (HC2.out _).mono ?_); rintro e w' ⟨rfl, hd⟩; obtain ⟨n2, rfl⟩ := hd.out; clear hd) | (go_at_call 48; (with_reducible refine (HC3.out _).mono ?_); rintro e w' ⟨rfl, hd⟩; obtain ⟨n3, rfl⟩ := hd.out; clear hd) | (go_at_call 70; (with_reducible refine (HC4.out _).mono ?_); rintro e w' ⟨rfl, hd⟩; obtain ⟨n4, rfl⟩ := hd.out; clear hd) | (go_at_call 70; (with_reducible refine (HC5.out _).mono ?_); rintro e w' ⟨rfl, hd⟩; obtain ⟨n5, rfl⟩ := hd.out; clear hd) | (go_at_call 48; (with_reducible refine (HC6.out _).mono ?_); rintro e w' ⟨rfl, hd⟩; obtain ⟨n6, rfl⟩ := hd.out; clear hd) | (go_at_call 48; (with_reducible refine (HC7.out _).mono ?_); rintro e w' ⟨rfl, hd⟩; obtain ⟨n7, rfl⟩ := hd.out; clear hd))
         go_ret
         exact ⟨rfl, by repeat (first | exact HB2.out | apply pwN)⟩
        | true =>
         cases b8 : ((l0_3.length : Int) == wrap64 (a0_5 * a0_6)) with
         | false =>
          simp only [b4, b5, b6, b7, b8, Bool.and_true, Bool.and_false, Bool.true_and, Bool.false_and, Bool.not_true, Bool.not_false, if_true, Bool.true_eq_false, if_false, Int.reduceEq, if_pos, reduceIte] at h
          subst h
          have HC4 := As0.mk (iside_is _ _ b4)
          have HC5 := As0.mk (iside_is _ _ b5)
          have HC6 := As0.mk (iwithin_is _ _ _ _ b6)
          have HC7 := As0.mk (iwithin_is _ _ _ _ b7)
          clear b4 b5 b6 b7
          go_enter Tryz.func53, Tryz.ntmps53
          go_wp2_with (first | ((with_reducible refine gdt (N := 1) rfl ?_); refine bxe ?hg (N := 1) ?hd (cs := #[.int .i64 a0_0, .int .i64 3, .slice A0_2 l0_2.length c0_2, .slice A0_3 l0_3.length c0_3, .slice A0_4 l0_4.length c0_4, .int .i64 a0_5, .int .i64 a0_6, .int .i64 a0_7, .int .i64 a0_8, .slice A0_9 l0_9.length c0_9, .int .i64 a0_10, .bool a0_11]) (t := 68) ?hr ?_; (case hd => rfl); (case hg => rfl); (case hr => first | (go_simp; done) | (go_simp; rfl)); intro gb hg w2 hbox hb; have HB2 := As0.mk hb; have BK := As0.mk hbox; have k0 := (bkc hbox 0).trans rfl; have k1 := (bkc hbox 1).trans rfl; have k2 := (bkc hbox 2).trans rfl; have k3 := (bkc hbox 3).trans rfl; have k4 := (bkc hbox 4).trans rfl; have k5 := (bkc hbox 5).trans rfl; have k6 := (bkc hbox 6).trans rfl; have k7 := (bkc hbox 7).trans rfl; have k8 := (bkc hbox 8).trans rfl; have k9 := (bkc hbox 9).trans rfl; have k10 := (bkc hbox 10).trans rfl; have k11 := (bkc hbox 11).trans rfl; clear hb hbox hg) | (go_at_call 48; (with_reducible refine (HC1.out _).mono ?_); rintro e w' ⟨rfl, hd⟩; obtain ⟨n1, rfl⟩ := hd.out; clear hd) | (go_at_call 48; (with_reducible refine (HC2.out _).mono ?_); rintro e w' ⟨rfl, hd⟩; obtain ⟨n2, rfl⟩ := hd.out; clear hd) | (go_at_call 48; (with_reducible refine (HC3.out _).mono ?_); rintro e w' ⟨rfl, hd⟩; obtain ⟨n3, rfl⟩ := hd.out; clear hd) | (go_at_call 70; (with_reducible refine (HC4.out _).mono ?_); rintro e w' ⟨rfl, hd⟩; obtain ⟨n4, rfl⟩ := hd.out; clear hd) | (go_at_call 70; (with_reducible refine (HC5.out _).mono ?_); rintro e w' ⟨rfl, hd⟩; obtain ⟨n5, rfl⟩ := hd.out; clear hd) | (go_at_call 48; (with_reducible refine (HC6.out _).mono ?_); rintro e w' ⟨rfl, hd⟩; obtain ⟨n6, rfl⟩ := hd.out; clear hd) | (go_at_call 48; (with_reducible refine (HC7.out _).mono ?_); rintro e w' ⟨rfl, hd⟩; obtain ⟨n7, rfl⟩ := hd.out; clear hd))
          go_ret
          exact ⟨rfl, by repeat (first | exact HB2.out | apply pwN)⟩
         | true =>
          simp only [b4, b5, b6, b7, b8, Bool.and_true, Bool.and_false, Bool.true_and, Bool.false_and, Bool.not_true, Bool.not_false, if_true, Bool.true_eq_false, if_false, Int.reduceEq, if_pos, reduceIte] at h
          subst h
          have HC4 := As0.mk (iside_is _ _ b4)
          have HC5 := As0.mk (iside_is _ _ b5)
          have HC6 := As0.mk (iwithin_is _ _ _ _ b6)
          have HC7 := As0.mk (iwithin_is _ _ _ _ b7)
          clear b4 b5 b6 b7
          go_enter Tryz.func53, Tryz.ntmps53
          go_wp2_with (first | ((with_reducible refine gdt (N := 1) rfl ?_); refine bxe ?hg (N := 1) ?hd (cs := #[.int .i64 a0_0, .int .i64 3, .slice A0_2 l0_2.length c0_2, .slice A0_3 l0_3.length c0_3, .slice A0_4 l0_4.length c0_4, .int .i64 a0_5, .int .i64 a0_6, .int .i64 a0_7, .int .i64 a0_8, .slice A0_9 l0_9.length c0_9, .int .i64 a0_10, .bool a0_11]) (t := 68) ?hr ?_; (case hd => rfl); (case hg => rfl); (case hr => first | (go_simp; done) | (go_simp; rfl)); intro gb hg w2 hbox hb; have HB2 := As0.mk hb; have BK := As0.mk hbox; have k0 := (bkc hbox 0).trans rfl; have k1 := (bkc hbox 1).trans rfl; have k2 := (bkc hbox 2).trans rfl; have k3 := (bkc hbox 3).trans rfl; have k4 := (bkc hbox 4).trans rfl; have k5 := (bkc hbox 5).trans rfl; have k6 := (bkc hbox 6).trans rfl; have k7 := (bkc hbox 7).trans rfl; have k8 := (bkc hbox 8).trans rfl; have k9 := (bkc hbox 9).trans rfl; have k10 := (bkc hbox 10).trans rfl; have k11 := (bkc hbox 11).trans rfl; clear hb hbox hg) | (go_at_call 48; (with_reducible refine (HC1.out _).mono ?_); rintro e w' ⟨rfl, hd⟩; obtain ⟨n1, rfl⟩ := hd.out; clear hd) | (go_at_call 48; (with_reducible refine (HC2.out _).mono ?_); rintro e w' ⟨rfl, hd⟩; obtain ⟨n2, rfl⟩ := hd.out; clear hd) | (go_at_call 48; (with_reducible refine (HC3.out _).mono ?_); rintro e w' ⟨rfl, hd⟩; obtain ⟨n3, rfl⟩ := hd.out; clear hd) | (go_at_call 70; (with_reducible refine (HC4.out _).mono ?_); rintro e w' ⟨rfl, hd⟩; obtain ⟨n4, rfl⟩ := hd.out; clear hd) | (go_at_call 70; (with_reducible refine (HC5.out _).mono ?_); rintro e w' ⟨rfl, hd⟩; obtain ⟨n5, rfl⟩ := hd.out; clear hd) | (go_at_call 48; (with_reducible refine (HC6.out _).mono ?_); rintro e w' ⟨rfl, hd⟩; obtain ⟨n6, rfl⟩ := hd.out; clear hd) | (go_at_call 48; (with_reducible refine (HC7.out _).mono ?_); rintro e w' ⟨rfl, hd⟩; obtain ⟨n7, rfl⟩ := hd.out; clear hd))
          go_ret
          exact ⟨rfl, by repeat (first | exact HB2.out | apply pwN)⟩
set_option maxHeartbeats 8000000 in
set_option maxRecDepth 100000 in
theorem IndexFunc_item.calls (g : FuncId) (caps : Array Value) (p : S68 → Bool) (A0 : Option Addr) (c0 : Nat) (l0 : List S68) (w : World) (hr0 : Kd.C k68 w A0 l0.length l0)
  (hp : PredIn Tryz.prog g caps (fun W (x : S68) v => ∃ cs : List Value, v = .agg cs.toArray ∧ k68.K W x cs) p w) :
  Calls Tryz.prog 111 #[.slice A0 l0.length c0, .func (.func g) #[] caps] w fun e w' => e = .returned (.int .i64 (idxOf p l0)) ∧ Below w.heap.size w w' := by
 have HR0 := As0.mk hr0
 have hlen := As0.mk hr0.2.1
 clear hr0
 have HB := As0.mk (Below.refl w.heap.size w)
 have HP := As0.mk hp
 have hen := hp.enters
 clear hp
 have HI : As0 (0 ≤ (0 : Int) ∧ (0 : Int) + (l0.length : Nat) = l0.length ∧ idxAux p (l0.drop (0 : Int).toNat) (0 : Int).toNat = idxOf p l0) := ⟨by omega, by omega, rfl⟩
 go_enter Tryz.func111, Tryz.ntmps111
 go_wp2
 go_loopg [8] l0.length (fun kq v8 w' => ∃ i : Int, v8 = .int .i64 i ∧ As0 (0 ≤ i ∧ i + kq = l0.length ∧ idxAux p (l0.drop i.toNat) i.toNat = idxOf p l0) ∧ As0 (Below w.heap.size w w'))
 case atStart => exact ⟨0, rfl, HI, HB⟩
 case round =>
  clear HI HB
  obtain ⟨i, rfl, HI, HB⟩ := hrel
  cases gk with
  | zero =>
   have hge : decide (i < (l0.length : Int)) = false := by have := HI.out; simp; omega
   go_wp2
   go_ret
   exact ⟨by rw [← HI.out.2.2, idxOf_end p l0 i.toNat (by have := HI.out; omega)]; rfl, HB.out⟩
  | succ k1 =>
   have h0 : 0 ≤ i := by have := HI.out; omega
   have h1 : i < (l0.length : Int) := by have := HI.out; omega
   have hge : decide (i < (l0.length : Int)) = true := decide_eq_true h1
   have hg0 : decide (0 ≤ i) = true := decide_eq_true h0
   obtain ⟨ad, A2, c2, A3, c3, A4, c4, A9, c9, e0, hx0, hx1, hx2, hx3, hx4, hx5, hx6, hx7, hx8, hx9, hx10, hx11, hl2, hi2, hl3, hi3, hl4, hi4, hl9, hi9⟩ := at_T68 HR0.out i h0 h1
   cases e0
   replace hx0 := (HB.out.cell (World.block_lt_of_cell? w _ hx0)).trans hx0
   replace hx1 := (HB.out.cell (World.block_lt_of_cell? w _ hx1)).trans hx1
   replace hx2 := (HB.out.cell (World.block_lt_of_cell? w _ hx2)).trans hx2
   replace hx3 := (HB.out.cell (World.block_lt_of_cell? w _ hx3)).trans hx3
   replace hx4 := (HB.out.cell (World.block_lt_of_cell? w _ hx4)).trans hx4
   replace hx5 := (HB.out.cell (World.block_lt_of_cell? w _ hx5)).trans hx5
   replace hx6 := (HB.out.cell (World.block_lt_of_cell? w _ hx6)).trans hx6
   replace hx7 := (HB.out.cell (World.block_lt_of_cell? w _ hx7)).trans hx7
   replace hx8 := (HB.out.cell (World.block_lt_of_cell? w _ hx8)).trans hx8
   replace hx9 := (HB.out.cell (World.block_lt_of_cell? w _ hx9)).trans hx9
   replace hx10 := (HB.out.cell (World.block_lt_of_cell? w _ hx10)).trans hx10
   replace hx11 := (HB.out.cell (World.block_lt_of_cell? w _ hx11)).trans hx11
   have hx : As0 (l0[i.toNat]? = some (rd_T68 l0 i)) := ⟨by
    have hl : i.toNat < l0.length := by omega
    simp [rd_T68, List.getElem?_eq_getElem hl, List.getD_eq_getElem?_getD]⟩
   have HC := As0.mk (HP.out.tells wr (rd_T68 l0 i) _ HB.out ⟨_, rfl, k68_mk wr (rd_T68 l0 i) hl2 (Kd.C_below hi2 HB.out) hl3 (Kd.C_below hi3 HB.out) hl4 (Kd.C_below hi4 HB.out) hl9 (Kd.C_below hi9 HB.out)⟩)
   clear hl2 hi2 hl3 hi3 hl4 hi4 hl9 hi9
   generalize rd_T68 l0 i = x at *
   replace h0 := eq_true h0
   replace h1 := eq_true h1
   cases hpx : p x with
   | true =>
    have HPX := As0.mk hpx
    rw [hpx] at HC
    clear hpx
    go_wp2_with (refine HC.out.mono ?_; rintro e w' ⟨rfl, hb⟩; have HB2 := As0.mk hb; clear hb)
    go_ret
    have h2 := HI.out.2.2
    exact ⟨by rw [← h2, idxOf_step p l0 i.toNat x hx.out, if_pos HPX.out, Int.toNat_of_nonneg HI.out.1]; rfl, (pwt HB.out HB2.out)⟩
   | false =>
    have HPX := As0.mk hpx
    rw [hpx] at HC
    clear hpx
    go_wp2_with (refine HC.out.mono ?_; rintro e w' ⟨rfl, hb⟩; have HB2 := As0.mk hb; clear hb)
    go_roundg k1
    case measure => omega
    case rel =>
     have hw : wrap64 (i + 1) = i + 1 := by have := HI.out; have := hlen.out; unfold wrap64; omega
     have h2 := HI.out.2.2
     refine ⟨i + 1, congrArg _ hw, ⟨by have := HI.out; omega, by have := HI.out; omega, ?_⟩, ⟨pwt HB.out HB2.out⟩⟩
     rw [← h2, idxOf_step p l0 i.toNat x hx.out, if_neg (by simp [HPX.out]), show (i + 1).toNat = i.toNat + 1 from by have := HI.out; omega]
theorem enters_112 : ∀ (args : Array Value) (W : World), (callFunc 112 args).run Tryz.prog W = .ok (.enter 112 args) W := enters_of Tryz.func112 (by kernel_rfl) rfl
def item_find.f (l0 : List S68) (a1 : Int) : Option Int := some (idxOf (fun x => x.f0 == a1) l0)
set_option maxHeartbeats 8000000 in
set_option maxRecDepth 100000 in
theorem pred_112 (id : Int) (gb : Nat) (w : World) (hb : w.heap[gb]? = some (.cells #[.int .i64 id] 3 (0, 0))) : PredIn Tryz.prog 112 #[.pointer (some ⟨gb, 0, none⟩)] (fun W (x : S68) v => ∃ cs : List Value, v = .agg cs.toArray ∧ k68.K W x cs) (fun x => x.f0 == id) w := ⟨enters_112, fun W x v hW he => by
 obtain ⟨cs, rfl, hK⟩ := he
 obtain ⟨A2, c2, A3, c3, A4, c4, A9, c9, rfl, _⟩ := k68_open hK
 have hu68 := Tryz.underlying68
 have BK := (hW.block gb (blk_lt hb)).trans hb
 have k0 := (bkc BK 0).trans rfl
 have k1 : ∀ o : Obj, (W.alloc o).cell? ⟨gb, 0, none⟩ = some (.int .i64 id) := fun o => (World.cell?_alloc_lt W o _ (blk_lt BK)).trans k0
 clear k0
 clear hb hK BK hW
 simp only [List.append_toArray, List.cons_append, List.nil_append]
 go_enter Tryz.func112, Tryz.ntmps112
 go_wp2
 go_ret
 exact ⟨rfl, by repeat (first | exact Below.refl _ _ | apply bwa)⟩⟩
set_option maxHeartbeats 8000000 in
set_option maxRecDepth 100000 in
theorem item_find.calls (A0 : Option Addr) (c0 : Nat) (l0 : List S68) (a1 : Int) (r : Int) (w : World) (hr0 : Kd.C k68 w A0 l0.length l0) (hc0 : l0.length ≤ c0) (h : item_find.f l0 a1 = some r) :
  Calls Tryz.prog 55 #[.slice A0 l0.length c0, .int .i64 a1] w fun e w' => e = .returned (.int .i64 r) ∧ Below w.heap.size w w' := by
 have HR := As0.mk hr0
 clear hr0 hc0
 injection h with h
 subst h
 have hmf := makeFunc_run
 go_enter Tryz.func55, Tryz.ntmps55
 go_wp2_with (go_at_call 111; (with_reducible refine (IndexFunc_item.calls 112 #[.pointer (some ⟨w.heap.size, 0, none⟩)] (fun x => x.f0 == a1) A0 c0 l0 _ ?hC ?hP).mono ?_); (case hC => exact Kd.C_alloc HR.out _); (case hP => exact pred_112 a1 w.heap.size _ (heap_alloc_new w _)); rintro e w' ⟨rfl, hb⟩; have HBc := As0.mk (pwt (bwa (Below.refl _ _) _) hb); clear hb)
 go_ret
 exact ⟨rfl, HBc.out⟩
theorem enters_114 : ∀ (args : Array Value) (W : World), (callFunc 114 args).run Tryz.prog W = .ok (.enter 114 args) W := enters_of Tryz.func114 (by kernel_rfl) rfl
def findI (l : List S68) (id : Int) : Int := idxOf (fun x => x.f0 == id) l
def goL (l : List S68) (i : Int) (go : Int → List Bool → Option (Bool × List Bool)) : List Int → List Bool → Option (Bool × List Bool)
 | [], seen => some (false, seen)
 | id :: ids, seen =>
  if findI l id = i then some (true, seen)
  else if 0 ≤ findI l id ∧ findI l id < (seen.length : Int) then
   if rdOf false seen (findI l id) = true then goL l i go ids seen
   else (go (findI l id) (seen.set (findI l id).toNat true)).bind fun r => if r.1 = true then some r else goL l i go ids r.2
  else none
def walkN (l : List S68) (i : Int) : Nat → Int → List Bool → Option (Bool × List Bool)
 | 0, _, _ => none
 | f + 1, k, seen => if 0 ≤ k ∧ k < (l.length : Int) ∧ seen.length = l.length then goL l i (walkN l i f) (rd_T68 l k).f3 seen else none
structure LoopsW (w0 w : World) (g1 g2 g3 g4 gs : Nat) (A0 : Option Addr) (c0 cs : Nat) (l : List S68) (i : Int) (seen : List Bool) : Prop where
 b1 : w.heap[g1]? = some (.cells #[.slice A0 l.length c0] 35 (0, 0))
 b2 : w.heap[g2]? = some (.cells #[.int .i64 i] 3 (0, 0))
 b3 : w.heap[g3]? = some (.cells #[.slice (some ⟨gs, 0, none⟩) l.length cs] 93 (0, 0))
 b4 : w.heap[g4]? = some (.cells #[.func (.func 114) #[] #[.pointer (some ⟨g1, 0, none⟩), .pointer (some ⟨g2, 0, none⟩), .pointer (some ⟨g3, 0, none⟩), .pointer (some ⟨g4, 0, none⟩)]] 92 (0, 0))
 row : Kd.R Kd.bool 4 w w0.heap.size (fun _ => True) (.slice (some ⟨gs, 0, none⟩) l.length cs) seen
 len : seen.length = l.length
 below : Below w0.heap.size w0 w
theorem LoopsW.keep {w0 w w1 : World} {g1 g2 g3 g4 gs : Nat} {A0 : Option Addr} {c0 cs : Nat} {l : List S68} {i : Int} {seen : List Bool} (h : LoopsW w0 w g1 g2 g3 g4 gs A0 c0 cs l i seen) (hb : Below w.heap.size w w1) : LoopsW w0 w1 g1 g2 g3 g4 gs A0 c0 cs l i seen :=
 ⟨bkb h.b1 hb, bkb h.b2 hb, bkb h.b3 hb, bkb h.b4 hb, Kd.R_below h.row hb, h.len, pwt h.below hb⟩
theorem LoopsW.gs_ge {w0 w : World} {g1 g2 g3 g4 gs : Nat} {A0 : Option Addr} {c0 cs : Nat} {l : List S68} {i : Int} {seen : List Bool} (h : LoopsW w0 w g1 g2 g3 g4 gs A0 c0 cs l i seen) : w0.heap.size ≤ gs := by
 obtain ⟨inner, ho⟩ := Kd.R_own h.row
 exact own_base ho gs rfl
theorem LoopsW.see {w0 w : World} {g1 g2 g3 g4 gs : Nat} {A0 : Option Addr} {c0 cs : Nat} {l : List S68} {i : Int} {seen : List Bool} (h : LoopsW w0 w g1 g2 g3 g4 gs A0 c0 cs l i seen) (n : Int) : LoopsW w0 (w.setCell ⟨gs, n.toNat, none⟩ (.bool true)) g1 g2 g3 g4 gs A0 c0 cs l i (seen.set n.toNat true) := by
 have hp := Kd.R_putg h.row n true
 have ne : ∀ {g t : Nat} {cells : Array Value}, w.heap[g]? = some (.cells cells t (0, 0)) → 4 ≠ t → g ≠ gs := fun hb ht he => Kd.R_ne h.row hb ht (by simp [Value.ownBlock, he])
 exact ⟨bkf h.b1 (ne h.b1 (by decide)) _, bkf h.b2 (ne h.b2 (by decide)) _, bkf h.b3 (ne h.b3 (by decide)) _, bkf h.b4 (ne h.b4 (by decide)) _, hp.1, by rw [List.length_set]; exact h.len,
  h.below.grown hp.2 h.below.size (fun k hk => by have := h.gs_ge; injection hk with hk; omega)⟩
theorem goL_drop (l : List S68) (i : Int) (go : Int → List Bool → Option (Bool × List Bool)) (ids : List Int) (j : Nat) (id : Int) (seen : List Bool) (h : ids[j]? = some id) :
  goL l i go (ids.drop j) seen = if findI l id = i then some (true, seen)
  else if 0 ≤ findI l id ∧ findI l id < (seen.length : Int) then
   if rdOf false seen (findI l id) = true then goL l i go (ids.drop (j + 1)) seen
   else (go (findI l id) (seen.set (findI l id).toNat true)).bind fun r => if r.1 = true then some r else goL l i go (ids.drop (j + 1)) r.2
  else none := by
 obtain ⟨hl, he⟩ := List.getElem?_eq_some_iff.1 h
 rw [List.drop_eq_getElem_cons hl, he]
 rfl
set_option maxHeartbeats 16000000 in
set_option maxRecDepth 100000 in
theorem walk_any (l : List S68) (i : Int) (w0 : World) (A0 : Option Addr) (c0 : Nat) (hr0 : Kd.C k68 w0 A0 l.length l) (hc0 : l.length ≤ c0) (f : Nat) : ∀ (k : Int) (seen : List Bool) (r : Bool × List Bool) (w : World) (g1 g2 g3 g4 gs cs : Nat),
  LoopsW w0 w g1 g2 g3 g4 gs A0 c0 cs l i seen → walkN l i f k seen = some r →
  Calls Tryz.prog 114 #[.int .i64 k, .pointer (some ⟨g1, 0, none⟩), .pointer (some ⟨g2, 0, none⟩), .pointer (some ⟨g3, 0, none⟩), .pointer (some ⟨g4, 0, none⟩)] w
   fun e w' => e = .returned (.bool r.1) ∧ LoopsW w0 w' g1 g2 g3 g4 gs A0 c0 cs l i r.2 := by
 induction f with
 | zero => intro k seen r w g1 g2 g3 g4 gs cs _ h; cases h
 | succ f ih =>
  intro k seen r w g1 g2 g3 g4 gs cs hL h
  simp only [walkN] at h
  split at h
  case isFalse => cases h
  case isTrue hk =>
  obtain ⟨hk0, hk1, _⟩ := hk
  have HL := As0.mk hL
  have HR := As0.mk hr0
  have IH := As0.mk ih
  have HC0 := As0.mk hc0
  clear ih hr0 hL hc0
  obtain ⟨ad, A2, c2, A3, c3, A4, c4, A9, c9, e0, _, _, _, hx3, _, _, _, _, _, _, _, _, _, _, hl3, hi3, _⟩ := at_T68 HR.out k hk0 hk1
  cases e0
  replace hx3 := (HL.out.below.cell (World.block_lt_of_cell? w0 _ hx3)).trans hx3
  have HX := As0.mk hi3
  clear hl3 hi3
  have H := As0.mk h
  clear h
  generalize (rd_T68 l k).f3 = ids at *
  have k1 := (bkc HL.out.b1 0).trans rfl
  have hk0b : decide (0 ≤ k) = true := decide_eq_true hk0
  have hk1b : decide (k < (l.length : Int)) = true := decide_eq_true hk1
  have hen := enters_114
  replace hk0 := eq_true hk0
  replace hk1 := eq_true hk1
  go_enter Tryz.func114, Tryz.ntmps114
  go_wp2
  have HI : As0 (0 ≤ (0 : Int) ∧ (0 : Int) + (ids.length : Nat) = ids.length ∧ goL l i (walkN l i f) (ids.drop (0 : Int).toNat) seen = some r) := ⟨by omega, by omega, H.out⟩
  have hlen := As0.mk HX.out.2.1
  clear k1 hx3
  go_loopg [16] ids.length (fun kq v16 w' => ∃ (j : Int) (sn : List Bool), v16 = .int .i64 j ∧ As0 (0 ≤ j ∧ j + kq = ids.length ∧ goL l i (walkN l i f) (ids.drop j.toNat) sn = some r) ∧ As0 (LoopsW w0 w' g1 g2 g3 g4 gs (some ad) c0 cs l i sn))
  case atStart => exact ⟨0, seen, rfl, HI, HL⟩
  case round =>
   clear HI HL H
   obtain ⟨j, sn, rfl, HI, HL⟩ := hrel
   cases gk with
   | zero =>
    have hge : decide (j < (ids.length : Int)) = false := by have := HI.out; simp; omega
    have hr : r = (false, sn) := by
     have := HI.out.2.2
     rw [List.drop_eq_nil_of_le (by have := HI.out; omega)] at this
     exact (Option.some.inj this).symm
    subst hr
    go_wp2
    go_ret
    exact ⟨rfl, HL.out⟩
   | succ kq1 =>
    have h0 : 0 ≤ j := by have := HI.out; omega
    have h1 : j < (ids.length : Int) := by have := HI.out; omega
    have hge : decide (j < (ids.length : Int)) = true := decide_eq_true h1
    have hg0 : decide (0 ≤ j) = true := decide_eq_true h0
    obtain ⟨ad3, e3, hc⟩ := ReadsInt.at_ (Kd.reads_of_C (d := 0) HX.out : ReadsInt w0 .i64 A3 ids.length ids) j h0 h1
    cases e3
    replace hc := (HL.out.below.cell (World.block_lt_of_cell? w0 _ hc)).trans hc
    have hx : ids[j.toNat]? = some (rd ids j) := by
     have hl : j.toNat < ids.length := by omega
     simp [rd, List.getElem?_eq_getElem hl, List.getD_eq_getElem?_getD]
    have hst := HI.out.2.2
    rw [goL_drop l i _ ids j.toNat (rd ids j) sn hx] at hst
    clear hx
    generalize rd ids j = id at *
    have hw : As0 (wrap64 (j + 1) = j + 1 ∧ (j + 1).toNat = j.toNat + 1) := ⟨by have := HI.out; have := hlen.out; unfold wrap64; omega, by omega⟩
    replace h0 := eq_true h0
    replace h1 := eq_true h1
    have k1 := (bkc HL.out.b1 0).trans rfl
    have HF := As0.mk (item_find.calls (some ad) c0 l id (findI l id) wr (Kd.C_below HR.out HL.out.below) HC0.out rfl)
    generalize hn : findI l id = n at *
    clear hn
    by_cases hni : n = i
    ·rw [if_pos hni] at hst
     obtain rfl := Option.some.inj hst
     subst hni
     have k2 := (bkc HL.out.b2 0).trans rfl
     have k2' : ∀ W : World, Below wr.heap.size wr W → W.cell? ⟨g2, 0, none⟩ = some (.int .i64 n) := fun W hb => (bkc (bkb HL.out.b2 hb) 0).trans rfl
     have K2 := As0.mk k2'
     clear k2' hst
     have q1 : (n == n) = true := by simp
     go_wp2_with (go_at_call 55; (with_reducible refine HF.out.mono ?_); rintro e w' ⟨rfl, hb⟩; have HL2 := As0.mk (HL.out.keep hb); have k2 := (bkc HL2.out.b2 0).trans rfl; clear hb)
     go_ret
     exact ⟨rfl, HL2.out⟩
    ·rw [if_neg hni] at hst
     split at hst
     case isFalse => cases hst
     case isTrue hb =>
     have q1 : (n == i) = false := by simp [hni]
     have q1' : decide (n = i) = false := by simp [hni]
     clear hni
     obtain ⟨hb0, hb1⟩ := hb
     rw [HL.out.len] at hb1
     have NB : As0 (0 ≤ n ∧ n < (l.length : Int)) := ⟨hb0, hb1⟩
     have hb0b : decide (0 ≤ n) = true := decide_eq_true hb0
     have hb1b : decide (n < (l.length : Int)) = true := decide_eq_true hb1
     replace hb0 := eq_true hb0
     replace hb1 := eq_true hb1
     by_cases hs : rdOf false sn n = true
     ·rw [if_pos hs] at hst
      have SE := As0.mk hs
      have ST := As0.mk hst
      clear hs hst
      go_wp2_with (go_at_call 55; (with_reducible refine HF.out.mono ?_); rintro e w' ⟨rfl, hb⟩; have HL2 := As0.mk (HL.out.keep hb); have k2 := (bkc HL2.out.b2 0).trans rfl; have k3 := (bkc HL2.out.b3 0).trans rfl; obtain ⟨kc, kf⟩ := Kd.R_celln false HL2.out.row n NB.out.1 NB.out.2; simp only [SE.out] at kc; clear hb)
      go_roundg kq1
      case measure => omega
      case rel => exact ⟨j + 1, sn, congrArg _ hw.out.1, ⟨by have := HI.out; omega, by have := HI.out; omega, by rw [hw.out.2]; exact ST.out⟩, HL2⟩
     ·rw [if_neg hs] at hst
      have SE : As0 (rdOf false sn n = false) := ⟨by simpa using hs⟩
      clear hs
      obtain ⟨r1, hr1, hst⟩ := Option.bind_eq_some_iff.1 hst
      have W1 := As0.mk hr1
      have ST := As0.mk hst
      clear hr1 hst
      cases hr1b : r1.1 with
      | true =>
       have R1 := As0.mk hr1b
       clear hr1b
       go_wp2_with (first | (go_at_call 55; (with_reducible refine HF.out.mono ?_); rintro e w' ⟨rfl, hb⟩; have HL2 := As0.mk (HL.out.keep hb); have k2 := (bkc HL2.out.b2 0).trans rfl; have k3 := (bkc HL2.out.b3 0).trans rfl; obtain ⟨kc, kf⟩ := Kd.R_celln false HL2.out.row n NB.out.1 NB.out.2; simp only [SE.out] at kc; have k4 := (bkc (HL2.out.see n).b4 0).trans rfl; have HL3 := As0.mk (HL2.out.see n); clear hb) | (go_at_call 114; (with_reducible refine (IH.out n _ r1 _ g1 g2 g3 g4 gs cs HL3.out W1.out).mono ?_); rintro e w4 ⟨rfl, hL4⟩; have HL4 := As0.mk hL4; clear hL4; rw [R1.out]))
       go_ret
       have hr := ST.out
       rw [if_pos R1.out] at hr
       obtain rfl := Option.some.inj hr
       exact ⟨by rw [R1.out]; rfl, HL4.out⟩
      | false =>
       have R1 := As0.mk hr1b
       clear hr1b
       go_wp2_with (first | (go_at_call 55; (with_reducible refine HF.out.mono ?_); rintro e w' ⟨rfl, hb⟩; have HL2 := As0.mk (HL.out.keep hb); have k2 := (bkc HL2.out.b2 0).trans rfl; have k3 := (bkc HL2.out.b3 0).trans rfl; obtain ⟨kc, kf⟩ := Kd.R_celln false HL2.out.row n NB.out.1 NB.out.2; simp only [SE.out] at kc; have k4 := (bkc (HL2.out.see n).b4 0).trans rfl; have HL3 := As0.mk (HL2.out.see n); clear hb) | (go_at_call 114; (with_reducible refine (IH.out n _ r1 _ g1 g2 g3 g4 gs cs HL3.out W1.out).mono ?_); rintro e w4 ⟨rfl, hL4⟩; have HL4 := As0.mk hL4; clear hL4; rw [R1.out]))
       go_roundg kq1
       case measure => omega
       case rel =>
        have hr := ST.out
        rw [if_neg (by simp [R1.out])] at hr
        exact ⟨j + 1, r1.2, congrArg _ hw.out.1, ⟨by have := HI.out; omega, by have := HI.out; omega, by rw [hw.out.2]; exact hr⟩, HL4⟩
def item_loops.f (l0 : List S68) (a1 : Int) : Option Bool :=
 if l0.length ≤ 1000000 ∧ 0 ≤ a1 ∧ a1 < (l0.length : Int) then (walkN l0 a1 (l0.length + 1) a1 (List.replicate l0.length false)).map (·.1) else none
set_option maxHeartbeats 16000000 in
set_option maxRecDepth 100000 in
theorem item_loops.calls (A0 : Option Addr) (c0 : Nat) (l0 : List S68) (a1 : Int) (r : Bool) (w : World) (hr0 : Kd.C k68 w A0 l0.length l0) (hc0 : l0.length ≤ c0) (h : item_loops.f l0 a1 = some r) :
  Calls Tryz.prog 58 #[.slice A0 l0.length c0, .int .i64 a1] w fun e w' => e = .returned (.bool r) ∧ Below w.heap.size w w' := by
 unfold item_loops.f at h
 split at h
 case isFalse => cases h
 case isTrue hk =>
 obtain ⟨r1, hw1, rfl⟩ := Option.map_eq_some_iff.1 h
 clear h
 have HK := As0.mk hk
 have HR := As0.mk hr0
 have HC0 := As0.mk hc0
 have HW := As0.mk hw1
 clear hw1 hk hr0 hc0
 have hmf := makeFunc_run
 have hen := enters_114
 go_enter Tryz.func58, Tryz.ntmps58
 go_wp2_with (first | ((with_reducible refine gdt (N := 9) rfl ?_); refine Kd.R_make Kd.bool _ 4 rfl (N := 9) rfl 93 _ _ rfl (l0.length : Int) rfl rfl Tryz.underlying93 (.bool false) 1 info4 rfl (by decide) (by omega) false (ok := fun _ => True) (okp := fun _ => True) rfl (fun _ hk => hk) trivial (by omega) (by have := HK.out.1; omega) (Below.refl _ _) (Nat.le_refl _) ?_; intro v1 w1 hv1 hb1 _ _; simp only [Int.toNat_natCast] at hv1; obtain ⟨gs, cs, rfl, _, _, _⟩ := Kd.R_form hv1 (by have := HK.out; simp; omega); simp only [List.length_replicate] at hv1; have BB1 := bkb (bka (heap_alloc_new w (.cells #[.slice A0 l0.length c0] 35)) _) hb1; have BB2 := bkb (heap_alloc_new (w.alloc (.cells #[.slice A0 l0.length c0] 35)) (.cells #[.int .i64 a1] 3)) hb1; simp only [World.size_alloc] at BB2; have k3 : ∀ o1 o2 : Obj, ((w1.alloc o1).alloc o2).cell? ⟨w.heap.size + 1, 0, none⟩ = some (.int .i64 a1) := fun o1 o2 => (bkc (bka (bka BB2 o1) o2) 0).trans rfl; have B1 := As0.mk BB1; have B2 := As0.mk BB2; clear BB1 BB2; have HV1 := As0.mk hv1; have BT : As0 (∀ o1 o2 : Obj, Below w.heap.size w ((w1.alloc o1).alloc o2)) := ⟨fun o1 o2 => bwa (bwa (pwt (bwa (bwa (Below.refl _ _) _) _) hb1) _) _⟩; clear hv1) | (go_at_call 114; (with_reducible refine (walk_any l0 a1 w A0 c0 HR.out HC0.out _ a1 _ r1 _ _ _ _ _ gs cs ?hL HW.out).mono ?_); (case hL => exact ⟨bka (bka B1.out _) _, bka (bka B2.out _) _, bka (heap_alloc_new w1 _) _, by have := heap_alloc_new (w1.alloc (.cells #[.slice (some ⟨gs, 0, none⟩) l0.length cs] 93)) (.cells #[.func (.func 114) #[] #[.pointer (some ⟨w.heap.size, 0, none⟩), .pointer (some ⟨w.heap.size + 1, 0, none⟩), .pointer (some ⟨w1.heap.size, 0, none⟩), .pointer (some ⟨w1.heap.size + 1, 0, none⟩)]] 92); rw [World.size_alloc] at this; exact this, Kd.R_lower (Kd.R_alloc (Kd.R_alloc HV1.out _) _) (by simp [World.size_alloc]; omega), by simp, BT.out _ _⟩); rintro e w' ⟨rfl, hL⟩; have HL := As0.mk hL; clear hL))
 go_ret
 exact ⟨rfl, HL.out.below⟩
mutual
def item_unused.j0 : Nat → Bool → Int → Int → List Int → List Int → List Int → Int → Int → Int → Int → List Int → Int → Bool → Option (Bool)
 | 0, _, _, _, _, _, _, _, _, _, _, _, _, _ => none
 | k + 1, x3, x209000, x209001, x209002, x209003, x209004, x209005, x209006, x209007, x209008, x209009, x209010, x209011 => if (x209004.length : Int) = 0 then (item_unused.j1 k x3 ((x209009.length : Int) == 0) x209000 x209001 x209002 x209003 x209004 x209005 x209006 x209007 x209008 x209009 x209010 x209011) else (item_unused.j1 k x3 false x209000 x209001 x209002 x209003 x209004 x209005 x209006 x209007 x209008 x209009 x209010 x209011)
def item_unused.j1 : Nat → Bool → Bool → Int → Int → List Int → List Int → List Int → Int → Int → Int → Int → List Int → Int → Bool → Option (Bool)
 | 0, _, _, _, _, _, _, _, _, _, _, _, _, _, _ => none
 | k + 1, x3, x4, x209000, x209001, x209002, x209003, x209004, x209005, x209006, x209007, x209008, x209009, x209010, x209011 => if x209007 = 0 then (item_unused.j2 k x3 x4 (x209008 == 0) x209000 x209001 x209002 x209003 x209004 x209005 x209006 x209007 x209008 x209009 x209010 x209011) else (item_unused.j2 k x3 x4 false x209000 x209001 x209002 x209003 x209004 x209005 x209006 x209007 x209008 x209009 x209010 x209011)
def item_unused.j2 : Nat → Bool → Bool → Bool → Int → Int → List Int → List Int → List Int → Int → Int → Int → Int → List Int → Int → Bool → Option (Bool)
 | 0, _, _, _, _, _, _, _, _, _, _, _, _, _, _, _ => none
 | k + 1, x3, x4, x5, x209000, x209001, x209002, x209003, x209004, x209005, x209006, x209007, x209008, x209009, x209010, x209011 => if x209001 = 0 then (if (x209003.length : Int) = 0 then (if x3 = true then (if x4 = true then (some x5) else (some false)) else (some false)) else (some false)) else (if x209001 = 1 then (if (x209002.length : Int) = 0 then (if x3 = true then (if x4 = true then (some x5) else (some false)) else (some false)) else (some false)) else (if x209001 = 2 then (if (x209002.length : Int) = 0 then (some x3) else (some false)) else (if (x209002.length : Int) = 0 then (some x4) else (some false))))
end
def item_unused.f (k : Nat) (a0_0 : Int) (a0_1 : Int) (l0_2 : List Int) (l0_3 : List Int) (l0_4 : List Int) (a0_5 : Int) (a0_6 : Int) (a0_7 : Int) (a0_8 : Int) (l0_9 : List Int) (a0_10 : Int) (a0_11 : Bool) : Option (Bool) := if a0_5 = 0 then (item_unused.j0 k (a0_6 == 0) a0_0 a0_1 l0_2 l0_3 l0_4 a0_5 a0_6 a0_7 a0_8 l0_9 a0_10 a0_11) else (item_unused.j0 k false a0_0 a0_1 l0_2 l0_3 l0_4 a0_5 a0_6 a0_7 a0_8 l0_9 a0_10 a0_11)
set_option maxHeartbeats 8000000 in
set_option maxRecDepth 100000 in
theorem item_unused.calls (k : Nat) (a0_0 : Int) (a0_1 : Int) (A0_2 : Option Addr) (c0_2 : Nat) (l0_2 : List Int) (A0_3 : Option Addr) (c0_3 : Nat) (l0_3 : List Int) (A0_4 : Option Addr) (c0_4 : Nat) (l0_4 : List Int) (a0_5 : Int) (a0_6 : Int) (a0_7 : Int) (a0_8 : Int) (A0_9 : Option Addr) (c0_9 : Nat) (l0_9 : List Int) (a0_10 : Int) (a0_11 : Bool) (r : Bool) (w : World) (hr0_2 : Kd.C (Kd.int .u8) w A0_2 l0_2.length l0_2) (hc0_2 : l0_2.length ≤ c0_2) (hr0_3 : Kd.C (Kd.int .i64) w A0_3 l0_3.length l0_3) (hc0_3 : l0_3.length ≤ c0_3) (hr0_4 : Kd.C (Kd.int .i64) w A0_4 l0_4.length l0_4) (hc0_4 : l0_4.length ≤ c0_4) (hr0_9 : Kd.C (Kd.int .i64) w A0_9 l0_9.length l0_9) (hc0_9 : l0_9.length ≤ c0_9) (h : item_unused.f k a0_0 a0_1 l0_2 l0_3 l0_4 a0_5 a0_6 a0_7 a0_8 l0_9 a0_10 a0_11 = some r) :
  Calls Tryz.prog 54 #[.agg #[.int .i64 a0_0, .int .i64 a0_1, .slice A0_2 l0_2.length c0_2, .slice A0_3 l0_3.length c0_3, .slice A0_4 l0_4.length c0_4, .int .i64 a0_5, .int .i64 a0_6, .int .i64 a0_7, .int .i64 a0_8, .slice A0_9 l0_9.length c0_9, .int .i64 a0_10, .bool a0_11]] w fun e w' => e = .returned (.bool r) ∧ Below w.heap.size w w' := by
 have hu68 := Tryz.underlying68
 have HR0_2 := As0.mk hr0_2
 have HC0_2 := As0.mk hc0_2
 clear hr0_2 hc0_2
 have HR0_3 := As0.mk hr0_3
 have HC0_3 := As0.mk hc0_3
 clear hr0_3 hc0_3
 have HR0_4 := As0.mk hr0_4
 have HC0_4 := As0.mk hc0_4
 clear hr0_4 hc0_4
 have HR0_9 := As0.mk hr0_9
 have HC0_9 := As0.mk hc0_9
 clear hr0_9 hc0_9
 have HB := As0.mk (Below.refl w.heap.size w)
 have H : (if a0_5 = 0 then (item_unused.j0 k (a0_6 == 0) a0_0 a0_1 l0_2 l0_3 l0_4 a0_5 a0_6 a0_7 a0_8 l0_9 a0_10 a0_11) else (item_unused.j0 k false a0_0 a0_1 l0_2 l0_3 l0_4 a0_5 a0_6 a0_7 a0_8 l0_9 a0_10 a0_11)) = some r := h
 clear h
 have HC2 := As0.mk H
 clear H
 go_enter Tryz.func54, Tryz.ntmps54
 go_upto_region 1 with (first | ((with_reducible refine gdt (N := 1) rfl ?_); (try (refine gate_guard (by rfl) ?_; dsimp only)); refine bxe ?hg (N := 1) ?hd (cs := #[.int .i64 a0_0, .int .i64 a0_1, .slice A0_2 l0_2.length c0_2, .slice A0_3 l0_3.length c0_3, .slice A0_4 l0_4.length c0_4, .int .i64 a0_5, .int .i64 a0_6, .int .i64 a0_7, .int .i64 a0_8, .slice A0_9 l0_9.length c0_9, .int .i64 a0_10, .bool a0_11]) (t := 68) ?hr ?_; (case hd => rfl); (case hg => rfl); (case hr => first | (go_simp; done) | (go_simp; rfl)); intro gb208 hg w3 hbox hb; have n0_ := As0.mk (bwp (by repeat (first | (with_reducible first | exact HB.out | apply bwa | apply pwN | apply bwd) | exact HB.out)) hb); have n1_ := As0.mk (hbox); have n2_ := As0.mk ((by rw [hg]; exact (bwz (by repeat (first | (with_reducible first | exact HB.out | apply bwa | apply pwN | apply bwd) | exact HB.out))) : w.heap.size ≤ gb208)); have n3_ := As0.mk ((by rw [hg]; exact (bwz (by repeat (first | (with_reducible first | exact HB.out | apply bwa | apply pwN | apply bwd) | exact HB.out))) : w.heap.size ≤ gb208)); clear HB; have HB := n0_; have BK208 := n1_; have GW208 := n2_; have GE208 := n3_; clear n0_ n1_ n2_ n3_; clear hb hbox hg))
 (try simp only [Act.put, List.setIfInBounds_toArray, List.set_cons_zero, List.set_cons_succ])
 go_cut [3] (fun v3 wc => ∃ (kq : Nat) (x3_1 : Bool), v3 = .bool x3_1 ∧ As0 (item_unused.j0 kq x3_1 a0_0 a0_1 l0_2 l0_3 l0_4 a0_5 a0_6 a0_7 a0_8 l0_9 a0_10 a0_11 = some r) ∧ As0 (kq ≤ k) ∧ As0 (wc.heap[gb208]? = some (.cells #[.int .i64 a0_0, .int .i64 a0_1, (.slice A0_2 l0_2.length c0_2), (.slice A0_3 l0_3.length c0_3), (.slice A0_4 l0_4.length c0_4), .int .i64 a0_5, .int .i64 a0_6, .int .i64 a0_7, .int .i64 a0_8, (.slice A0_9 l0_9.length c0_9), .int .i64 a0_10, .bool a0_11] 68 (0, 0))) ∧ As0 (Below w.heap.size w wc))
 case first =>
  have H := HC2.out
  clear HC2
  by_cases c4 : a0_5 = 0
  ·rw [if_pos c4] at H
   have c4b0 : (a0_5 == 0) = true := beq_iff_eq.mpr c4
   have c4b1 : (a0_5 != 0) = false := bne_eq_false_iff_eq.mpr c4
   clear c4
   (first | rw [c4b0] | (simp only [i64_w, i32_w]; rw [c4b0]) | skip)
   have H' := As0.mk H
   clear H
   have hcz5_0 : w3.cell? ⟨gb208, 0, none⟩ = some (.int .i64 a0_0) := (bkc BK208.out 0).trans rfl
   have hcz5_1 : w3.cell? ⟨gb208, 1, none⟩ = some (.int .i64 a0_1) := (bkc BK208.out 1).trans rfl
   have hcz5_2 : w3.cell? ⟨gb208, 2, none⟩ = some (.slice A0_2 l0_2.length c0_2) := (bkc BK208.out 2).trans rfl
   have hcz5_3 : w3.cell? ⟨gb208, 3, none⟩ = some (.slice A0_3 l0_3.length c0_3) := (bkc BK208.out 3).trans rfl
   have hcz5_4 : w3.cell? ⟨gb208, 4, none⟩ = some (.slice A0_4 l0_4.length c0_4) := (bkc BK208.out 4).trans rfl
   have hcz5_5 : w3.cell? ⟨gb208, 5, none⟩ = some (.int .i64 a0_5) := (bkc BK208.out 5).trans rfl
   have hcz5_6 : w3.cell? ⟨gb208, 6, none⟩ = some (.int .i64 a0_6) := (bkc BK208.out 6).trans rfl
   have hcz5_7 : w3.cell? ⟨gb208, 7, none⟩ = some (.int .i64 a0_7) := (bkc BK208.out 7).trans rfl
   have hcz5_8 : w3.cell? ⟨gb208, 8, none⟩ = some (.int .i64 a0_8) := (bkc BK208.out 8).trans rfl
   have hcz5_9 : w3.cell? ⟨gb208, 9, none⟩ = some (.slice A0_9 l0_9.length c0_9) := (bkc BK208.out 9).trans rfl
   have hcz5_10 : w3.cell? ⟨gb208, 10, none⟩ = some (.int .i64 a0_10) := (bkc BK208.out 10).trans rfl
   have hcz5_11 : w3.cell? ⟨gb208, 11, none⟩ = some (.bool a0_11) := (bkc BK208.out 11).trans rfl
   have hfz5_0 := bkz BK208.out 0
   have hfz5_1 := bkz BK208.out 1
   have hfz5_2 := bkz BK208.out 2
   have hfz5_3 := bkz BK208.out 3
   have hfz5_4 := bkz BK208.out 4
   have hfz5_5 := bkz BK208.out 5
   have hfz5_6 := bkz BK208.out 6
   have hfz5_7 := bkz BK208.out 7
   have hfz5_8 := bkz BK208.out 8
   have hfz5_9 := bkz BK208.out 9
   have hfz5_10 := bkz BK208.out 10
   have hfz5_11 := bkz BK208.out 11
   go_wp2
   go_meet
   case rel => exact ⟨_, ((a0_6 == 0)), (by first | rfl | (simp; done) | (simp [*]; done)), H', ⟨by first | omega | exact Nat.le_refl _⟩, ⟨by (with_reducible repeat (first | refine bkN ?_ _ | refine bkd ?_ | refine bka ?_ _)); exact BK208.out⟩, ⟨by repeat (first | (with_reducible first | exact HB.out | apply bwa | apply pwN | apply bwd | refine bws ?_ GE208.out) | exact HB.out)⟩⟩
  ·rw [if_neg c4] at H
   have c4b0 : (a0_5 == 0) = false := beq_eq_false_iff_ne.mpr c4
   have c4b1 : (a0_5 != 0) = true := bne_iff_ne.mpr c4
   (first | rw [c4b0] | (simp only [i64_w, i32_w]; rw [c4b0]) | skip)
   have H' := As0.mk H
   clear H
   have hcz6_0 : w3.cell? ⟨gb208, 0, none⟩ = some (.int .i64 a0_0) := (bkc BK208.out 0).trans rfl
   have hcz6_1 : w3.cell? ⟨gb208, 1, none⟩ = some (.int .i64 a0_1) := (bkc BK208.out 1).trans rfl
   have hcz6_2 : w3.cell? ⟨gb208, 2, none⟩ = some (.slice A0_2 l0_2.length c0_2) := (bkc BK208.out 2).trans rfl
   have hcz6_3 : w3.cell? ⟨gb208, 3, none⟩ = some (.slice A0_3 l0_3.length c0_3) := (bkc BK208.out 3).trans rfl
   have hcz6_4 : w3.cell? ⟨gb208, 4, none⟩ = some (.slice A0_4 l0_4.length c0_4) := (bkc BK208.out 4).trans rfl
   have hcz6_5 : w3.cell? ⟨gb208, 5, none⟩ = some (.int .i64 a0_5) := (bkc BK208.out 5).trans rfl
   have hcz6_6 : w3.cell? ⟨gb208, 6, none⟩ = some (.int .i64 a0_6) := (bkc BK208.out 6).trans rfl
   have hcz6_7 : w3.cell? ⟨gb208, 7, none⟩ = some (.int .i64 a0_7) := (bkc BK208.out 7).trans rfl
   have hcz6_8 : w3.cell? ⟨gb208, 8, none⟩ = some (.int .i64 a0_8) := (bkc BK208.out 8).trans rfl
   have hcz6_9 : w3.cell? ⟨gb208, 9, none⟩ = some (.slice A0_9 l0_9.length c0_9) := (bkc BK208.out 9).trans rfl
   have hcz6_10 : w3.cell? ⟨gb208, 10, none⟩ = some (.int .i64 a0_10) := (bkc BK208.out 10).trans rfl
   have hcz6_11 : w3.cell? ⟨gb208, 11, none⟩ = some (.bool a0_11) := (bkc BK208.out 11).trans rfl
   have hfz6_0 := bkz BK208.out 0
   have hfz6_1 := bkz BK208.out 1
   have hfz6_2 := bkz BK208.out 2
   have hfz6_3 := bkz BK208.out 3
   have hfz6_4 := bkz BK208.out 4
   have hfz6_5 := bkz BK208.out 5
   have hfz6_6 := bkz BK208.out 6
   have hfz6_7 := bkz BK208.out 7
   have hfz6_8 := bkz BK208.out 8
   have hfz6_9 := bkz BK208.out 9
   have hfz6_10 := bkz BK208.out 10
   have hfz6_11 := bkz BK208.out 11
   go_wp2
   go_meet
   case rel => exact ⟨_, (false), (by first | rfl | (simp; done) | (simp [*]; done)), H', ⟨by first | omega | exact Nat.le_refl _⟩, ⟨by (with_reducible repeat (first | refine bkN ?_ _ | refine bkd ?_ | refine bka ?_ _)); exact BK208.out⟩, ⟨by repeat (first | (with_reducible first | exact HB.out | apply bwa | apply pwN | apply bwd | refine bws ?_ GE208.out) | exact HB.out)⟩⟩
 case rest =>
  clear HC2
  try clear p2
  try clear c4
  try clear c4b0
  try clear c4b1
  try clear c5
  try clear hcz5_0
  try clear hcz5_1
  try clear hcz5_10
  try clear hcz5_11
  try clear hcz5_2
  try clear hcz5_3
  try clear hcz5_4
  try clear hcz5_5
  try clear hcz5_6
  try clear hcz5_7
  try clear hcz5_8
  try clear hcz5_9
  try clear hcz6_0
  try clear hcz6_1
  try clear hcz6_10
  try clear hcz6_11
  try clear hcz6_2
  try clear hcz6_3
  try clear hcz6_4
  try clear hcz6_5
  try clear hcz6_6
  try clear hcz6_7
  try clear hcz6_8
  try clear hcz6_9
  try clear hfz5_0
  try clear hfz5_1
  try clear hfz5_10
  try clear hfz5_11
  try clear hfz5_2
  try clear hfz5_3
  try clear hfz5_4
  try clear hfz5_5
  try clear hfz5_6
  try clear hfz5_7
  try clear hfz5_8
  try clear hfz5_9
  try clear hfz6_0
  try clear hfz6_1
  try clear hfz6_10
  try clear hfz6_11
  try clear hfz6_2
  try clear hfz6_3
  try clear hfz6_4
  try clear hfz6_5
  try clear hfz6_6
  try clear hfz6_7
  try clear hfz6_8
  try clear hfz6_9
  obtain ⟨kq, x3_1, rfl, HA, HJ1, BK208, HB⟩ := hcut
  cases kq with
  | zero => exact absurd HA.out (by simp [item_unused.j0])
  | succ kj1 =>
   have H := HA.out
   clear HA
   simp only [item_unused.j0] at H
   have HC7 := As0.mk H
   clear H
   go_upto_region 2 with (fail)
   go_cut [4] (fun v4 wc => ∃ (kq : Nat) (x4_6 : Bool), v4 = .bool x4_6 ∧ As0 (item_unused.j1 kq x3_1 x4_6 a0_0 a0_1 l0_2 l0_3 l0_4 a0_5 a0_6 a0_7 a0_8 l0_9 a0_10 a0_11 = some r) ∧ As0 (kq ≤ kj1) ∧ As0 (wc.heap[gb208]? = some (.cells #[.int .i64 a0_0, .int .i64 a0_1, (.slice A0_2 l0_2.length c0_2), (.slice A0_3 l0_3.length c0_3), (.slice A0_4 l0_4.length c0_4), .int .i64 a0_5, .int .i64 a0_6, .int .i64 a0_7, .int .i64 a0_8, (.slice A0_9 l0_9.length c0_9), .int .i64 a0_10, .bool a0_11] 68 (0, 0))) ∧ As0 (Below w.heap.size w wc))
   case first =>
    have H := HC7.out
    clear HC7
    by_cases c8 : (l0_4.length : Int) = 0
    ·rw [if_pos c8] at H
     have c8b0 : ((l0_4.length : Int) == 0) = true := beq_iff_eq.mpr c8
     have c8b1 : ((l0_4.length : Int) != 0) = false := bne_eq_false_iff_eq.mpr c8
     clear c8
     (first | rw [c8b0] | (simp only [i64_w, i32_w]; rw [c8b0]) | skip)
     have H' := As0.mk H
     clear H
     have hcz9_0 : wc.cell? ⟨gb208, 0, none⟩ = some (.int .i64 a0_0) := (bkc BK208.out 0).trans rfl
     have hcz9_1 : wc.cell? ⟨gb208, 1, none⟩ = some (.int .i64 a0_1) := (bkc BK208.out 1).trans rfl
     have hcz9_2 : wc.cell? ⟨gb208, 2, none⟩ = some (.slice A0_2 l0_2.length c0_2) := (bkc BK208.out 2).trans rfl
     have hcz9_3 : wc.cell? ⟨gb208, 3, none⟩ = some (.slice A0_3 l0_3.length c0_3) := (bkc BK208.out 3).trans rfl
     have hcz9_4 : wc.cell? ⟨gb208, 4, none⟩ = some (.slice A0_4 l0_4.length c0_4) := (bkc BK208.out 4).trans rfl
     have hcz9_5 : wc.cell? ⟨gb208, 5, none⟩ = some (.int .i64 a0_5) := (bkc BK208.out 5).trans rfl
     have hcz9_6 : wc.cell? ⟨gb208, 6, none⟩ = some (.int .i64 a0_6) := (bkc BK208.out 6).trans rfl
     have hcz9_7 : wc.cell? ⟨gb208, 7, none⟩ = some (.int .i64 a0_7) := (bkc BK208.out 7).trans rfl
     have hcz9_8 : wc.cell? ⟨gb208, 8, none⟩ = some (.int .i64 a0_8) := (bkc BK208.out 8).trans rfl
     have hcz9_9 : wc.cell? ⟨gb208, 9, none⟩ = some (.slice A0_9 l0_9.length c0_9) := (bkc BK208.out 9).trans rfl
     have hcz9_10 : wc.cell? ⟨gb208, 10, none⟩ = some (.int .i64 a0_10) := (bkc BK208.out 10).trans rfl
     have hcz9_11 : wc.cell? ⟨gb208, 11, none⟩ = some (.bool a0_11) := (bkc BK208.out 11).trans rfl
     have hfz9_0 := bkz BK208.out 0
     have hfz9_1 := bkz BK208.out 1
     have hfz9_2 := bkz BK208.out 2
     have hfz9_3 := bkz BK208.out 3
     have hfz9_4 := bkz BK208.out 4
     have hfz9_5 := bkz BK208.out 5
     have hfz9_6 := bkz BK208.out 6
     have hfz9_7 := bkz BK208.out 7
     have hfz9_8 := bkz BK208.out 8
     have hfz9_9 := bkz BK208.out 9
     have hfz9_10 := bkz BK208.out 10
     have hfz9_11 := bkz BK208.out 11
     go_wp2
     go_meet
     case rel => exact ⟨_, (((l0_9.length : Int) == 0)), (by first | rfl | (simp; done) | (simp [*]; done)), H', ⟨by have := HJ1.out; first | omega | exact Nat.le_refl _⟩, ⟨by (with_reducible repeat (first | refine bkN ?_ _ | refine bkd ?_ | refine bka ?_ _)); exact BK208.out⟩, ⟨by repeat (first | (with_reducible first | exact HB.out | apply bwa | apply pwN | apply bwd | refine bws ?_ GE208.out) | exact HB.out)⟩⟩
    ·rw [if_neg c8] at H
     have c8b0 : ((l0_4.length : Int) == 0) = false := beq_eq_false_iff_ne.mpr c8
     have c8b1 : ((l0_4.length : Int) != 0) = true := bne_iff_ne.mpr c8
     have c8b2 : ¬ (l0_4 = []) := fun h_ => c8 (by rw [h_]; rfl)
     (first | rw [c8b0] | (simp only [i64_w, i32_w]; rw [c8b0]) | skip)
     have H' := As0.mk H
     clear H
     have hcz10_0 : wc.cell? ⟨gb208, 0, none⟩ = some (.int .i64 a0_0) := (bkc BK208.out 0).trans rfl
     have hcz10_1 : wc.cell? ⟨gb208, 1, none⟩ = some (.int .i64 a0_1) := (bkc BK208.out 1).trans rfl
     have hcz10_2 : wc.cell? ⟨gb208, 2, none⟩ = some (.slice A0_2 l0_2.length c0_2) := (bkc BK208.out 2).trans rfl
     have hcz10_3 : wc.cell? ⟨gb208, 3, none⟩ = some (.slice A0_3 l0_3.length c0_3) := (bkc BK208.out 3).trans rfl
     have hcz10_4 : wc.cell? ⟨gb208, 4, none⟩ = some (.slice A0_4 l0_4.length c0_4) := (bkc BK208.out 4).trans rfl
     have hcz10_5 : wc.cell? ⟨gb208, 5, none⟩ = some (.int .i64 a0_5) := (bkc BK208.out 5).trans rfl
     have hcz10_6 : wc.cell? ⟨gb208, 6, none⟩ = some (.int .i64 a0_6) := (bkc BK208.out 6).trans rfl
     have hcz10_7 : wc.cell? ⟨gb208, 7, none⟩ = some (.int .i64 a0_7) := (bkc BK208.out 7).trans rfl
     have hcz10_8 : wc.cell? ⟨gb208, 8, none⟩ = some (.int .i64 a0_8) := (bkc BK208.out 8).trans rfl
     have hcz10_9 : wc.cell? ⟨gb208, 9, none⟩ = some (.slice A0_9 l0_9.length c0_9) := (bkc BK208.out 9).trans rfl
     have hcz10_10 : wc.cell? ⟨gb208, 10, none⟩ = some (.int .i64 a0_10) := (bkc BK208.out 10).trans rfl
     have hcz10_11 : wc.cell? ⟨gb208, 11, none⟩ = some (.bool a0_11) := (bkc BK208.out 11).trans rfl
     have hfz10_0 := bkz BK208.out 0
     have hfz10_1 := bkz BK208.out 1
     have hfz10_2 := bkz BK208.out 2
     have hfz10_3 := bkz BK208.out 3
     have hfz10_4 := bkz BK208.out 4
     have hfz10_5 := bkz BK208.out 5
     have hfz10_6 := bkz BK208.out 6
     have hfz10_7 := bkz BK208.out 7
     have hfz10_8 := bkz BK208.out 8
     have hfz10_9 := bkz BK208.out 9
     have hfz10_10 := bkz BK208.out 10
     have hfz10_11 := bkz BK208.out 11
     go_wp2
     go_meet
     case rel => exact ⟨_, (false), (by first | rfl | (simp; done) | (simp [*]; done)), H', ⟨by have := HJ1.out; first | omega | exact Nat.le_refl _⟩, ⟨by (with_reducible repeat (first | refine bkN ?_ _ | refine bkd ?_ | refine bka ?_ _)); exact BK208.out⟩, ⟨by repeat (first | (with_reducible first | exact HB.out | apply bwa | apply pwN | apply bwd | refine bws ?_ GE208.out) | exact HB.out)⟩⟩
   case rest =>
    clear HC7
    try clear p2
    try clear c4
    try clear c4b0
    try clear c4b1
    try clear c5
    try clear c8
    try clear c8b0
    try clear c8b1
    try clear c8b2
    try clear hcz10_0
    try clear hcz10_1
    try clear hcz10_10
    try clear hcz10_11
    try clear hcz10_2
    try clear hcz10_3
    try clear hcz10_4
    try clear hcz10_5
    try clear hcz10_6
    try clear hcz10_7
    try clear hcz10_8
    try clear hcz10_9
    try clear hcz5_0
    try clear hcz5_1
    try clear hcz5_10
    try clear hcz5_11
    try clear hcz5_2
    try clear hcz5_3
    try clear hcz5_4
    try clear hcz5_5
    try clear hcz5_6
    try clear hcz5_7
    try clear hcz5_8
    try clear hcz5_9
    try clear hcz6_0
    try clear hcz6_1
    try clear hcz6_10
    try clear hcz6_11
    try clear hcz6_2
    try clear hcz6_3
    try clear hcz6_4
    try clear hcz6_5
    try clear hcz6_6
    try clear hcz6_7
    try clear hcz6_8
    try clear hcz6_9
    try clear hcz9_0
    try clear hcz9_1
    try clear hcz9_10
    try clear hcz9_11
    try clear hcz9_2
    try clear hcz9_3
    try clear hcz9_4
    try clear hcz9_5
    try clear hcz9_6
    try clear hcz9_7
    try clear hcz9_8
    try clear hcz9_9
    try clear hfz10_0
    try clear hfz10_1
    try clear hfz10_10
    try clear hfz10_11
    try clear hfz10_2
    try clear hfz10_3
    try clear hfz10_4
    try clear hfz10_5
    try clear hfz10_6
    try clear hfz10_7
    try clear hfz10_8
    try clear hfz10_9
    try clear hfz5_0
    try clear hfz5_1
    try clear hfz5_10
    try clear hfz5_11
    try clear hfz5_2
    try clear hfz5_3
    try clear hfz5_4
    try clear hfz5_5
    try clear hfz5_6
    try clear hfz5_7
    try clear hfz5_8
    try clear hfz5_9
    try clear hfz6_0
    try clear hfz6_1
    try clear hfz6_10
    try clear hfz6_11
    try clear hfz6_2
    try clear hfz6_3
    try clear hfz6_4
    try clear hfz6_5
    try clear hfz6_6
    try clear hfz6_7
    try clear hfz6_8
    try clear hfz6_9
    try clear hfz9_0
    try clear hfz9_1
    try clear hfz9_10
    try clear hfz9_11
    try clear hfz9_2
    try clear hfz9_3
    try clear hfz9_4
    try clear hfz9_5
    try clear hfz9_6
    try clear hfz9_7
    try clear hfz9_8
    try clear hfz9_9
    try clear p2
    obtain ⟨kq, x4_6, rfl, HA, HJ6, BK208, HB⟩ := hcut
    cases kq with
    | zero => exact absurd HA.out (by simp [item_unused.j1])
    | succ kj6 =>
     have H := HA.out
     clear HA
     simp only [item_unused.j1] at H
     have HC11 := As0.mk H
     clear H
     go_upto_region 3 with (fail)
     go_cut [5] (fun v5 wc => ∃ (kq : Nat) (x5_10 : Bool), v5 = .bool x5_10 ∧ As0 (item_unused.j2 kq x3_1 x4_6 x5_10 a0_0 a0_1 l0_2 l0_3 l0_4 a0_5 a0_6 a0_7 a0_8 l0_9 a0_10 a0_11 = some r) ∧ As0 (kq ≤ kj6) ∧ As0 (wc.heap[gb208]? = some (.cells #[.int .i64 a0_0, .int .i64 a0_1, (.slice A0_2 l0_2.length c0_2), (.slice A0_3 l0_3.length c0_3), (.slice A0_4 l0_4.length c0_4), .int .i64 a0_5, .int .i64 a0_6, .int .i64 a0_7, .int .i64 a0_8, (.slice A0_9 l0_9.length c0_9), .int .i64 a0_10, .bool a0_11] 68 (0, 0))) ∧ As0 (Below w.heap.size w wc))
     case first =>
      have H := HC11.out
      clear HC11
      by_cases c12 : a0_7 = 0
      ·rw [if_pos c12] at H
       have c12b0 : (a0_7 == 0) = true := beq_iff_eq.mpr c12
       have c12b1 : (a0_7 != 0) = false := bne_eq_false_iff_eq.mpr c12
       clear c12
       (first | rw [c12b0] | (simp only [i64_w, i32_w]; rw [c12b0]) | skip)
       have H' := As0.mk H
       clear H
       have hcz13_0 : wc.cell? ⟨gb208, 0, none⟩ = some (.int .i64 a0_0) := (bkc BK208.out 0).trans rfl
       have hcz13_1 : wc.cell? ⟨gb208, 1, none⟩ = some (.int .i64 a0_1) := (bkc BK208.out 1).trans rfl
       have hcz13_2 : wc.cell? ⟨gb208, 2, none⟩ = some (.slice A0_2 l0_2.length c0_2) := (bkc BK208.out 2).trans rfl
       have hcz13_3 : wc.cell? ⟨gb208, 3, none⟩ = some (.slice A0_3 l0_3.length c0_3) := (bkc BK208.out 3).trans rfl
       have hcz13_4 : wc.cell? ⟨gb208, 4, none⟩ = some (.slice A0_4 l0_4.length c0_4) := (bkc BK208.out 4).trans rfl
       have hcz13_5 : wc.cell? ⟨gb208, 5, none⟩ = some (.int .i64 a0_5) := (bkc BK208.out 5).trans rfl
       have hcz13_6 : wc.cell? ⟨gb208, 6, none⟩ = some (.int .i64 a0_6) := (bkc BK208.out 6).trans rfl
       have hcz13_7 : wc.cell? ⟨gb208, 7, none⟩ = some (.int .i64 a0_7) := (bkc BK208.out 7).trans rfl
       have hcz13_8 : wc.cell? ⟨gb208, 8, none⟩ = some (.int .i64 a0_8) := (bkc BK208.out 8).trans rfl
       have hcz13_9 : wc.cell? ⟨gb208, 9, none⟩ = some (.slice A0_9 l0_9.length c0_9) := (bkc BK208.out 9).trans rfl
       have hcz13_10 : wc.cell? ⟨gb208, 10, none⟩ = some (.int .i64 a0_10) := (bkc BK208.out 10).trans rfl
       have hcz13_11 : wc.cell? ⟨gb208, 11, none⟩ = some (.bool a0_11) := (bkc BK208.out 11).trans rfl
       have hfz13_0 := bkz BK208.out 0
       have hfz13_1 := bkz BK208.out 1
       have hfz13_2 := bkz BK208.out 2
       have hfz13_3 := bkz BK208.out 3
       have hfz13_4 := bkz BK208.out 4
       have hfz13_5 := bkz BK208.out 5
       have hfz13_6 := bkz BK208.out 6
       have hfz13_7 := bkz BK208.out 7
       have hfz13_8 := bkz BK208.out 8
       have hfz13_9 := bkz BK208.out 9
       have hfz13_10 := bkz BK208.out 10
       have hfz13_11 := bkz BK208.out 11
       go_wp2
       go_meet
       case rel => exact ⟨_, ((a0_8 == 0)), (by first | rfl | (simp; done) | (simp [*]; done)), H', ⟨by have := HJ1.out; have := HJ6.out; first | omega | exact Nat.le_refl _⟩, ⟨by (with_reducible repeat (first | refine bkN ?_ _ | refine bkd ?_ | refine bka ?_ _)); exact BK208.out⟩, ⟨by repeat (first | (with_reducible first | exact HB.out | apply bwa | apply pwN | apply bwd | refine bws ?_ GE208.out) | exact HB.out)⟩⟩
      ·rw [if_neg c12] at H
       have c12b0 : (a0_7 == 0) = false := beq_eq_false_iff_ne.mpr c12
       have c12b1 : (a0_7 != 0) = true := bne_iff_ne.mpr c12
       (first | rw [c12b0] | (simp only [i64_w, i32_w]; rw [c12b0]) | skip)
       have H' := As0.mk H
       clear H
       have hcz14_0 : wc.cell? ⟨gb208, 0, none⟩ = some (.int .i64 a0_0) := (bkc BK208.out 0).trans rfl
       have hcz14_1 : wc.cell? ⟨gb208, 1, none⟩ = some (.int .i64 a0_1) := (bkc BK208.out 1).trans rfl
       have hcz14_2 : wc.cell? ⟨gb208, 2, none⟩ = some (.slice A0_2 l0_2.length c0_2) := (bkc BK208.out 2).trans rfl
       have hcz14_3 : wc.cell? ⟨gb208, 3, none⟩ = some (.slice A0_3 l0_3.length c0_3) := (bkc BK208.out 3).trans rfl
       have hcz14_4 : wc.cell? ⟨gb208, 4, none⟩ = some (.slice A0_4 l0_4.length c0_4) := (bkc BK208.out 4).trans rfl
       have hcz14_5 : wc.cell? ⟨gb208, 5, none⟩ = some (.int .i64 a0_5) := (bkc BK208.out 5).trans rfl
       have hcz14_6 : wc.cell? ⟨gb208, 6, none⟩ = some (.int .i64 a0_6) := (bkc BK208.out 6).trans rfl
       have hcz14_7 : wc.cell? ⟨gb208, 7, none⟩ = some (.int .i64 a0_7) := (bkc BK208.out 7).trans rfl
       have hcz14_8 : wc.cell? ⟨gb208, 8, none⟩ = some (.int .i64 a0_8) := (bkc BK208.out 8).trans rfl
       have hcz14_9 : wc.cell? ⟨gb208, 9, none⟩ = some (.slice A0_9 l0_9.length c0_9) := (bkc BK208.out 9).trans rfl
       have hcz14_10 : wc.cell? ⟨gb208, 10, none⟩ = some (.int .i64 a0_10) := (bkc BK208.out 10).trans rfl
       have hcz14_11 : wc.cell? ⟨gb208, 11, none⟩ = some (.bool a0_11) := (bkc BK208.out 11).trans rfl
       have hfz14_0 := bkz BK208.out 0
       have hfz14_1 := bkz BK208.out 1
       have hfz14_2 := bkz BK208.out 2
       have hfz14_3 := bkz BK208.out 3
       have hfz14_4 := bkz BK208.out 4
       have hfz14_5 := bkz BK208.out 5
       have hfz14_6 := bkz BK208.out 6
       have hfz14_7 := bkz BK208.out 7
       have hfz14_8 := bkz BK208.out 8
       have hfz14_9 := bkz BK208.out 9
       have hfz14_10 := bkz BK208.out 10
       have hfz14_11 := bkz BK208.out 11
       go_wp2
       go_meet
       case rel => exact ⟨_, (false), (by first | rfl | (simp; done) | (simp [*]; done)), H', ⟨by have := HJ1.out; have := HJ6.out; first | omega | exact Nat.le_refl _⟩, ⟨by (with_reducible repeat (first | refine bkN ?_ _ | refine bkd ?_ | refine bka ?_ _)); exact BK208.out⟩, ⟨by repeat (first | (with_reducible first | exact HB.out | apply bwa | apply pwN | apply bwd | refine bws ?_ GE208.out) | exact HB.out)⟩⟩
     case rest =>
      clear HC11
      try clear c1
      try clear p2
      try clear c4
      try clear c4b0
      try clear c4b1
      try clear c5
      try clear c8
      try clear c8b0
      try clear c8b1
      try clear c8b2
      try clear c12
      try clear c12b0
      try clear c12b1
      try clear hcz10_0
      try clear hcz10_1
      try clear hcz10_10
      try clear hcz10_11
      try clear hcz10_2
      try clear hcz10_3
      try clear hcz10_4
      try clear hcz10_5
      try clear hcz10_6
      try clear hcz10_7
      try clear hcz10_8
      try clear hcz10_9
      try clear hcz13_0
      try clear hcz13_1
      try clear hcz13_10
      try clear hcz13_11
      try clear hcz13_2
      try clear hcz13_3
      try clear hcz13_4
      try clear hcz13_5
      try clear hcz13_6
      try clear hcz13_7
      try clear hcz13_8
      try clear hcz13_9
      try clear hcz14_0
      try clear hcz14_1
      try clear hcz14_10
      try clear hcz14_11
      try clear hcz14_2
      try clear hcz14_3
      try clear hcz14_4
      try clear hcz14_5
      try clear hcz14_6
      try clear hcz14_7
      try clear hcz14_8
      try clear hcz14_9
      try clear hcz5_0
      try clear hcz5_1
      try clear hcz5_10
      try clear hcz5_11
      try clear hcz5_2
      try clear hcz5_3
      try clear hcz5_4
      try clear hcz5_5
      try clear hcz5_6
      try clear hcz5_7
      try clear hcz5_8
      try clear hcz5_9
      try clear hcz6_0
      try clear hcz6_1
      try clear hcz6_10
      try clear hcz6_11
      try clear hcz6_2
      try clear hcz6_3
      try clear hcz6_4
      try clear hcz6_5
      try clear hcz6_6
      try clear hcz6_7
      try clear hcz6_8
      try clear hcz6_9
      try clear hcz9_0
      try clear hcz9_1
      try clear hcz9_10
      try clear hcz9_11
      try clear hcz9_2
      try clear hcz9_3
      try clear hcz9_4
      try clear hcz9_5
      try clear hcz9_6
      try clear hcz9_7
      try clear hcz9_8
      try clear hcz9_9
      try clear hfz10_0
      try clear hfz10_1
      try clear hfz10_10
      try clear hfz10_11
      try clear hfz10_2
      try clear hfz10_3
      try clear hfz10_4
      try clear hfz10_5
      try clear hfz10_6
      try clear hfz10_7
      try clear hfz10_8
      try clear hfz10_9
      try clear hfz13_0
      try clear hfz13_1
      try clear hfz13_10
      try clear hfz13_11
      try clear hfz13_2
      try clear hfz13_3
      try clear hfz13_4
      try clear hfz13_5
      try clear hfz13_6
      try clear hfz13_7
      try clear hfz13_8
      try clear hfz13_9
      try clear hfz14_0
      try clear hfz14_1
      try clear hfz14_10
      try clear hfz14_11
      try clear hfz14_2
      try clear hfz14_3
      try clear hfz14_4
      try clear hfz14_5
      try clear hfz14_6
      try clear hfz14_7
      try clear hfz14_8
      try clear hfz14_9
      try clear hfz5_0
      try clear hfz5_1
      try clear hfz5_10
      try clear hfz5_11
      try clear hfz5_2
      try clear hfz5_3
      try clear hfz5_4
      try clear hfz5_5
      try clear hfz5_6
      try clear hfz5_7
      try clear hfz5_8
      try clear hfz5_9
      try clear hfz6_0
      try clear hfz6_1
      try clear hfz6_10
      try clear hfz6_11
      try clear hfz6_2
      try clear hfz6_3
      try clear hfz6_4
      try clear hfz6_5
      try clear hfz6_6
      try clear hfz6_7
      try clear hfz6_8
      try clear hfz6_9
      try clear hfz9_0
      try clear hfz9_1
      try clear hfz9_10
      try clear hfz9_11
      try clear hfz9_2
      try clear hfz9_3
      try clear hfz9_4
      try clear hfz9_5
      try clear hfz9_6
      try clear hfz9_7
      try clear hfz9_8
      try clear hfz9_9
      try clear p2
      obtain ⟨kq, x5_10, rfl, HA, HJ10, BK208, HB⟩ := hcut
      cases kq with
      | zero => exact absurd HA.out (by simp [item_unused.j2])
      | succ kj10 =>
       have H := HA.out
       clear HA
       simp only [item_unused.j2] at H
       by_cases c15 : a0_1 = 0
       ·rw [if_pos c15] at H
        have c15b0 : (a0_1 == 0) = true := beq_iff_eq.mpr c15
        have c15b1 : (a0_1 != 0) = false := bne_eq_false_iff_eq.mpr c15
        clear c15
        by_cases c16 : (l0_3.length : Int) = 0
        ·rw [if_pos c16] at H
         have c16b0 : ((l0_3.length : Int) == 0) = true := beq_iff_eq.mpr c16
         have c16b1 : ((l0_3.length : Int) != 0) = false := bne_eq_false_iff_eq.mpr c16
         clear c16
         by_cases c17 : x3_1 = true
         ·subst c17
          have H1 : (if x4_6 = true then (some x5_10) else (some false)) = some r := by rw [if_pos rfl] at H; exact H
          clear H
          have H := H1
          clear H1
          by_cases c18 : x4_6 = true
          ·subst c18
           have H1 : (some x5_10) = some r := by rw [if_pos rfl] at H; exact H
           clear H
           have H := H1
           clear H1
           obtain rfl := Option.some.inj H
           have hcz19_0 : wc.cell? ⟨gb208, 0, none⟩ = some (.int .i64 a0_0) := (bkc BK208.out 0).trans rfl
           have hcz19_1 : wc.cell? ⟨gb208, 1, none⟩ = some (.int .i64 a0_1) := (bkc BK208.out 1).trans rfl
           have hcz19_2 : wc.cell? ⟨gb208, 2, none⟩ = some (.slice A0_2 l0_2.length c0_2) := (bkc BK208.out 2).trans rfl
           have hcz19_3 : wc.cell? ⟨gb208, 3, none⟩ = some (.slice A0_3 l0_3.length c0_3) := (bkc BK208.out 3).trans rfl
           have hcz19_4 : wc.cell? ⟨gb208, 4, none⟩ = some (.slice A0_4 l0_4.length c0_4) := (bkc BK208.out 4).trans rfl
           have hcz19_5 : wc.cell? ⟨gb208, 5, none⟩ = some (.int .i64 a0_5) := (bkc BK208.out 5).trans rfl
           have hcz19_6 : wc.cell? ⟨gb208, 6, none⟩ = some (.int .i64 a0_6) := (bkc BK208.out 6).trans rfl
           have hcz19_7 : wc.cell? ⟨gb208, 7, none⟩ = some (.int .i64 a0_7) := (bkc BK208.out 7).trans rfl
           have hcz19_8 : wc.cell? ⟨gb208, 8, none⟩ = some (.int .i64 a0_8) := (bkc BK208.out 8).trans rfl
           have hcz19_9 : wc.cell? ⟨gb208, 9, none⟩ = some (.slice A0_9 l0_9.length c0_9) := (bkc BK208.out 9).trans rfl
           have hcz19_10 : wc.cell? ⟨gb208, 10, none⟩ = some (.int .i64 a0_10) := (bkc BK208.out 10).trans rfl
           have hcz19_11 : wc.cell? ⟨gb208, 11, none⟩ = some (.bool a0_11) := (bkc BK208.out 11).trans rfl
           have hfz19_0 := bkz BK208.out 0
           have hfz19_1 := bkz BK208.out 1
           have hfz19_2 := bkz BK208.out 2
           have hfz19_3 := bkz BK208.out 3
           have hfz19_4 := bkz BK208.out 4
           have hfz19_5 := bkz BK208.out 5
           have hfz19_6 := bkz BK208.out 6
           have hfz19_7 := bkz BK208.out 7
           have hfz19_8 := bkz BK208.out 8
           have hfz19_9 := bkz BK208.out 9
           have hfz19_10 := bkz BK208.out 10
           have hfz19_11 := bkz BK208.out 11
           go_wp2
           go_ret
           exact ⟨by first | rfl | (simp [errW_none, errW_some] <;> rfl) | (simp [*, errW_none, errW_some] <;> rfl), by repeat (first | (with_reducible first | exact HB.out | apply bwa | apply pwN | apply bwd | refine bws ?_ GE208.out) | exact HB.out)⟩
          ·replace c18 := Bool.eq_false_iff.mpr c18
           subst c18
           have H1 : (some false) = some r := by rw [if_neg (show ¬ (false = true) by decide)] at H; exact H
           clear H
           have H := H1
           clear H1
           obtain rfl := Option.some.inj H
           have hcz20_0 : wc.cell? ⟨gb208, 0, none⟩ = some (.int .i64 a0_0) := (bkc BK208.out 0).trans rfl
           have hcz20_1 : wc.cell? ⟨gb208, 1, none⟩ = some (.int .i64 a0_1) := (bkc BK208.out 1).trans rfl
           have hcz20_2 : wc.cell? ⟨gb208, 2, none⟩ = some (.slice A0_2 l0_2.length c0_2) := (bkc BK208.out 2).trans rfl
           have hcz20_3 : wc.cell? ⟨gb208, 3, none⟩ = some (.slice A0_3 l0_3.length c0_3) := (bkc BK208.out 3).trans rfl
           have hcz20_4 : wc.cell? ⟨gb208, 4, none⟩ = some (.slice A0_4 l0_4.length c0_4) := (bkc BK208.out 4).trans rfl
           have hcz20_5 : wc.cell? ⟨gb208, 5, none⟩ = some (.int .i64 a0_5) := (bkc BK208.out 5).trans rfl
           have hcz20_6 : wc.cell? ⟨gb208, 6, none⟩ = some (.int .i64 a0_6) := (bkc BK208.out 6).trans rfl
           have hcz20_7 : wc.cell? ⟨gb208, 7, none⟩ = some (.int .i64 a0_7) := (bkc BK208.out 7).trans rfl
           have hcz20_8 : wc.cell? ⟨gb208, 8, none⟩ = some (.int .i64 a0_8) := (bkc BK208.out 8).trans rfl
           have hcz20_9 : wc.cell? ⟨gb208, 9, none⟩ = some (.slice A0_9 l0_9.length c0_9) := (bkc BK208.out 9).trans rfl
           have hcz20_10 : wc.cell? ⟨gb208, 10, none⟩ = some (.int .i64 a0_10) := (bkc BK208.out 10).trans rfl
           have hcz20_11 : wc.cell? ⟨gb208, 11, none⟩ = some (.bool a0_11) := (bkc BK208.out 11).trans rfl
           have hfz20_0 := bkz BK208.out 0
           have hfz20_1 := bkz BK208.out 1
           have hfz20_2 := bkz BK208.out 2
           have hfz20_3 := bkz BK208.out 3
           have hfz20_4 := bkz BK208.out 4
           have hfz20_5 := bkz BK208.out 5
           have hfz20_6 := bkz BK208.out 6
           have hfz20_7 := bkz BK208.out 7
           have hfz20_8 := bkz BK208.out 8
           have hfz20_9 := bkz BK208.out 9
           have hfz20_10 := bkz BK208.out 10
           have hfz20_11 := bkz BK208.out 11
           go_wp2
           go_ret
           exact ⟨by first | rfl | (simp [errW_none, errW_some] <;> rfl) | (simp [*, errW_none, errW_some] <;> rfl), by repeat (first | (with_reducible first | exact HB.out | apply bwa | apply pwN | apply bwd | refine bws ?_ GE208.out) | exact HB.out)⟩
         ·replace c17 := Bool.eq_false_iff.mpr c17
          subst c17
          have H1 : (some false) = some r := by rw [if_neg (show ¬ (false = true) by decide)] at H; exact H
          clear H
          have H := H1
          clear H1
          obtain rfl := Option.some.inj H
          have hcz21_0 : wc.cell? ⟨gb208, 0, none⟩ = some (.int .i64 a0_0) := (bkc BK208.out 0).trans rfl
          have hcz21_1 : wc.cell? ⟨gb208, 1, none⟩ = some (.int .i64 a0_1) := (bkc BK208.out 1).trans rfl
          have hcz21_2 : wc.cell? ⟨gb208, 2, none⟩ = some (.slice A0_2 l0_2.length c0_2) := (bkc BK208.out 2).trans rfl
          have hcz21_3 : wc.cell? ⟨gb208, 3, none⟩ = some (.slice A0_3 l0_3.length c0_3) := (bkc BK208.out 3).trans rfl
          have hcz21_4 : wc.cell? ⟨gb208, 4, none⟩ = some (.slice A0_4 l0_4.length c0_4) := (bkc BK208.out 4).trans rfl
          have hcz21_5 : wc.cell? ⟨gb208, 5, none⟩ = some (.int .i64 a0_5) := (bkc BK208.out 5).trans rfl
          have hcz21_6 : wc.cell? ⟨gb208, 6, none⟩ = some (.int .i64 a0_6) := (bkc BK208.out 6).trans rfl
          have hcz21_7 : wc.cell? ⟨gb208, 7, none⟩ = some (.int .i64 a0_7) := (bkc BK208.out 7).trans rfl
          have hcz21_8 : wc.cell? ⟨gb208, 8, none⟩ = some (.int .i64 a0_8) := (bkc BK208.out 8).trans rfl
          have hcz21_9 : wc.cell? ⟨gb208, 9, none⟩ = some (.slice A0_9 l0_9.length c0_9) := (bkc BK208.out 9).trans rfl
          have hcz21_10 : wc.cell? ⟨gb208, 10, none⟩ = some (.int .i64 a0_10) := (bkc BK208.out 10).trans rfl
          have hcz21_11 : wc.cell? ⟨gb208, 11, none⟩ = some (.bool a0_11) := (bkc BK208.out 11).trans rfl
          have hfz21_0 := bkz BK208.out 0
          have hfz21_1 := bkz BK208.out 1
          have hfz21_2 := bkz BK208.out 2
          have hfz21_3 := bkz BK208.out 3
          have hfz21_4 := bkz BK208.out 4
          have hfz21_5 := bkz BK208.out 5
          have hfz21_6 := bkz BK208.out 6
          have hfz21_7 := bkz BK208.out 7
          have hfz21_8 := bkz BK208.out 8
          have hfz21_9 := bkz BK208.out 9
          have hfz21_10 := bkz BK208.out 10
          have hfz21_11 := bkz BK208.out 11
          go_wp2
          go_ret
          exact ⟨by first | rfl | (simp [errW_none, errW_some] <;> rfl) | (simp [*, errW_none, errW_some] <;> rfl), by repeat (first | (with_reducible first | exact HB.out | apply bwa | apply pwN | apply bwd | refine bws ?_ GE208.out) | exact HB.out)⟩
        ·rw [if_neg c16] at H
         have c16b0 : ((l0_3.length : Int) == 0) = false := beq_eq_false_iff_ne.mpr c16
         have c16b1 : ((l0_3.length : Int) != 0) = true := bne_iff_ne.mpr c16
         have c16b2 : ¬ (l0_3 = []) := fun h_ => c16 (by rw [h_]; rfl)
         obtain rfl := Option.some.inj H
         have hcz22_0 : wc.cell? ⟨gb208, 0, none⟩ = some (.int .i64 a0_0) := (bkc BK208.out 0).trans rfl
         have hcz22_1 : wc.cell? ⟨gb208, 1, none⟩ = some (.int .i64 a0_1) := (bkc BK208.out 1).trans rfl
         have hcz22_2 : wc.cell? ⟨gb208, 2, none⟩ = some (.slice A0_2 l0_2.length c0_2) := (bkc BK208.out 2).trans rfl
         have hcz22_3 : wc.cell? ⟨gb208, 3, none⟩ = some (.slice A0_3 l0_3.length c0_3) := (bkc BK208.out 3).trans rfl
         have hcz22_4 : wc.cell? ⟨gb208, 4, none⟩ = some (.slice A0_4 l0_4.length c0_4) := (bkc BK208.out 4).trans rfl
         have hcz22_5 : wc.cell? ⟨gb208, 5, none⟩ = some (.int .i64 a0_5) := (bkc BK208.out 5).trans rfl
         have hcz22_6 : wc.cell? ⟨gb208, 6, none⟩ = some (.int .i64 a0_6) := (bkc BK208.out 6).trans rfl
         have hcz22_7 : wc.cell? ⟨gb208, 7, none⟩ = some (.int .i64 a0_7) := (bkc BK208.out 7).trans rfl
         have hcz22_8 : wc.cell? ⟨gb208, 8, none⟩ = some (.int .i64 a0_8) := (bkc BK208.out 8).trans rfl
         have hcz22_9 : wc.cell? ⟨gb208, 9, none⟩ = some (.slice A0_9 l0_9.length c0_9) := (bkc BK208.out 9).trans rfl
         have hcz22_10 : wc.cell? ⟨gb208, 10, none⟩ = some (.int .i64 a0_10) := (bkc BK208.out 10).trans rfl
         have hcz22_11 : wc.cell? ⟨gb208, 11, none⟩ = some (.bool a0_11) := (bkc BK208.out 11).trans rfl
         have hfz22_0 := bkz BK208.out 0
         have hfz22_1 := bkz BK208.out 1
         have hfz22_2 := bkz BK208.out 2
         have hfz22_3 := bkz BK208.out 3
         have hfz22_4 := bkz BK208.out 4
         have hfz22_5 := bkz BK208.out 5
         have hfz22_6 := bkz BK208.out 6
         have hfz22_7 := bkz BK208.out 7
         have hfz22_8 := bkz BK208.out 8
         have hfz22_9 := bkz BK208.out 9
         have hfz22_10 := bkz BK208.out 10
         have hfz22_11 := bkz BK208.out 11
         go_wp2
         go_ret
         exact ⟨by first | rfl | (simp [errW_none, errW_some] <;> rfl) | (simp [*, errW_none, errW_some] <;> rfl), by repeat (first | (with_reducible first | exact HB.out | apply bwa | apply pwN | apply bwd | refine bws ?_ GE208.out) | exact HB.out)⟩
       ·rw [if_neg c15] at H
        have c15b0 : (a0_1 == 0) = false := beq_eq_false_iff_ne.mpr c15
        have c15b1 : (a0_1 != 0) = true := bne_iff_ne.mpr c15
        by_cases c23 : a0_1 = 1
        ·rw [if_pos c23] at H
         have c23b0 : (a0_1 == 1) = true := beq_iff_eq.mpr c23
         have c23b1 : (a0_1 != 1) = false := bne_eq_false_iff_eq.mpr c23
         clear c23
         by_cases c24 : (l0_2.length : Int) = 0
         ·rw [if_pos c24] at H
          have c24b0 : ((l0_2.length : Int) == 0) = true := beq_iff_eq.mpr c24
          have c24b1 : ((l0_2.length : Int) != 0) = false := bne_eq_false_iff_eq.mpr c24
          clear c24
          by_cases c25 : x3_1 = true
          ·subst c25
           have H1 : (if x4_6 = true then (some x5_10) else (some false)) = some r := by rw [if_pos rfl] at H; exact H
           clear H
           have H := H1
           clear H1
           by_cases c26 : x4_6 = true
           ·subst c26
            have H1 : (some x5_10) = some r := by rw [if_pos rfl] at H; exact H
            clear H
            have H := H1
            clear H1
            obtain rfl := Option.some.inj H
            have hcz27_0 : wc.cell? ⟨gb208, 0, none⟩ = some (.int .i64 a0_0) := (bkc BK208.out 0).trans rfl
            have hcz27_1 : wc.cell? ⟨gb208, 1, none⟩ = some (.int .i64 a0_1) := (bkc BK208.out 1).trans rfl
            have hcz27_2 : wc.cell? ⟨gb208, 2, none⟩ = some (.slice A0_2 l0_2.length c0_2) := (bkc BK208.out 2).trans rfl
            have hcz27_3 : wc.cell? ⟨gb208, 3, none⟩ = some (.slice A0_3 l0_3.length c0_3) := (bkc BK208.out 3).trans rfl
            have hcz27_4 : wc.cell? ⟨gb208, 4, none⟩ = some (.slice A0_4 l0_4.length c0_4) := (bkc BK208.out 4).trans rfl
            have hcz27_5 : wc.cell? ⟨gb208, 5, none⟩ = some (.int .i64 a0_5) := (bkc BK208.out 5).trans rfl
            have hcz27_6 : wc.cell? ⟨gb208, 6, none⟩ = some (.int .i64 a0_6) := (bkc BK208.out 6).trans rfl
            have hcz27_7 : wc.cell? ⟨gb208, 7, none⟩ = some (.int .i64 a0_7) := (bkc BK208.out 7).trans rfl
            have hcz27_8 : wc.cell? ⟨gb208, 8, none⟩ = some (.int .i64 a0_8) := (bkc BK208.out 8).trans rfl
            have hcz27_9 : wc.cell? ⟨gb208, 9, none⟩ = some (.slice A0_9 l0_9.length c0_9) := (bkc BK208.out 9).trans rfl
            have hcz27_10 : wc.cell? ⟨gb208, 10, none⟩ = some (.int .i64 a0_10) := (bkc BK208.out 10).trans rfl
            have hcz27_11 : wc.cell? ⟨gb208, 11, none⟩ = some (.bool a0_11) := (bkc BK208.out 11).trans rfl
            have hfz27_0 := bkz BK208.out 0
            have hfz27_1 := bkz BK208.out 1
            have hfz27_2 := bkz BK208.out 2
            have hfz27_3 := bkz BK208.out 3
            have hfz27_4 := bkz BK208.out 4
            have hfz27_5 := bkz BK208.out 5
            have hfz27_6 := bkz BK208.out 6
            have hfz27_7 := bkz BK208.out 7
            have hfz27_8 := bkz BK208.out 8
            have hfz27_9 := bkz BK208.out 9
            have hfz27_10 := bkz BK208.out 10
            have hfz27_11 := bkz BK208.out 11
            go_wp2
            go_ret
            exact ⟨by first | rfl | (simp [errW_none, errW_some] <;> rfl) | (simp [*, errW_none, errW_some] <;> rfl), by repeat (first | (with_reducible first | exact HB.out | apply bwa | apply pwN | apply bwd | refine bws ?_ GE208.out) | exact HB.out)⟩
           ·replace c26 := Bool.eq_false_iff.mpr c26
            subst c26
            have H1 : (some false) = some r := by rw [if_neg (show ¬ (false = true) by decide)] at H; exact H
            clear H
            have H := H1
            clear H1
            obtain rfl := Option.some.inj H
            have hcz28_0 : wc.cell? ⟨gb208, 0, none⟩ = some (.int .i64 a0_0) := (bkc BK208.out 0).trans rfl
            have hcz28_1 : wc.cell? ⟨gb208, 1, none⟩ = some (.int .i64 a0_1) := (bkc BK208.out 1).trans rfl
            have hcz28_2 : wc.cell? ⟨gb208, 2, none⟩ = some (.slice A0_2 l0_2.length c0_2) := (bkc BK208.out 2).trans rfl
            have hcz28_3 : wc.cell? ⟨gb208, 3, none⟩ = some (.slice A0_3 l0_3.length c0_3) := (bkc BK208.out 3).trans rfl
            have hcz28_4 : wc.cell? ⟨gb208, 4, none⟩ = some (.slice A0_4 l0_4.length c0_4) := (bkc BK208.out 4).trans rfl
            have hcz28_5 : wc.cell? ⟨gb208, 5, none⟩ = some (.int .i64 a0_5) := (bkc BK208.out 5).trans rfl
            have hcz28_6 : wc.cell? ⟨gb208, 6, none⟩ = some (.int .i64 a0_6) := (bkc BK208.out 6).trans rfl
            have hcz28_7 : wc.cell? ⟨gb208, 7, none⟩ = some (.int .i64 a0_7) := (bkc BK208.out 7).trans rfl
            have hcz28_8 : wc.cell? ⟨gb208, 8, none⟩ = some (.int .i64 a0_8) := (bkc BK208.out 8).trans rfl
            have hcz28_9 : wc.cell? ⟨gb208, 9, none⟩ = some (.slice A0_9 l0_9.length c0_9) := (bkc BK208.out 9).trans rfl
            have hcz28_10 : wc.cell? ⟨gb208, 10, none⟩ = some (.int .i64 a0_10) := (bkc BK208.out 10).trans rfl
            have hcz28_11 : wc.cell? ⟨gb208, 11, none⟩ = some (.bool a0_11) := (bkc BK208.out 11).trans rfl
            have hfz28_0 := bkz BK208.out 0
            have hfz28_1 := bkz BK208.out 1
            have hfz28_2 := bkz BK208.out 2
            have hfz28_3 := bkz BK208.out 3
            have hfz28_4 := bkz BK208.out 4
            have hfz28_5 := bkz BK208.out 5
            have hfz28_6 := bkz BK208.out 6
            have hfz28_7 := bkz BK208.out 7
            have hfz28_8 := bkz BK208.out 8
            have hfz28_9 := bkz BK208.out 9
            have hfz28_10 := bkz BK208.out 10
            have hfz28_11 := bkz BK208.out 11
            go_wp2
            go_ret
            exact ⟨by first | rfl | (simp [errW_none, errW_some] <;> rfl) | (simp [*, errW_none, errW_some] <;> rfl), by repeat (first | (with_reducible first | exact HB.out | apply bwa | apply pwN | apply bwd | refine bws ?_ GE208.out) | exact HB.out)⟩
          ·replace c25 := Bool.eq_false_iff.mpr c25
           subst c25
           have H1 : (some false) = some r := by rw [if_neg (show ¬ (false = true) by decide)] at H; exact H
           clear H
           have H := H1
           clear H1
           obtain rfl := Option.some.inj H
           have hcz29_0 : wc.cell? ⟨gb208, 0, none⟩ = some (.int .i64 a0_0) := (bkc BK208.out 0).trans rfl
           have hcz29_1 : wc.cell? ⟨gb208, 1, none⟩ = some (.int .i64 a0_1) := (bkc BK208.out 1).trans rfl
           have hcz29_2 : wc.cell? ⟨gb208, 2, none⟩ = some (.slice A0_2 l0_2.length c0_2) := (bkc BK208.out 2).trans rfl
           have hcz29_3 : wc.cell? ⟨gb208, 3, none⟩ = some (.slice A0_3 l0_3.length c0_3) := (bkc BK208.out 3).trans rfl
           have hcz29_4 : wc.cell? ⟨gb208, 4, none⟩ = some (.slice A0_4 l0_4.length c0_4) := (bkc BK208.out 4).trans rfl
           have hcz29_5 : wc.cell? ⟨gb208, 5, none⟩ = some (.int .i64 a0_5) := (bkc BK208.out 5).trans rfl
           have hcz29_6 : wc.cell? ⟨gb208, 6, none⟩ = some (.int .i64 a0_6) := (bkc BK208.out 6).trans rfl
           have hcz29_7 : wc.cell? ⟨gb208, 7, none⟩ = some (.int .i64 a0_7) := (bkc BK208.out 7).trans rfl
           have hcz29_8 : wc.cell? ⟨gb208, 8, none⟩ = some (.int .i64 a0_8) := (bkc BK208.out 8).trans rfl
           have hcz29_9 : wc.cell? ⟨gb208, 9, none⟩ = some (.slice A0_9 l0_9.length c0_9) := (bkc BK208.out 9).trans rfl
           have hcz29_10 : wc.cell? ⟨gb208, 10, none⟩ = some (.int .i64 a0_10) := (bkc BK208.out 10).trans rfl
           have hcz29_11 : wc.cell? ⟨gb208, 11, none⟩ = some (.bool a0_11) := (bkc BK208.out 11).trans rfl
           have hfz29_0 := bkz BK208.out 0
           have hfz29_1 := bkz BK208.out 1
           have hfz29_2 := bkz BK208.out 2
           have hfz29_3 := bkz BK208.out 3
           have hfz29_4 := bkz BK208.out 4
           have hfz29_5 := bkz BK208.out 5
           have hfz29_6 := bkz BK208.out 6
           have hfz29_7 := bkz BK208.out 7
           have hfz29_8 := bkz BK208.out 8
           have hfz29_9 := bkz BK208.out 9
           have hfz29_10 := bkz BK208.out 10
           have hfz29_11 := bkz BK208.out 11
           go_wp2
           go_ret
           exact ⟨by first | rfl | (simp [errW_none, errW_some] <;> rfl) | (simp [*, errW_none, errW_some] <;> rfl), by repeat (first | (with_reducible first | exact HB.out | apply bwa | apply pwN | apply bwd | refine bws ?_ GE208.out) | exact HB.out)⟩
         ·rw [if_neg c24] at H
          have c24b0 : ((l0_2.length : Int) == 0) = false := beq_eq_false_iff_ne.mpr c24
          have c24b1 : ((l0_2.length : Int) != 0) = true := bne_iff_ne.mpr c24
          have c24b2 : ¬ (l0_2 = []) := fun h_ => c24 (by rw [h_]; rfl)
          obtain rfl := Option.some.inj H
          have hcz30_0 : wc.cell? ⟨gb208, 0, none⟩ = some (.int .i64 a0_0) := (bkc BK208.out 0).trans rfl
          have hcz30_1 : wc.cell? ⟨gb208, 1, none⟩ = some (.int .i64 a0_1) := (bkc BK208.out 1).trans rfl
          have hcz30_2 : wc.cell? ⟨gb208, 2, none⟩ = some (.slice A0_2 l0_2.length c0_2) := (bkc BK208.out 2).trans rfl
          have hcz30_3 : wc.cell? ⟨gb208, 3, none⟩ = some (.slice A0_3 l0_3.length c0_3) := (bkc BK208.out 3).trans rfl
          have hcz30_4 : wc.cell? ⟨gb208, 4, none⟩ = some (.slice A0_4 l0_4.length c0_4) := (bkc BK208.out 4).trans rfl
          have hcz30_5 : wc.cell? ⟨gb208, 5, none⟩ = some (.int .i64 a0_5) := (bkc BK208.out 5).trans rfl
          have hcz30_6 : wc.cell? ⟨gb208, 6, none⟩ = some (.int .i64 a0_6) := (bkc BK208.out 6).trans rfl
          have hcz30_7 : wc.cell? ⟨gb208, 7, none⟩ = some (.int .i64 a0_7) := (bkc BK208.out 7).trans rfl
          have hcz30_8 : wc.cell? ⟨gb208, 8, none⟩ = some (.int .i64 a0_8) := (bkc BK208.out 8).trans rfl
          have hcz30_9 : wc.cell? ⟨gb208, 9, none⟩ = some (.slice A0_9 l0_9.length c0_9) := (bkc BK208.out 9).trans rfl
          have hcz30_10 : wc.cell? ⟨gb208, 10, none⟩ = some (.int .i64 a0_10) := (bkc BK208.out 10).trans rfl
          have hcz30_11 : wc.cell? ⟨gb208, 11, none⟩ = some (.bool a0_11) := (bkc BK208.out 11).trans rfl
          have hfz30_0 := bkz BK208.out 0
          have hfz30_1 := bkz BK208.out 1
          have hfz30_2 := bkz BK208.out 2
          have hfz30_3 := bkz BK208.out 3
          have hfz30_4 := bkz BK208.out 4
          have hfz30_5 := bkz BK208.out 5
          have hfz30_6 := bkz BK208.out 6
          have hfz30_7 := bkz BK208.out 7
          have hfz30_8 := bkz BK208.out 8
          have hfz30_9 := bkz BK208.out 9
          have hfz30_10 := bkz BK208.out 10
          have hfz30_11 := bkz BK208.out 11
          go_wp2
          go_ret
          exact ⟨by first | rfl | (simp [errW_none, errW_some] <;> rfl) | (simp [*, errW_none, errW_some] <;> rfl), by repeat (first | (with_reducible first | exact HB.out | apply bwa | apply pwN | apply bwd | refine bws ?_ GE208.out) | exact HB.out)⟩
        ·rw [if_neg c23] at H
         have c23b0 : (a0_1 == 1) = false := beq_eq_false_iff_ne.mpr c23
         have c23b1 : (a0_1 != 1) = true := bne_iff_ne.mpr c23
         by_cases c31 : a0_1 = 2
         ·rw [if_pos c31] at H
          have c31b0 : (a0_1 == 2) = true := beq_iff_eq.mpr c31
          have c31b1 : (a0_1 != 2) = false := bne_eq_false_iff_eq.mpr c31
          clear c31
          by_cases c32 : (l0_2.length : Int) = 0
          ·rw [if_pos c32] at H
           have c32b0 : ((l0_2.length : Int) == 0) = true := beq_iff_eq.mpr c32
           have c32b1 : ((l0_2.length : Int) != 0) = false := bne_eq_false_iff_eq.mpr c32
           clear c32
           obtain rfl := Option.some.inj H
           have hcz33_0 : wc.cell? ⟨gb208, 0, none⟩ = some (.int .i64 a0_0) := (bkc BK208.out 0).trans rfl
           have hcz33_1 : wc.cell? ⟨gb208, 1, none⟩ = some (.int .i64 a0_1) := (bkc BK208.out 1).trans rfl
           have hcz33_2 : wc.cell? ⟨gb208, 2, none⟩ = some (.slice A0_2 l0_2.length c0_2) := (bkc BK208.out 2).trans rfl
           have hcz33_3 : wc.cell? ⟨gb208, 3, none⟩ = some (.slice A0_3 l0_3.length c0_3) := (bkc BK208.out 3).trans rfl
           have hcz33_4 : wc.cell? ⟨gb208, 4, none⟩ = some (.slice A0_4 l0_4.length c0_4) := (bkc BK208.out 4).trans rfl
           have hcz33_5 : wc.cell? ⟨gb208, 5, none⟩ = some (.int .i64 a0_5) := (bkc BK208.out 5).trans rfl
           have hcz33_6 : wc.cell? ⟨gb208, 6, none⟩ = some (.int .i64 a0_6) := (bkc BK208.out 6).trans rfl
           have hcz33_7 : wc.cell? ⟨gb208, 7, none⟩ = some (.int .i64 a0_7) := (bkc BK208.out 7).trans rfl
           have hcz33_8 : wc.cell? ⟨gb208, 8, none⟩ = some (.int .i64 a0_8) := (bkc BK208.out 8).trans rfl
           have hcz33_9 : wc.cell? ⟨gb208, 9, none⟩ = some (.slice A0_9 l0_9.length c0_9) := (bkc BK208.out 9).trans rfl
           have hcz33_10 : wc.cell? ⟨gb208, 10, none⟩ = some (.int .i64 a0_10) := (bkc BK208.out 10).trans rfl
           have hcz33_11 : wc.cell? ⟨gb208, 11, none⟩ = some (.bool a0_11) := (bkc BK208.out 11).trans rfl
           have hfz33_0 := bkz BK208.out 0
           have hfz33_1 := bkz BK208.out 1
           have hfz33_2 := bkz BK208.out 2
           have hfz33_3 := bkz BK208.out 3
           have hfz33_4 := bkz BK208.out 4
           have hfz33_5 := bkz BK208.out 5
           have hfz33_6 := bkz BK208.out 6
           have hfz33_7 := bkz BK208.out 7
           have hfz33_8 := bkz BK208.out 8
           have hfz33_9 := bkz BK208.out 9
           have hfz33_10 := bkz BK208.out 10
           have hfz33_11 := bkz BK208.out 11
           go_wp2
           go_ret
           exact ⟨by first | rfl | (simp [errW_none, errW_some] <;> rfl) | (simp [*, errW_none, errW_some] <;> rfl), by repeat (first | (with_reducible first | exact HB.out | apply bwa | apply pwN | apply bwd | refine bws ?_ GE208.out) | exact HB.out)⟩
          ·rw [if_neg c32] at H
           have c32b0 : ((l0_2.length : Int) == 0) = false := beq_eq_false_iff_ne.mpr c32
           have c32b1 : ((l0_2.length : Int) != 0) = true := bne_iff_ne.mpr c32
           have c32b2 : ¬ (l0_2 = []) := fun h_ => c32 (by rw [h_]; rfl)
           obtain rfl := Option.some.inj H
           have hcz34_0 : wc.cell? ⟨gb208, 0, none⟩ = some (.int .i64 a0_0) := (bkc BK208.out 0).trans rfl
           have hcz34_1 : wc.cell? ⟨gb208, 1, none⟩ = some (.int .i64 a0_1) := (bkc BK208.out 1).trans rfl
           have hcz34_2 : wc.cell? ⟨gb208, 2, none⟩ = some (.slice A0_2 l0_2.length c0_2) := (bkc BK208.out 2).trans rfl
           have hcz34_3 : wc.cell? ⟨gb208, 3, none⟩ = some (.slice A0_3 l0_3.length c0_3) := (bkc BK208.out 3).trans rfl
           have hcz34_4 : wc.cell? ⟨gb208, 4, none⟩ = some (.slice A0_4 l0_4.length c0_4) := (bkc BK208.out 4).trans rfl
           have hcz34_5 : wc.cell? ⟨gb208, 5, none⟩ = some (.int .i64 a0_5) := (bkc BK208.out 5).trans rfl
           have hcz34_6 : wc.cell? ⟨gb208, 6, none⟩ = some (.int .i64 a0_6) := (bkc BK208.out 6).trans rfl
           have hcz34_7 : wc.cell? ⟨gb208, 7, none⟩ = some (.int .i64 a0_7) := (bkc BK208.out 7).trans rfl
           have hcz34_8 : wc.cell? ⟨gb208, 8, none⟩ = some (.int .i64 a0_8) := (bkc BK208.out 8).trans rfl
           have hcz34_9 : wc.cell? ⟨gb208, 9, none⟩ = some (.slice A0_9 l0_9.length c0_9) := (bkc BK208.out 9).trans rfl
           have hcz34_10 : wc.cell? ⟨gb208, 10, none⟩ = some (.int .i64 a0_10) := (bkc BK208.out 10).trans rfl
           have hcz34_11 : wc.cell? ⟨gb208, 11, none⟩ = some (.bool a0_11) := (bkc BK208.out 11).trans rfl
           have hfz34_0 := bkz BK208.out 0
           have hfz34_1 := bkz BK208.out 1
           have hfz34_2 := bkz BK208.out 2
           have hfz34_3 := bkz BK208.out 3
           have hfz34_4 := bkz BK208.out 4
           have hfz34_5 := bkz BK208.out 5
           have hfz34_6 := bkz BK208.out 6
           have hfz34_7 := bkz BK208.out 7
           have hfz34_8 := bkz BK208.out 8
           have hfz34_9 := bkz BK208.out 9
           have hfz34_10 := bkz BK208.out 10
           have hfz34_11 := bkz BK208.out 11
           go_wp2
           go_ret
           exact ⟨by first | rfl | (simp [errW_none, errW_some] <;> rfl) | (simp [*, errW_none, errW_some] <;> rfl), by repeat (first | (with_reducible first | exact HB.out | apply bwa | apply pwN | apply bwd | refine bws ?_ GE208.out) | exact HB.out)⟩
         ·rw [if_neg c31] at H
          have c31b0 : (a0_1 == 2) = false := beq_eq_false_iff_ne.mpr c31
          have c31b1 : (a0_1 != 2) = true := bne_iff_ne.mpr c31
          by_cases c35 : (l0_2.length : Int) = 0
          ·rw [if_pos c35] at H
           have c35b0 : ((l0_2.length : Int) == 0) = true := beq_iff_eq.mpr c35
           have c35b1 : ((l0_2.length : Int) != 0) = false := bne_eq_false_iff_eq.mpr c35
           clear c35
           obtain rfl := Option.some.inj H
           have hcz36_0 : wc.cell? ⟨gb208, 0, none⟩ = some (.int .i64 a0_0) := (bkc BK208.out 0).trans rfl
           have hcz36_1 : wc.cell? ⟨gb208, 1, none⟩ = some (.int .i64 a0_1) := (bkc BK208.out 1).trans rfl
           have hcz36_2 : wc.cell? ⟨gb208, 2, none⟩ = some (.slice A0_2 l0_2.length c0_2) := (bkc BK208.out 2).trans rfl
           have hcz36_3 : wc.cell? ⟨gb208, 3, none⟩ = some (.slice A0_3 l0_3.length c0_3) := (bkc BK208.out 3).trans rfl
           have hcz36_4 : wc.cell? ⟨gb208, 4, none⟩ = some (.slice A0_4 l0_4.length c0_4) := (bkc BK208.out 4).trans rfl
           have hcz36_5 : wc.cell? ⟨gb208, 5, none⟩ = some (.int .i64 a0_5) := (bkc BK208.out 5).trans rfl
           have hcz36_6 : wc.cell? ⟨gb208, 6, none⟩ = some (.int .i64 a0_6) := (bkc BK208.out 6).trans rfl
           have hcz36_7 : wc.cell? ⟨gb208, 7, none⟩ = some (.int .i64 a0_7) := (bkc BK208.out 7).trans rfl
           have hcz36_8 : wc.cell? ⟨gb208, 8, none⟩ = some (.int .i64 a0_8) := (bkc BK208.out 8).trans rfl
           have hcz36_9 : wc.cell? ⟨gb208, 9, none⟩ = some (.slice A0_9 l0_9.length c0_9) := (bkc BK208.out 9).trans rfl
           have hcz36_10 : wc.cell? ⟨gb208, 10, none⟩ = some (.int .i64 a0_10) := (bkc BK208.out 10).trans rfl
           have hcz36_11 : wc.cell? ⟨gb208, 11, none⟩ = some (.bool a0_11) := (bkc BK208.out 11).trans rfl
           have hfz36_0 := bkz BK208.out 0
           have hfz36_1 := bkz BK208.out 1
           have hfz36_2 := bkz BK208.out 2
           have hfz36_3 := bkz BK208.out 3
           have hfz36_4 := bkz BK208.out 4
           have hfz36_5 := bkz BK208.out 5
           have hfz36_6 := bkz BK208.out 6
           have hfz36_7 := bkz BK208.out 7
           have hfz36_8 := bkz BK208.out 8
           have hfz36_9 := bkz BK208.out 9
           have hfz36_10 := bkz BK208.out 10
           have hfz36_11 := bkz BK208.out 11
           go_wp2
           go_ret
           exact ⟨by first | rfl | (simp [errW_none, errW_some] <;> rfl) | (simp [*, errW_none, errW_some] <;> rfl), by repeat (first | (with_reducible first | exact HB.out | apply bwa | apply pwN | apply bwd | refine bws ?_ GE208.out) | exact HB.out)⟩
          ·rw [if_neg c35] at H
           have c35b0 : ((l0_2.length : Int) == 0) = false := beq_eq_false_iff_ne.mpr c35
           have c35b1 : ((l0_2.length : Int) != 0) = true := bne_iff_ne.mpr c35
           have c35b2 : ¬ (l0_2 = []) := fun h_ => c35 (by rw [h_]; rfl)
           obtain rfl := Option.some.inj H
           have hcz37_0 : wc.cell? ⟨gb208, 0, none⟩ = some (.int .i64 a0_0) := (bkc BK208.out 0).trans rfl
           have hcz37_1 : wc.cell? ⟨gb208, 1, none⟩ = some (.int .i64 a0_1) := (bkc BK208.out 1).trans rfl
           have hcz37_2 : wc.cell? ⟨gb208, 2, none⟩ = some (.slice A0_2 l0_2.length c0_2) := (bkc BK208.out 2).trans rfl
           have hcz37_3 : wc.cell? ⟨gb208, 3, none⟩ = some (.slice A0_3 l0_3.length c0_3) := (bkc BK208.out 3).trans rfl
           have hcz37_4 : wc.cell? ⟨gb208, 4, none⟩ = some (.slice A0_4 l0_4.length c0_4) := (bkc BK208.out 4).trans rfl
           have hcz37_5 : wc.cell? ⟨gb208, 5, none⟩ = some (.int .i64 a0_5) := (bkc BK208.out 5).trans rfl
           have hcz37_6 : wc.cell? ⟨gb208, 6, none⟩ = some (.int .i64 a0_6) := (bkc BK208.out 6).trans rfl
           have hcz37_7 : wc.cell? ⟨gb208, 7, none⟩ = some (.int .i64 a0_7) := (bkc BK208.out 7).trans rfl
           have hcz37_8 : wc.cell? ⟨gb208, 8, none⟩ = some (.int .i64 a0_8) := (bkc BK208.out 8).trans rfl
           have hcz37_9 : wc.cell? ⟨gb208, 9, none⟩ = some (.slice A0_9 l0_9.length c0_9) := (bkc BK208.out 9).trans rfl
           have hcz37_10 : wc.cell? ⟨gb208, 10, none⟩ = some (.int .i64 a0_10) := (bkc BK208.out 10).trans rfl
           have hcz37_11 : wc.cell? ⟨gb208, 11, none⟩ = some (.bool a0_11) := (bkc BK208.out 11).trans rfl
           have hfz37_0 := bkz BK208.out 0
           have hfz37_1 := bkz BK208.out 1
           have hfz37_2 := bkz BK208.out 2
           have hfz37_3 := bkz BK208.out 3
           have hfz37_4 := bkz BK208.out 4
           have hfz37_5 := bkz BK208.out 5
           have hfz37_6 := bkz BK208.out 6
           have hfz37_7 := bkz BK208.out 7
           have hfz37_8 := bkz BK208.out 8
           have hfz37_9 := bkz BK208.out 9
           have hfz37_10 := bkz BK208.out 10
           have hfz37_11 := bkz BK208.out 11
           go_wp2
           go_ret
           exact ⟨by first | rfl | (simp [errW_none, errW_some] <;> rfl) | (simp [*, errW_none, errW_some] <;> rfl), by repeat (first | (with_reducible first | exact HB.out | apply bwa | apply pwN | apply bwd | refine bws ?_ GE208.out) | exact HB.out)⟩
end Go.Proofs.YtphkionjjhhhlaaGreat.Q
end
