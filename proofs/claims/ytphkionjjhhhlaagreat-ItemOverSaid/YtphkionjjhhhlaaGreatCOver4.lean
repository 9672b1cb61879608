/- Lemmas and walks of this proof (part 4). -/
import Derived.Test.YtphkionjjhhhlaaGreatCOver3
set_option linter.unusedVariables false
set_option linter.unusedSimpArgs false
section
namespace Go.Proofs.YtphkionjjhhhlaaGreat.Q
open Go.RowKit Go.Proofs.YtphkionjjhhhlaaGreatW.PrintWords Go.Proofs.YtphkionjjhhhlaaGreatW.PrintLast Go.Proofs.YtphkionjjhhhlaaGreatW.PrintMore
def item_Over.f (cw ch cb : Int) (ps : List (List Int)) (mw mh mb : Int) (ms : List (List Int)) (x y : Int) : Option (Int × Int × Int × List (List Int) × Int) :=
  (picture_Check.f cw ch cb ps).bind fun e0 => if e0 = 0 then (picture_Check.f mw mh mb ms).bind fun e1 => if e1 = 0 then (
    if (btw x (-64) 64 && btw y (-64) 64) = true then (if cb = mb ∧ ps.length = ms.length then (
      if (1 ≤ cw ∧ cw ≤ 1000 ∧ 1 ≤ ch ∧ ch ≤ 1000 ∧ 1 ≤ mw ∧ mw ≤ 1000 ∧ 1 ≤ mh ∧ mh ≤ 1000 ∧ 0 < ps.length ∧ ps.length ≤ 1000) ∧ (ps.all fun p => decide (p.length = cw.toNat * ch.toNat)) = true ∧ (ms.all fun p => decide (p.length = mw.toNat * mh.toNat)) = true then some (cw, ch, cb, putP cw ch x y mw.toNat (mw.toNat * mh.toNat) ps ms, 0) else none)
      else some (0, 0, 0, [], 151)) else some (0, 0, 0, [], 1)) else some (0, 0, 0, [], e1) else some (0, 0, 0, [], e0)
set_option maxHeartbeats 32000000 in
set_option maxRecDepth 100000 in
theorem item_Over.calls (a0_0 : Int) (a0_1 : Int) (a0_2 : Int) (A0_3 : Option Addr) (c0_3 : Nat) (l0_3 : List (List Int)) (a1_0 : Int) (a1_1 : Int) (a1_2 : Int) (A1_3 : Option Addr) (c1_3 : Nat) (l1_3 : List (List Int)) (a2 : Int) (a3 : Int) (r1 : Int) (r2 : Int) (r3 : Int) (r4 : List (List Int)) (r5 : Int) (w : World) (hr0_3 : Kd.C (Kd.slice 3 (Kd.int .i64)) w A0_3 l0_3.length l0_3) (hc0_3 : l0_3.length ≤ c0_3) (hr1_3 : Kd.C (Kd.slice 3 (Kd.int .i64)) w A1_3 l1_3.length l1_3) (hc1_3 : l1_3.length ≤ c1_3) (h : item_Over.f a0_0 a0_1 a0_2 l0_3 a1_0 a1_1 a1_2 l1_3 a2 a3 = some (r1, r2, r3, r4, r5)) :
    Calls Tryz.prog 25 #[.agg #[.int .i64 a0_0, .int .i64 a0_1, .int .i64 a0_2, .slice A0_3 l0_3.length c0_3], .agg #[.int .i64 a1_0, .int .i64 a1_1, .int .i64 a1_2, .slice A1_3 l1_3.length c1_3], .int .i64 a2, .int .i64 a3] w fun e w' => ∃ v3_ : Value, e = .returned (.tuple #[.agg #[.int .i64 r1, .int .i64 r2, .int .i64 r3, v3_], .int .i64 r5]) ∧ Kd.S (Kd.slice 3 (Kd.int .i64)) 39 w' w.heap.size (fun _ => True) v3_ r4 ∧ Below w.heap.size w w' := by
  obtain ⟨cw, rfl⟩ : ∃ v, v = a0_0 := ⟨_, rfl⟩
  obtain ⟨ch, rfl⟩ : ∃ v, v = a0_1 := ⟨_, rfl⟩
  obtain ⟨cb, rfl⟩ : ∃ v, v = a0_2 := ⟨_, rfl⟩
  obtain ⟨A0, rfl⟩ : ∃ v, v = A0_3 := ⟨_, rfl⟩
  obtain ⟨c0, rfl⟩ : ∃ v, v = c0_3 := ⟨_, rfl⟩
  obtain ⟨ps, rfl⟩ : ∃ v, v = l0_3 := ⟨_, rfl⟩
  obtain ⟨mw, rfl⟩ : ∃ v, v = a1_0 := ⟨_, rfl⟩
  obtain ⟨mh, rfl⟩ : ∃ v, v = a1_1 := ⟨_, rfl⟩
  obtain ⟨mb, rfl⟩ : ∃ v, v = a1_2 := ⟨_, rfl⟩
  obtain ⟨A1, rfl⟩ : ∃ v, v = A1_3 := ⟨_, rfl⟩
  obtain ⟨c1, rfl⟩ : ∃ v, v = c1_3 := ⟨_, rfl⟩
  obtain ⟨ms, rfl⟩ : ∃ v, v = l1_3 := ⟨_, rfl⟩
  obtain ⟨x, rfl⟩ : ∃ v, v = a2 := ⟨_, rfl⟩
  obtain ⟨y, rfl⟩ : ∃ v, v = a3 := ⟨_, rfl⟩
  have HR0 := As0.mk hr0_3
  have HC0 := As0.mk hc0_3
  have HR1 := As0.mk hr1_3
  have HC1 := As0.mk hc1_3
  obtain ⟨e0, he0⟩ : ∃ e, picture_Check.f cw ch cb ps = some e := ⟨_, rfl⟩
  obtain ⟨e1, he1⟩ : ∃ e, picture_Check.f mw mh mb ms = some e := ⟨_, rfl⟩
  have HE0 := As0.mk he0
  have HE1 := As0.mk he1
  unfold item_Over.f at h
  rw [he0, Option.bind_some, he1, Option.bind_some] at h
  have H := As0.mk h
  clear hr0_3 hc0_3 hr1_3 hc1_3 he0 he1 h
  have hu24 := Tryz.underlying24
  have hu22 := Tryz.underlying22
  have i0 : ∀ W : World, (Instr.index 99 (.agg #[.int .i64 cw, .int .i64 ch, .int .i64 cb, .slice A0 ps.length c0, .int .i64 mw, .int .i64 mh, .int .i64 mb, .slice A1 ms.length c1]) (.int .i64 0)).run Tryz.prog W = .ok (.agg #[.int .i64 cw, .int .i64 ch, .int .i64 cb, .slice A0 ps.length c0]) W := fun _ => by kernel_rfl
  have i1 : ∀ W : World, (Instr.index 99 (.agg #[.int .i64 cw, .int .i64 ch, .int .i64 cb, .slice A0 ps.length c0, .int .i64 mw, .int .i64 mh, .int .i64 mb, .slice A1 ms.length c1]) (.int .i64 1)).run Tryz.prog W = .ok (.agg #[.int .i64 mw, .int .i64 mh, .int .i64 mb, .slice A1 ms.length c1]) W := fun _ => by kernel_rfl
  go_enter Tryz.func25, Tryz.ntmps25
  go_wp2_with (first | ((with_reducible refine gdt (N := 4) rfl ?_); refine bxe ?hg (N := 4) ?hd (cs := #[.int .i64 cw, .int .i64 ch, .int .i64 cb, .slice A0 ps.length c0]) (t := 24) ?hr ?_; (case hd => rfl); (case hg => rfl); (case hr => first | (go_simp; done) | (go_simp; rfl)); intro g4 hgg4 w4 hboxg4 hbg4; have BKg4 := As0.mk hboxg4; have HB4 := As0.mk hbg4; clear hboxg4 hbg4 hgg4) | ((with_reducible refine gdt (N := 5) rfl ?_); refine bxe ?hg (N := 5) ?hd (cs := #[.int .i64 mw, .int .i64 mh, .int .i64 mb, .slice A1 ms.length c1]) (t := 24) ?hr ?_; (case hd => rfl); (case hg => rfl); (case hr => first | (go_simp; done) | (go_simp; rfl)); intro g5 hgg5 w5 hboxg5 hbg5; have BKg5 := As0.mk hboxg5; have NE45 : As0 (g4 ≠ g5) := ⟨by have := blk_lt BKg4.out; omega⟩; have HB5 := As0.mk (pwt HB4.out hbg5); replace BKg4 := As0.mk (bkb BKg4.out hbg5); clear hboxg5 hbg5 hgg5) | ((with_reducible refine gdt (N := 8) rfl ?_); refine bxe ?hg (N := 8) ?hd (cs := #[.int .i64 0, .int .i64 0, .int .i64 0, .slice none 0 0]) (t := 24) ?hr ?_; (case hd => rfl); (case hg => rfl); (case hr => first | (go_simp; done) | (go_simp; rfl)); intro g8 hgg8 w8 hboxg8 hbg8; have BKg8 := As0.mk hboxg8; have NE8 : As0 (g4 ≠ g8 ∧ g5 ≠ g8) := ⟨by have := blk_lt BKg4.out; omega, by have := blk_lt BKg5.out; omega⟩; have GE8 : As0 (w.heap.size ≤ g8) := ⟨by have := HB5.out.size; omega⟩; have HB8 := As0.mk (pwt HB5.out hbg8); replace BKg4 := As0.mk (bkb BKg4.out hbg8); replace BKg5 := As0.mk (bkb BKg5.out hbg8); have k40 : w8.cell? ⟨g4, 0, none⟩ = some (.int .i64 cw) := (bkc BKg4.out 0).trans rfl; have k41 : w8.cell? ⟨g4, 1, none⟩ = some (.int .i64 ch) := (bkc BKg4.out 1).trans rfl; have k42 : w8.cell? ⟨g4, 2, none⟩ = some (.int .i64 cb) := (bkc BKg4.out 2).trans rfl; have k43 : w8.cell? ⟨g4, 3, none⟩ = some (.slice A0 ps.length c0) := (bkc BKg4.out 3).trans rfl; have k50 : w8.cell? ⟨g5, 0, none⟩ = some (.int .i64 mw) := (bkc BKg5.out 0).trans rfl; have k51 : w8.cell? ⟨g5, 1, none⟩ = some (.int .i64 mh) := (bkc BKg5.out 1).trans rfl; have k52 : w8.cell? ⟨g5, 2, none⟩ = some (.int .i64 mb) := (bkc BKg5.out 2).trans rfl; have k53 : w8.cell? ⟨g5, 3, none⟩ = some (.slice A1 ms.length c1) := (bkc BKg5.out 3).trans rfl; clear hboxg8 hbg8 hgg8))
  clear k40 k41 k42 k43 k50 k51 k52 k53
  go_loopg [17] 2 (fun kq v17 w' => ∃ (i : Int), v17 = .int .i64 i ∧ As0 (0 ≤ i ∧ i + kq = 2) ∧ As0 (0 < i → e0 = 0) ∧ As0 (1 < i → e1 = 0) ∧ As0 (w'.heap[g4]? = some (.cells #[.int .i64 cw, .int .i64 ch, .int .i64 cb, .slice A0 ps.length c0] 24 (0, 0))) ∧ As0 (w'.heap[g5]? = some (.cells #[.int .i64 mw, .int .i64 mh, .int .i64 mb, .slice A1 ms.length c1] 24 (0, 0))) ∧ As0 (w'.heap[g8]? = some (.cells #[.int .i64 0, .int .i64 0, .int .i64 0, .slice none 0 0] 24 (0, 0))) ∧ As0 (Below w.heap.size w w'))
  case atStart => exact ⟨0, rfl, ⟨by omega, by omega⟩, ⟨fun h => absurd h (by decide)⟩, ⟨fun h => absurd h (by decide)⟩, BKg4, BKg5, BKg8, HB8⟩
  case round =>
    clear BKg4 BKg5 BKg8 HB8 HB4 HB5
    obtain ⟨i, rfl, HI, HZ0, HZ1, BKg4, BKg5, BKg8, HB⟩ := hrel
    match gk, HI with
    | 2, HI =>
      obtain rfl : i = 0 := by have := HI.out; omega
      by_cases he : e0 = 0
      · have hz : (e0 == 0) = true := beq_iff_eq.2 he
        have hz' : (e0 != 0) = false := by simp [he]
        have HZ := As0.mk he
        clear he
        go_wp2_with (first | ((with_reducible refine gdt (N := 11) rfl ?_); refine bxe ?hg (N := 11) ?hd (cs := #[.int .i64 0, .int .i64 0, .int .i64 0, .slice none 0 0]) (t := 24) ?hr ?_; (case hd => rfl); (case hg => rfl); (case hr => first | (go_simp; done) | (go_simp; rfl)); intro g11 hgg11 w11 hboxg11 hbg11; have BKg11 := As0.mk hboxg11; have GE11 : As0 (w.heap.size ≤ g11) := ⟨by have := HB.out.size; omega⟩; have NE11 : As0 (g4 ≠ g11 ∧ g5 ≠ g11 ∧ g8 ≠ g11) := ⟨by have := blk_lt BKg4.out; omega, by have := blk_lt BKg5.out; omega, by have := blk_lt BKg8.out; omega⟩; replace HB := As0.mk (pwt HB.out hbg11); replace BKg4 := As0.mk (bkb BKg4.out hbg11); replace BKg5 := As0.mk (bkb BKg5.out hbg11); replace BKg8 := As0.mk (bkb BKg8.out hbg11); have z0 : w11.cell? ⟨g11, 0, none⟩ = some (.int .i64 0) := (bkc BKg11.out 0).trans rfl; have z1 : w11.cell? ⟨g11, 1, none⟩ = some (.int .i64 0) := (bkc BKg11.out 1).trans rfl; have z2 : w11.cell? ⟨g11, 2, none⟩ = some (.int .i64 0) := (bkc BKg11.out 2).trans rfl; have z3 : w11.cell? ⟨g11, 3, none⟩ = some (.slice none 0 0) := (bkc BKg11.out 3).trans rfl; have fz0 := bkz BKg11.out 0; have fz1 := bkz BKg11.out 1; have fz2 := bkz BKg11.out 2; have fz3 := bkz BKg11.out 3; clear hboxg11 hbg11 hgg11) | (go_at_call 47; (with_reducible refine (picture_Check.calls cw ch cb A0 c0 ps e0 _ ?side1 HC0.out HE0.out).mono ?_); (case side1 => exact Kd.C_below HR0.out (four_below HB.out GE11.out _ _ _ _)); rintro e w12 ⟨rfl, hb12⟩; replace HB := As0.mk (pwt (four_below HB.out GE11.out _ _ _ _) hb12); replace BKg4 := As0.mk (bkb (four_far BKg4.out NE11.out.1 _ _ _ _) hb12); replace BKg5 := As0.mk (bkb (four_far BKg5.out NE11.out.2.1 _ _ _ _) hb12); replace BKg8 := As0.mk (bkb (four_far BKg8.out NE11.out.2.2 _ _ _ _) hb12); clear z0 z1 z2 z3 fz0 fz1 fz2 fz3 hb12; have r0 : w12.cell? ⟨g8, 0, none⟩ = some (.int .i64 0) := (bkc BKg8.out 0).trans rfl; have r1 : w12.cell? ⟨g8, 1, none⟩ = some (.int .i64 0) := (bkc BKg8.out 1).trans rfl; have r2 : w12.cell? ⟨g8, 2, none⟩ = some (.int .i64 0) := (bkc BKg8.out 2).trans rfl; have r3 : w12.cell? ⟨g8, 3, none⟩ = some (.slice none 0 0) := (bkc BKg8.out 3).trans rfl; have fr0 := bkz BKg8.out 0; have fr1 := bkz BKg8.out 1; have fr2 := bkz BKg8.out 2; have fr3 := bkz BKg8.out 3))
        clear r0 r1 r2 r3 fr0 fr1 fr2 fr3
        go_roundg 1
        case measure => omega
        case rel => exact ⟨1, by rfl, ⟨by omega, by have := HI.out; omega⟩, ⟨fun _ => HZ.out⟩, ⟨fun h => absurd h (by decide)⟩, BKg4, BKg5, BKg8, HB⟩
      · have hz : (e0 == 0) = false := beq_eq_false_iff_ne.2 he
        have hz' : (e0 != 0) = true := by simp [he]
        have hh := H.out
        rw [if_neg he] at hh
        have HH := As0.mk hh
        clear he hh
        go_wp2_with (first | ((with_reducible refine gdt (N := 11) rfl ?_); refine bxe ?hg (N := 11) ?hd (cs := #[.int .i64 0, .int .i64 0, .int .i64 0, .slice none 0 0]) (t := 24) ?hr ?_; (case hd => rfl); (case hg => rfl); (case hr => first | (go_simp; done) | (go_simp; rfl)); intro g11 hgg11 w11 hboxg11 hbg11; have BKg11 := As0.mk hboxg11; have GE11 : As0 (w.heap.size ≤ g11) := ⟨by have := HB.out.size; omega⟩; have NE11 : As0 (g4 ≠ g11 ∧ g5 ≠ g11 ∧ g8 ≠ g11) := ⟨by have := blk_lt BKg4.out; omega, by have := blk_lt BKg5.out; omega, by have := blk_lt BKg8.out; omega⟩; replace HB := As0.mk (pwt HB.out hbg11); replace BKg4 := As0.mk (bkb BKg4.out hbg11); replace BKg5 := As0.mk (bkb BKg5.out hbg11); replace BKg8 := As0.mk (bkb BKg8.out hbg11); have z0 : w11.cell? ⟨g11, 0, none⟩ = some (.int .i64 0) := (bkc BKg11.out 0).trans rfl; have z1 : w11.cell? ⟨g11, 1, none⟩ = some (.int .i64 0) := (bkc BKg11.out 1).trans rfl; have z2 : w11.cell? ⟨g11, 2, none⟩ = some (.int .i64 0) := (bkc BKg11.out 2).trans rfl; have z3 : w11.cell? ⟨g11, 3, none⟩ = some (.slice none 0 0) := (bkc BKg11.out 3).trans rfl; have fz0 := bkz BKg11.out 0; have fz1 := bkz BKg11.out 1; have fz2 := bkz BKg11.out 2; have fz3 := bkz BKg11.out 3; clear hboxg11 hbg11 hgg11) | (go_at_call 47; (with_reducible refine (picture_Check.calls cw ch cb A0 c0 ps e0 _ ?side1 HC0.out HE0.out).mono ?_); (case side1 => exact Kd.C_below HR0.out (four_below HB.out GE11.out _ _ _ _)); rintro e w12 ⟨rfl, hb12⟩; replace HB := As0.mk (pwt (four_below HB.out GE11.out _ _ _ _) hb12); replace BKg4 := As0.mk (bkb (four_far BKg4.out NE11.out.1 _ _ _ _) hb12); replace BKg5 := As0.mk (bkb (four_far BKg5.out NE11.out.2.1 _ _ _ _) hb12); replace BKg8 := As0.mk (bkb (four_far BKg8.out NE11.out.2.2 _ _ _ _) hb12); clear z0 z1 z2 z3 fz0 fz1 fz2 fz3 hb12; have r0 : w12.cell? ⟨g8, 0, none⟩ = some (.int .i64 0) := (bkc BKg8.out 0).trans rfl; have r1 : w12.cell? ⟨g8, 1, none⟩ = some (.int .i64 0) := (bkc BKg8.out 1).trans rfl; have r2 : w12.cell? ⟨g8, 2, none⟩ = some (.int .i64 0) := (bkc BKg8.out 2).trans rfl; have r3 : w12.cell? ⟨g8, 3, none⟩ = some (.slice none 0 0) := (bkc BKg8.out 3).trans rfl; have fr0 := bkz BKg8.out 0; have fr1 := bkz BKg8.out 1; have fr2 := bkz BKg8.out 2; have fr3 := bkz BKg8.out 3))
        simp only [Option.some.injEq, Prod.mk.injEq] at HH
        obtain ⟨rfl, rfl, rfl, rfl, rfl⟩ := HH.out
        refine bodyPost_ret (results_ct rfl _ _ g8 24 #[.int .i64 0, .int .i64 0, .int .i64 0, .slice none 0 0] (0, 0) _ rfl (four_put BKg8.out _ _ _ _) Tryz.underlying24 rfl (by kernel_rfl)) rfl ?_
        exact ⟨_, rfl, Kd.S_nil _ _ _ _ _, four_below HB.out GE8.out _ _ _ _⟩
    | 1, HI =>
      have HE0z : As0 (e0 = 0) := ⟨HZ0.out (by have := HI.out; omega)⟩
      obtain rfl : i = 1 := by have := HI.out; omega
      by_cases he : e1 = 0
      · have hz : (e1 == 0) = true := beq_iff_eq.2 he
        have hz' : (e1 != 0) = false := by simp [he]
        have HZ := As0.mk he
        clear he
        go_wp2_with (first | ((with_reducible refine gdt (N := 11) rfl ?_); refine bxe ?hg (N := 11) ?hd (cs := #[.int .i64 0, .int .i64 0, .int .i64 0, .slice none 0 0]) (t := 24) ?hr ?_; (case hd => rfl); (case hg => rfl); (case hr => first | (go_simp; done) | (go_simp; rfl)); intro g11 hgg11 w11 hboxg11 hbg11; have BKg11 := As0.mk hboxg11; have GE11 : As0 (w.heap.size ≤ g11) := ⟨by have := HB.out.size; omega⟩; have NE11 : As0 (g4 ≠ g11 ∧ g5 ≠ g11 ∧ g8 ≠ g11) := ⟨by have := blk_lt BKg4.out; omega, by have := blk_lt BKg5.out; omega, by have := blk_lt BKg8.out; omega⟩; replace HB := As0.mk (pwt HB.out hbg11); replace BKg4 := As0.mk (bkb BKg4.out hbg11); replace BKg5 := As0.mk (bkb BKg5.out hbg11); replace BKg8 := As0.mk (bkb BKg8.out hbg11); have z0 : w11.cell? ⟨g11, 0, none⟩ = some (.int .i64 0) := (bkc BKg11.out 0).trans rfl; have z1 : w11.cell? ⟨g11, 1, none⟩ = some (.int .i64 0) := (bkc BKg11.out 1).trans rfl; have z2 : w11.cell? ⟨g11, 2, none⟩ = some (.int .i64 0) := (bkc BKg11.out 2).trans rfl; have z3 : w11.cell? ⟨g11, 3, none⟩ = some (.slice none 0 0) := (bkc BKg11.out 3).trans rfl; have fz0 := bkz BKg11.out 0; have fz1 := bkz BKg11.out 1; have fz2 := bkz BKg11.out 2; have fz3 := bkz BKg11.out 3; clear hboxg11 hbg11 hgg11) | (go_at_call 47; (with_reducible refine (picture_Check.calls mw mh mb A1 c1 ms e1 _ ?side1 HC1.out HE1.out).mono ?_); (case side1 => exact Kd.C_below HR1.out (four_below HB.out GE11.out _ _ _ _)); rintro e w12 ⟨rfl, hb12⟩; replace HB := As0.mk (pwt (four_below HB.out GE11.out _ _ _ _) hb12); replace BKg4 := As0.mk (bkb (four_far BKg4.out NE11.out.1 _ _ _ _) hb12); replace BKg5 := As0.mk (bkb (four_far BKg5.out NE11.out.2.1 _ _ _ _) hb12); replace BKg8 := As0.mk (bkb (four_far BKg8.out NE11.out.2.2 _ _ _ _) hb12); clear z0 z1 z2 z3 fz0 fz1 fz2 fz3 hb12; have r0 : w12.cell? ⟨g8, 0, none⟩ = some (.int .i64 0) := (bkc BKg8.out 0).trans rfl; have r1 : w12.cell? ⟨g8, 1, none⟩ = some (.int .i64 0) := (bkc BKg8.out 1).trans rfl; have r2 : w12.cell? ⟨g8, 2, none⟩ = some (.int .i64 0) := (bkc BKg8.out 2).trans rfl; have r3 : w12.cell? ⟨g8, 3, none⟩ = some (.slice none 0 0) := (bkc BKg8.out 3).trans rfl; have fr0 := bkz BKg8.out 0; have fr1 := bkz BKg8.out 1; have fr2 := bkz BKg8.out 2; have fr3 := bkz BKg8.out 3))
        clear r0 r1 r2 r3 fr0 fr1 fr2 fr3
        go_roundg 0
        case measure => omega
        case rel => exact ⟨2, by rfl, ⟨by omega, by have := HI.out; omega⟩, ⟨fun _ => HE0z.out⟩, ⟨fun _ => HZ.out⟩, BKg4, BKg5, BKg8, HB⟩
      · have hz : (e1 == 0) = false := beq_eq_false_iff_ne.2 he
        have hz' : (e1 != 0) = true := by simp [he]
        have hh := H.out
        rw [if_pos HE0z.out, if_neg he] at hh
        have HH := As0.mk hh
        clear he hh
        go_wp2_with (first | ((with_reducible refine gdt (N := 11) rfl ?_); refine bxe ?hg (N := 11) ?hd (cs := #[.int .i64 0, .int .i64 0, .int .i64 0, .slice none 0 0]) (t := 24) ?hr ?_; (case hd => rfl); (case hg => rfl); (case hr => first | (go_simp; done) | (go_simp; rfl)); intro g11 hgg11 w11 hboxg11 hbg11; have BKg11 := As0.mk hboxg11; have GE11 : As0 (w.heap.size ≤ g11) := ⟨by have := HB.out.size; omega⟩; have NE11 : As0 (g4 ≠ g11 ∧ g5 ≠ g11 ∧ g8 ≠ g11) := ⟨by have := blk_lt BKg4.out; omega, by have := blk_lt BKg5.out; omega, by have := blk_lt BKg8.out; omega⟩; replace HB := As0.mk (pwt HB.out hbg11); replace BKg4 := As0.mk (bkb BKg4.out hbg11); replace BKg5 := As0.mk (bkb BKg5.out hbg11); replace BKg8 := As0.mk (bkb BKg8.out hbg11); have z0 : w11.cell? ⟨g11, 0, none⟩ = some (.int .i64 0) := (bkc BKg11.out 0).trans rfl; have z1 : w11.cell? ⟨g11, 1, none⟩ = some (.int .i64 0) := (bkc BKg11.out 1).trans rfl; have z2 : w11.cell? ⟨g11, 2, none⟩ = some (.int .i64 0) := (bkc BKg11.out 2).trans rfl; have z3 : w11.cell? ⟨g11, 3, none⟩ = some (.slice none 0 0) := (bkc BKg11.out 3).trans rfl; have fz0 := bkz BKg11.out 0; have fz1 := bkz BKg11.out 1; have fz2 := bkz BKg11.out 2; have fz3 := bkz BKg11.out 3; clear hboxg11 hbg11 hgg11) | (go_at_call 47; (with_reducible refine (picture_Check.calls mw mh mb A1 c1 ms e1 _ ?side1 HC1.out HE1.out).mono ?_); (case side1 => exact Kd.C_below HR1.out (four_below HB.out GE11.out _ _ _ _)); rintro e w12 ⟨rfl, hb12⟩; replace HB := As0.mk (pwt (four_below HB.out GE11.out _ _ _ _) hb12); replace BKg4 := As0.mk (bkb (four_far BKg4.out NE11.out.1 _ _ _ _) hb12); replace BKg5 := As0.mk (bkb (four_far BKg5.out NE11.out.2.1 _ _ _ _) hb12); replace BKg8 := As0.mk (bkb (four_far BKg8.out NE11.out.2.2 _ _ _ _) hb12); clear z0 z1 z2 z3 fz0 fz1 fz2 fz3 hb12; have r0 : w12.cell? ⟨g8, 0, none⟩ = some (.int .i64 0) := (bkc BKg8.out 0).trans rfl; have r1 : w12.cell? ⟨g8, 1, none⟩ = some (.int .i64 0) := (bkc BKg8.out 1).trans rfl; have r2 : w12.cell? ⟨g8, 2, none⟩ = some (.int .i64 0) := (bkc BKg8.out 2).trans rfl; have r3 : w12.cell? ⟨g8, 3, none⟩ = some (.slice none 0 0) := (bkc BKg8.out 3).trans rfl; have fr0 := bkz BKg8.out 0; have fr1 := bkz BKg8.out 1; have fr2 := bkz BKg8.out 2; have fr3 := bkz BKg8.out 3))
        simp only [Option.some.injEq, Prod.mk.injEq] at HH
        obtain ⟨rfl, rfl, rfl, rfl, rfl⟩ := HH.out
        refine bodyPost_ret (results_ct rfl _ _ g8 24 #[.int .i64 0, .int .i64 0, .int .i64 0, .slice none 0 0] (0, 0) _ rfl (four_put BKg8.out _ _ _ _) Tryz.underlying24 rfl (by kernel_rfl)) rfl ?_
        exact ⟨_, rfl, Kd.S_nil _ _ _ _ _, four_below HB.out GE8.out _ _ _ _⟩
    | 0, HI =>
      obtain rfl : i = 2 := by have := HI.out; omega
      have he0 : e0 = 0 := HZ0.out (by omega)
      have he1 : e1 = 0 := HZ1.out (by omega)
      have hh := H.out
      rw [if_pos he0, if_pos he1] at hh
      clear H he0 he1
      have k40 : wr.cell? ⟨g4, 0, none⟩ = some (.int .i64 cw) := (bkc BKg4.out 0).trans rfl
      have k41 : wr.cell? ⟨g4, 1, none⟩ = some (.int .i64 ch) := (bkc BKg4.out 1).trans rfl
      have k42 : wr.cell? ⟨g4, 2, none⟩ = some (.int .i64 cb) := (bkc BKg4.out 2).trans rfl
      have k43 : wr.cell? ⟨g4, 3, none⟩ = some (.slice A0 ps.length c0) := (bkc BKg4.out 3).trans rfl
      have k50 : wr.cell? ⟨g5, 0, none⟩ = some (.int .i64 mw) := (bkc BKg5.out 0).trans rfl
      have k51 : wr.cell? ⟨g5, 1, none⟩ = some (.int .i64 mh) := (bkc BKg5.out 1).trans rfl
      have k52 : wr.cell? ⟨g5, 2, none⟩ = some (.int .i64 mb) := (bkc BKg5.out 2).trans rfl
      have k53 : wr.cell? ⟨g5, 3, none⟩ = some (.slice A1 ms.length c1) := (bkc BKg5.out 3).trans rfl
      have r0 : wr.cell? ⟨g8, 0, none⟩ = some (.int .i64 0) := (bkc BKg8.out 0).trans rfl
      have r1 : wr.cell? ⟨g8, 1, none⟩ = some (.int .i64 0) := (bkc BKg8.out 1).trans rfl
      have r2 : wr.cell? ⟨g8, 2, none⟩ = some (.int .i64 0) := (bkc BKg8.out 2).trans rfl
      have r3 : wr.cell? ⟨g8, 3, none⟩ = some (.slice none 0 0) := (bkc BKg8.out 3).trans rfl
      have fr0 := bkz BKg8.out 0
      have fr1 := bkz BKg8.out 1
      have fr2 := bkz BKg8.out 2
      have fr3 := bkz BKg8.out 3
      cases hx : btw x (-64) 64 with
      | false =>
        have HX := As0.mk (iwithin_is x (-64) 64 false hx)
        rw [hx, Bool.false_and, if_neg (by decide)] at hh
        have HH := As0.mk hh
        clear hh hx
        go_wp2_with (go_at_call 48; (with_reducible refine (HX.out _).mono ?_); rintro e w' ⟨rfl, ⟨nd, rfl⟩⟩)
        simp only [Option.some.injEq, Prod.mk.injEq] at HH
        obtain ⟨rfl, rfl, rfl, rfl, rfl⟩ := HH.out
        refine bodyPost_ret (results_ct rfl _ _ g8 24 #[.int .i64 0, .int .i64 0, .int .i64 0, .slice none 0 0] (0, 0) _ rfl (four_put (bkN BKg8.out _) _ _ _ _) Tryz.underlying24 rfl (by kernel_rfl)) rfl ?_
        exact ⟨_, rfl, Kd.S_nil _ _ _ _ _, four_below (pwN HB.out _) GE8.out _ _ _ _⟩
      | true =>
        have HX := As0.mk (iwithin_is x (-64) 64 true hx)
        have HXB : As0 (-64 ≤ x ∧ x ≤ 64) := ⟨by simpa [btw] using hx⟩
        cases hy : btw y (-64) 64 with
        | false =>
          have HY := As0.mk (iwithin_is y (-64) 64 false hy)
          rw [hx, hy, Bool.true_and, if_neg (by decide)] at hh
          have HH := As0.mk hh
          clear hh hx hy
          go_wp2_with (first | (go_at_call 48; (with_reducible refine (HX.out _).mono ?_); rintro e w' ⟨rfl, ⟨nd, rfl⟩⟩) | (go_at_call 48; (with_reducible refine (HY.out _).mono ?_); rintro e w' ⟨rfl, ⟨nd2, rfl⟩⟩))
          simp only [Option.some.injEq, Prod.mk.injEq] at HH
          obtain ⟨rfl, rfl, rfl, rfl, rfl⟩ := HH.out
          refine bodyPost_ret (results_ct rfl _ _ g8 24 #[.int .i64 0, .int .i64 0, .int .i64 0, .slice none 0 0] (0, 0) _ rfl (four_put (bkN BKg8.out _) _ _ _ _) Tryz.underlying24 rfl (by kernel_rfl)) rfl ?_
          exact ⟨_, rfl, Kd.S_nil _ _ _ _ _, four_below (pwN HB.out _) GE8.out _ _ _ _⟩
        | true =>
          have HY := As0.mk (iwithin_is y (-64) 64 true hy)
          have HXY : As0 (-64 ≤ x ∧ x ≤ 64 ∧ -64 ≤ y ∧ y ≤ 64) := ⟨⟨HXB.out.1, HXB.out.2, by simpa [btw] using hy⟩⟩
          rw [hx, hy, Bool.true_and, if_pos rfl] at hh
          clear hx hy
          by_cases hcb : cb = mb
          · have n1 : (cb == mb) = true := beq_iff_eq.2 hcb
            have n2 : (cb != mb) = false := by simp [hcb]
            by_cases hl : ps.length = ms.length
            · have n3 : ((ps.length : Int) == (ms.length : Int)) = true := beq_iff_eq.2 (by rw [hl])
              have n4 : ((ps.length : Int) != (ms.length : Int)) = false := by simp [hl]
              rw [if_pos ⟨hcb, hl⟩] at hh
              split at hh
              case isFalse => cases hh
              case isTrue hg =>
              have HG := As0.mk hg
              have HG2 : As0 ((∀ r ∈ ps, r.length = cw.toNat * ch.toNat) ∧ ∀ r ∈ ms, r.length = mw.toNat * mh.toNat) := ⟨⟨fun r hr => by simpa using List.all_eq_true.1 hg.2.1 r hr, fun r hr => by simpa using List.all_eq_true.1 hg.2.2 r hr⟩⟩
              have HL := As0.mk hl.symm
              have HCL : As0 (item_clone.f cw ch cb ps = some (cw, ch, cb, ps)) := ⟨if_pos ⟨by have := hg.1; omega, List.all_eq_true.2 fun p hp => by
                have h1 := HG2.out.1 p hp
                have h2 : cw.toNat * ch.toNat ≤ 1000 * 1000 := Nat.mul_le_mul (by have := hg.1; omega) (by have := hg.1; omega)
                simp; omega⟩⟩
              simp only [Option.some.injEq, Prod.mk.injEq] at hh
              have HH := As0.mk hh
              clear hh hg hcb hl
              go_wp2_with (first | (go_at_call 48; (with_reducible refine (HX.out _).mono ?_); rintro e w' ⟨rfl, ⟨nd, rfl⟩⟩) | (go_at_call 48; (with_reducible refine (HY.out _).mono ?_); rintro e w' ⟨rfl, ⟨nd2, rfl⟩⟩))
              clear r0 r1 r2 r3 fr0 fr1 fr2 fr3 k40 k41 k42 k43 k50 k51 k52 k53 n1 n2 n3 n4 HX HY
              replace BKg4 := As0.mk (bkN BKg4.out (nd + nd2))
              replace BKg5 := As0.mk (bkN BKg5.out (nd + nd2))
              replace BKg8 := As0.mk (bkN BKg8.out (nd + nd2))
              replace HB := As0.mk (pwN HB.out (nd + nd2))
              generalize wr.drewN (nd + nd2) = wx at *
              have k40 : wx.cell? ⟨g4, 0, none⟩ = some (.int .i64 cw) := (bkc BKg4.out 0).trans rfl
              have k41 : wx.cell? ⟨g4, 1, none⟩ = some (.int .i64 ch) := (bkc BKg4.out 1).trans rfl
              have k42 : wx.cell? ⟨g4, 2, none⟩ = some (.int .i64 cb) := (bkc BKg4.out 2).trans rfl
              have k43 : wx.cell? ⟨g4, 3, none⟩ = some (.slice A0 ps.length c0) := (bkc BKg4.out 3).trans rfl
              have k50 : wx.cell? ⟨g5, 0, none⟩ = some (.int .i64 mw) := (bkc BKg5.out 0).trans rfl
              have k51 : wx.cell? ⟨g5, 1, none⟩ = some (.int .i64 mh) := (bkc BKg5.out 1).trans rfl
              have k52 : wx.cell? ⟨g5, 2, none⟩ = some (.int .i64 mb) := (bkc BKg5.out 2).trans rfl
              have k53 : wx.cell? ⟨g5, 3, none⟩ = some (.slice A1 ms.length c1) := (bkc BKg5.out 3).trans rfl
              have r0 : wx.cell? ⟨g8, 0, none⟩ = some (.int .i64 0) := (bkc BKg8.out 0).trans rfl
              have r1 : wx.cell? ⟨g8, 1, none⟩ = some (.int .i64 0) := (bkc BKg8.out 1).trans rfl
              have r2 : wx.cell? ⟨g8, 2, none⟩ = some (.int .i64 0) := (bkc BKg8.out 2).trans rfl
              have r3 : wx.cell? ⟨g8, 3, none⟩ = some (.slice none 0 0) := (bkc BKg8.out 3).trans rfl
              have fr0 := bkz BKg8.out 0
              have fr1 := bkz BKg8.out 1
              have fr2 := bkz BKg8.out 2
              have fr3 := bkz BKg8.out 3
              go_wp2_with (first | (go_at_call 67; (with_reducible refine (item_clone.calls cw ch cb A0 c0 ps cw ch cb ps _ ?side1 HC0.out HCL.out).mono ?_); (case side1 => exact Kd.C_below HR0.out HB.out); rintro e w13 ⟨v13, rfl, hs13, hb13⟩; obtain ⟨gO, cO, rfl, _, _, _⟩ := Kd.S_form hs13 HG.out.1.2.2.2.2.2.2.2.2.1; have HS := As0.mk (Kd.S_lower hs13 HB.out.size); replace BKg5 := As0.mk (bkb BKg5.out hb13); replace BKg8 := As0.mk (bkb BKg8.out hb13); replace HB := As0.mk (pwt HB.out hb13); clear hs13 hb13) | ((with_reducible refine gdt (N := 13) rfl ?_); refine bxe ?hg (N := 13) ?hd (cs := #[.int .i64 0, .int .i64 0, .int .i64 0, .slice none 0 0]) (t := 24) ?hr ?_; (case hd => rfl); (case hg => rfl); (case hr => first | (go_simp; done) | (go_simp; rfl)); intro g13 hgg13 w14 hboxg13 hbg13; have BKg13 := As0.mk hboxg13; have GE13 : As0 (w.heap.size ≤ g13) := ⟨by have := HB.out.size; omega⟩; have NE13 : As0 (g5 ≠ g13 ∧ g8 ≠ g13) := ⟨by have := blk_lt BKg5.out; omega, by have := blk_lt BKg8.out; omega⟩; replace HB := As0.mk (pwt HB.out hbg13); replace BKg5 := As0.mk (bkb BKg5.out hbg13); replace BKg8 := As0.mk (bkb BKg8.out hbg13); replace HS := As0.mk (Kd.S_below HS.out hbg13); have z0 : w14.cell? ⟨g13, 0, none⟩ = some (.int .i64 0) := (bkc BKg13.out 0).trans rfl; have z1 : w14.cell? ⟨g13, 1, none⟩ = some (.int .i64 0) := (bkc BKg13.out 1).trans rfl; have z2 : w14.cell? ⟨g13, 2, none⟩ = some (.int .i64 0) := (bkc BKg13.out 2).trans rfl; have z3 : w14.cell? ⟨g13, 3, none⟩ = some (.slice none 0 0) := (bkc BKg13.out 3).trans rfl; have fz0 := bkz BKg13.out 0; have fz1 := bkz BKg13.out 1; have fz2 := bkz BKg13.out 2; have fz3 := bkz BKg13.out 3; have m50 : ∀ v0 v1 v2 v3 : Value, ((((w14.setCell ⟨g13, 0, none⟩ v0).setCell ⟨g13, 1, none⟩ v1).setCell ⟨g13, 2, none⟩ v2).setCell ⟨g13, 3, none⟩ v3).cell? ⟨g5, 0, none⟩ = some (.int .i64 mw) := fun v0 v1 v2 v3 => (bkc (four_far BKg5.out NE13.out.1 v0 v1 v2 v3) 0).trans rfl; have m51 : ∀ v0 v1 v2 v3 : Value, ((((w14.setCell ⟨g13, 0, none⟩ v0).setCell ⟨g13, 1, none⟩ v1).setCell ⟨g13, 2, none⟩ v2).setCell ⟨g13, 3, none⟩ v3).cell? ⟨g5, 1, none⟩ = some (.int .i64 mh) := fun v0 v1 v2 v3 => (bkc (four_far BKg5.out NE13.out.1 v0 v1 v2 v3) 1).trans rfl; have m52 : ∀ v0 v1 v2 v3 : Value, ((((w14.setCell ⟨g13, 0, none⟩ v0).setCell ⟨g13, 1, none⟩ v1).setCell ⟨g13, 2, none⟩ v2).setCell ⟨g13, 3, none⟩ v3).cell? ⟨g5, 2, none⟩ = some (.int .i64 mb) := fun v0 v1 v2 v3 => (bkc (four_far BKg5.out NE13.out.1 v0 v1 v2 v3) 2).trans rfl; have m53 : ∀ v0 v1 v2 v3 : Value, ((((w14.setCell ⟨g13, 0, none⟩ v0).setCell ⟨g13, 1, none⟩ v1).setCell ⟨g13, 2, none⟩ v2).setCell ⟨g13, 3, none⟩ v3).cell? ⟨g5, 3, none⟩ = some (.slice A1 ms.length c1) := fun v0 v1 v2 v3 => (bkc (four_far BKg5.out NE13.out.1 v0 v1 v2 v3) 3).trans rfl; clear hboxg13 hbg13 hgg13) | (go_at_call 68; (with_reducible refine (item_put.calls' cw ch cb gO ps.length cO ps mw mh mb A1 ms.length c1 ms x y _ w.heap.size (fun _ => True) HL.out ?side1 ?side2 ?side3 ?side4 ?side5 ?side6 ?side7).mono ?_); (case side1 => exact four_S HS.out BKg13.out (by decide) _ _ _ _); (case side2 => exact Kd.F_below (Kd.C_F (Kd.heap_slice 3 (Kd.heap_int .i64)) HR1.out) (four_below HB.out GE13.out _ _ _ _)); (case side3 => exact (four_below HB.out GE13.out _ _ _ _).size); (case side4 => exact ⟨HG.out.1.2.2.2.2.2.2.2.2.1, HG.out.1.2.2.2.2.2.2.2.2.2⟩); (case side5 => have := HG.out.1; have := HXY.out; omega); (case side6 => exact HG2.out.1); (case side7 => exact HG2.out.2); rintro e w15 ⟨rfl, hs15, hb15, hk15⟩; have HS15 := As0.mk hs15; have BKg13' := As0.mk (hk15 _ _ _ (by decide) (four_put BKg13.out (.int .i64 cw) (.int .i64 ch) (.int .i64 cb) (.slice (some ⟨gO, 0, none⟩) ps.length cO))); have BKg8' := As0.mk (hk15 _ _ _ (by decide) (four_far BKg8.out NE13.out.2 (.int .i64 cw) (.int .i64 ch) (.int .i64 cb) (.slice (some ⟨gO, 0, none⟩) ps.length cO))); have HB15 := As0.mk ((four_below HB.out GE13.out (.int .i64 cw) (.int .i64 ch) (.int .i64 cb) (.slice (some ⟨gO, 0, none⟩) ps.length cO)).trans hb15); clear hs15 hb15 hk15 m50 m51 m52 m53 z0 z1 z2 z3 fz0 fz1 fz2 fz3 r0 r1 r2 r3 fr0 fr1 fr2 fr3 k50 k51 k52 k53; have k0 : w15.cell? ⟨g13, 0, none⟩ = some (.int .i64 cw) := (bkc BKg13'.out 0).trans rfl; have k1 : w15.cell? ⟨g13, 1, none⟩ = some (.int .i64 ch) := (bkc BKg13'.out 1).trans rfl; have k2 : w15.cell? ⟨g13, 2, none⟩ = some (.int .i64 cb) := (bkc BKg13'.out 2).trans rfl; have k3 : w15.cell? ⟨g13, 3, none⟩ = some (.slice (some ⟨gO, 0, none⟩) ps.length cO) := (bkc BKg13'.out 3).trans rfl; have r0 : w15.cell? ⟨g8, 0, none⟩ = some (.int .i64 0) := (bkc BKg8'.out 0).trans rfl; have r1 : w15.cell? ⟨g8, 1, none⟩ = some (.int .i64 0) := (bkc BKg8'.out 1).trans rfl; have r2 : w15.cell? ⟨g8, 2, none⟩ = some (.int .i64 0) := (bkc BKg8'.out 2).trans rfl; have r3 : w15.cell? ⟨g8, 3, none⟩ = some (.slice none 0 0) := (bkc BKg8'.out 3).trans rfl; have fr0 := bkz BKg8'.out 0; have fr1 := bkz BKg8'.out 1; have fr2 := bkz BKg8'.out 2; have fr3 := bkz BKg8'.out 3))
              obtain ⟨rfl, rfl, rfl, rfl, rfl⟩ := HH.out
              refine bodyPost_ret (results_ct rfl _ _ g8 24 #[.int .i64 cw, .int .i64 ch, .int .i64 cb, .slice (some ⟨gO, 0, none⟩) ps.length cO] (0, 0) _ rfl (four_put BKg8'.out _ _ _ _) Tryz.underlying24 rfl (by kernel_rfl)) rfl ?_
              exact ⟨_, rfl, four_S HS15.out BKg8'.out (by decide) _ _ _ _, four_below HB15.out GE8.out _ _ _ _⟩
            · have n3 : ((ps.length : Int) == (ms.length : Int)) = false := beq_eq_false_iff_ne.2 (by omega)
              have n4 : ((ps.length : Int) != (ms.length : Int)) = true := bne_iff_ne.2 (by omega)
              rw [if_neg (fun h => hl h.2)] at hh
              have HH := As0.mk hh
              clear hh hl hcb
              go_wp2_with (first | (go_at_call 48; (with_reducible refine (HX.out _).mono ?_); rintro e w' ⟨rfl, ⟨nd, rfl⟩⟩) | (go_at_call 48; (with_reducible refine (HY.out _).mono ?_); rintro e w' ⟨rfl, ⟨nd2, rfl⟩⟩))
              simp only [Option.some.injEq, Prod.mk.injEq] at HH
              obtain ⟨rfl, rfl, rfl, rfl, rfl⟩ := HH.out
              refine bodyPost_ret (results_ct rfl _ _ g8 24 #[.int .i64 0, .int .i64 0, .int .i64 0, .slice none 0 0] (0, 0) _ rfl (four_put (bkN BKg8.out _) _ _ _ _) Tryz.underlying24 rfl (by kernel_rfl)) rfl ?_
              exact ⟨_, rfl, Kd.S_nil _ _ _ _ _, four_below (pwN HB.out _) GE8.out _ _ _ _⟩
          · have n1 : (cb == mb) = false := beq_eq_false_iff_ne.2 hcb
            have n2 : (cb != mb) = true := bne_iff_ne.2 hcb
            rw [if_neg (fun h => hcb h.1)] at hh
            have HH := As0.mk hh
            clear hh hcb
            go_wp2_with (first | (go_at_call 48; (with_reducible refine (HX.out _).mono ?_); rintro e w' ⟨rfl, ⟨nd, rfl⟩⟩) | (go_at_call 48; (with_reducible refine (HY.out _).mono ?_); rintro e w' ⟨rfl, ⟨nd2, rfl⟩⟩))
            simp only [Option.some.injEq, Prod.mk.injEq] at HH
            obtain ⟨rfl, rfl, rfl, rfl, rfl⟩ := HH.out
            refine bodyPost_ret (results_ct rfl _ _ g8 24 #[.int .i64 0, .int .i64 0, .int .i64 0, .slice none 0 0] (0, 0) _ rfl (four_put (bkN BKg8.out _) _ _ _ _) Tryz.underlying24 rfl (by kernel_rfl)) rfl ?_
            exact ⟨_, rfl, Kd.S_nil _ _ _ _ _, four_below (pwN HB.out _) GE8.out _ _ _ _⟩
    | gk + 3, HI => exact absurd HI.out.2 (by have := HI.out.1; omega)
end Go.Proofs.YtphkionjjhhhlaaGreat.Q
end
section
namespace Go.Proofs.YtphkionjjhhhlaaGreat.Q
open Go.RowKit Go.Proofs.YtphkionjjhhhlaaGreatW.PrintWords Go.Proofs.YtphkionjjhhhlaaGreatW.PrintLast Go.Proofs.YtphkionjjhhhlaaGreatW.PrintMore
mutual
def r15_drawn.l0 : Nat → Int → Int → Int → Int → Int → Int → List (List Int) → Int → Int → Int → List (List Int) → Option (Int × Int × Int × (List (List Int)))
  | 0, _, _, _, _, _, _, _, _, _, _, _ => none
  | k + 1, x2, x3, x10, x430000, x430001, x430002, x430003, x438000, x438001, x438002, x438003 => if x10 < (x430003.length : Int) then (r15_drawn.l1 k x2 x3 x10 0 x430000 x430001 x430002 x430003 x438000 x438001 x438002 x438003) else (some (x438000, x438001, x438002, x438003))
def r15_drawn.l1 : Nat → Int → Int → Int → Int → Int → Int → Int → List (List Int) → Int → Int → Int → List (List Int) → Option (Int × Int × Int × (List (List Int)))
  | 0, _, _, _, _, _, _, _, _, _, _, _, _ => none
  | k + 1, x2, x3, x10, x11, x430000, x430001, x430002, x430003, x438000, x438001, x438002, x438003 => if x11 < (wrap64 (x430000 * x430001)) then (if x430000 = 0 then (none) else (if (wrap64 (x2 + (Int.tmod x11 x430000))) ≥ 0 then (if (wrap64 (x2 + (Int.tmod x11 x430000))) < x438000 then (if (wrap64 (x3 + (wrap64 (Int.tdiv x11 x430000)))) ≥ 0 then (if (wrap64 (x3 + (wrap64 (Int.tdiv x11 x430000)))) < x438001 then (if 0 ≤ x10 then (if x10 < (x438003.length : Int) then (if x10 < (x430003.length : Int) then (if 0 ≤ x11 then (if x11 < ((rd_L1 x430003 x10).length : Int) then (if 0 ≤ (wrap64 ((wrap64 ((wrap64 (x3 + (wrap64 (Int.tdiv x11 x430000)))) * x438000)) + (wrap64 (x2 + (Int.tmod x11 x430000))))) then (if (wrap64 ((wrap64 ((wrap64 (x3 + (wrap64 (Int.tdiv x11 x430000)))) * x438000)) + (wrap64 (x2 + (Int.tmod x11 x430000))))) < ((rd_L1 x438003 x10).length : Int) then (r15_drawn.l1 k x2 x3 x10 (wrap64 (x11 + 1)) x430000 x430001 x430002 x430003 x438000 x438001 x438002 (x438003.set (x10 : Int).toNat ((rd_L1 x438003 x10).set ((wrap64 ((wrap64 ((wrap64 (x3 + (wrap64 (Int.tdiv x11 x430000)))) * x438000)) + (wrap64 (x2 + (Int.tmod x11 x430000))))) : Int).toNat (rd (rd_L1 x430003 x10) x11)))) else (none)) else (none)) else (none)) else (none)) else (none)) else (none)) else (none)) else (r15_drawn.l1 k x2 x3 x10 (wrap64 (x11 + 1)) x430000 x430001 x430002 x430003 x438000 x438001 x438002 x438003)) else (r15_drawn.l1 k x2 x3 x10 (wrap64 (x11 + 1)) x430000 x430001 x430002 x430003 x438000 x438001 x438002 x438003)) else (r15_drawn.l1 k x2 x3 x10 (wrap64 (x11 + 1)) x430000 x430001 x430002 x430003 x438000 x438001 x438002 x438003)) else (r15_drawn.l1 k x2 x3 x10 (wrap64 (x11 + 1)) x430000 x430001 x430002 x430003 x438000 x438001 x438002 x438003))) else (r15_drawn.l0 k x2 x3 (wrap64 (x10 + 1)) x430000 x430001 x430002 x430003 x438000 x438001 x438002 x438003)
end
def r15_drawn.f (k : Nat) (a0_0 : Int) (a0_1 : Int) (a0_2 : Int) (l0_3 : List (List Int)) (a1_0 : Int) (a1_1 : Int) (a1_2 : Int) (l1_3 : List (List Int)) (a2 : Int) (a3 : Int) : Option (Int × Int × Int × (List (List Int))) := (r00_CopyImage.f k a0_0 a0_1 a0_2 l0_3).bind fun bt431 => (r15_drawn.l0 k a2 a3 0 a1_0 a1_1 a1_2 l1_3 bt431.1 bt431.2.1 bt431.2.2.1 bt431.2.2.2)
def r15_drawn.T8 : Bool × List (List Nat × List Nat) := (true, [([], []), ([], []), ([], []), ([2], [2]), ([1, 3], [1, 3]), ([0, 4], [0, 4]), ([], []), ([], []), ([], []), ([8], [8]), ([7, 9], [7, 9]), ([6, 10], [6, 10]), ([5, 0, 1, 2, 3, 4, 5], [5]), ([11, 12, 0, 1, 2, 3, 4, 5, 6, 7, 8, 9, 10, 11, 12], [11])])
def r15_drawn.B8 : List Nat := [0, 0, 0, 4, 14, 31, 0, 0, 0, 256, 896, 1984, 63, 8191]
theorem r15_drawn.tab8 : rtab .any (opsOf Tryz.f69 8) = r15_drawn.T8 := by kernel_rfl
theorem r15_drawn.bits8 : waitsOk r15_drawn.T8.2 r15_drawn.B8 = true := by kernel_rfl
def r15_drawn.T10 : Bool × List (List Nat × List Nat) := (true, [([], []), ([0], [0]), ([], []), ([1, 2], [1, 2]), ([3], [3]), ([], []), ([], []), ([6], [6]), ([5, 7], [5, 7]), ([], []), ([8, 9], [8, 9]), ([], []), ([11], [11]), ([], []), ([12, 13], [12, 13]), ([14], [14]), ([], []), ([15, 16], [15, 16]), ([17], [17]), ([4, 10, 0, 1, 2, 3, 4, 5, 6, 7, 8, 9, 10, 11, 12, 13, 14, 15, 16, 17, 18], [4, 10]), ([19, 18, 0, 1, 2, 3, 4, 5, 6, 7, 8, 9, 10, 11, 12, 13, 14, 15, 16, 17, 18], [18, 19])])
def r15_drawn.B10 : List Nat := [0, 1, 0, 7, 15, 0, 0, 64, 224, 0, 992, 0, 2048, 0, 14336, 30720, 0, 129024, 260096, 524287, 1048575]
theorem r15_drawn.tab10 : rtab .any (opsOf Tryz.f69 10) = r15_drawn.T10 := by kernel_rfl
theorem r15_drawn.bits10 : waitsOk r15_drawn.T10.2 r15_drawn.B10 = true := by kernel_rfl
set_option maxHeartbeats 8000000 in
set_option maxRecDepth 100000 in
theorem r15_drawn.calls (k : Nat) (a0_0 : Int) (a0_1 : Int) (a0_2 : Int) (A0_3 : Option Addr) (c0_3 : Nat) (l0_3 : List (List Int)) (a1_0 : Int) (a1_1 : Int) (a1_2 : Int) (A1_3 : Option Addr) (c1_3 : Nat) (l1_3 : List (List Int)) (a2 : Int) (a3 : Int) (r1 : Int) (r2 : Int) (r3 : Int) (r4 : List (List Int)) (w : World) (hr0_3 : Kd.C (Kd.slice 3 (Kd.int .i64)) w A0_3 l0_3.length l0_3) (hc0_3 : l0_3.length ≤ c0_3) (hr1_3 : Kd.C (Kd.slice 3 (Kd.int .i64)) w A1_3 l1_3.length l1_3) (hc1_3 : l1_3.length ≤ c1_3) (h : r15_drawn.f k a0_0 a0_1 a0_2 l0_3 a1_0 a1_1 a1_2 l1_3 a2 a3 = some (r1, r2, r3, r4)) :
    Calls Tryz.prog 69 #[.agg #[.int .i64 a0_0, .int .i64 a0_1, .int .i64 a0_2, .slice A0_3 l0_3.length c0_3], .agg #[.int .i64 a1_0, .int .i64 a1_1, .int .i64 a1_2, .slice A1_3 l1_3.length c1_3], .int .i64 a2, .int .i64 a3] w fun e w' => ∃ v3_ : Value, e = .returned (.agg #[.int .i64 r1, .int .i64 r2, .int .i64 r3, v3_]) ∧ Kd.S (Kd.slice 3 (Kd.int .i64)) 39 w' w.heap.size (fun _ => True) v3_ r4 ∧ Below w.heap.size w w' := by
  have hu24 := Tryz.underlying24
  have HR0_3 := As0.mk hr0_3
  have HC0_3 := As0.mk hc0_3
  clear hr0_3 hc0_3
  have HR1_3 := As0.mk hr1_3
  have HC1_3 := As0.mk hc1_3
  clear hr1_3 hc1_3
  have HB := As0.mk (Below.refl w.heap.size w)
  have H : ((r00_CopyImage.f k a0_0 a0_1 a0_2 l0_3).bind fun bt431 => (r15_drawn.l0 k a2 a3 0 a1_0 a1_1 a1_2 l1_3 bt431.1 bt431.2.1 bt431.2.2.1 bt431.2.2.2)) = some (r1, r2, r3, r4) := h
  clear h
  replace H := Option.bind_eq_some_iff.mp H
  obtain ⟨⟨t431, t432, t433, t434⟩, A50, H⟩ := H
  replace H : (r15_drawn.l0 k a2 a3 0 a1_0 a1_1 a1_2 l1_3 t431 t432 t433 t434) = some (r1, r2, r3, r4) := H
  have A5 := As0.mk A50
  clear A50
  have H' := As0.mk H
  clear H
  go_enter Tryz.func69, Tryz.ntmps69
  go_wp2_with (first | ((with_reducible refine gdt (N := 4) rfl ?_); refine bxe ?hg (N := 4) ?hd (cs := #[.int .i64 a0_0, .int .i64 a0_1, .int .i64 a0_2, .slice A0_3 l0_3.length c0_3]) (t := 24) ?hr ?_; (case hd => rfl); (case hg => rfl); (case hr => first | (go_simp; done) | (go_simp; rfl)); intro gb428 hg w6 hbox hb; have n0_ := As0.mk (bwp (by repeat (first | (with_reducible first | exact HB.out | apply bwa | apply pwN | apply bwd) | exact HB.out)) hb); have n1_ := As0.mk (hbox); have n2_ := As0.mk ((by rw [hg]; exact (bwz (by repeat (first | (with_reducible first | exact HB.out | apply bwa | apply pwN | apply bwd) | exact HB.out))) : w.heap.size ≤ gb428)); have n3_ := As0.mk ((by rw [hg]; exact (bwz (by repeat (first | (with_reducible first | exact HB.out | apply bwa | apply pwN | apply bwd) | exact HB.out))) : w.heap.size ≤ gb428)); clear HB; have HB := n0_; have BK428 := n1_; have GW428 := n2_; have GE428 := n3_; clear n0_ n1_ n2_ n3_; clear hb hbox hg) | ((with_reducible refine gdt (N := 5) rfl ?_); refine bxe ?hg (N := 5) ?hd (cs := #[.int .i64 a1_0, .int .i64 a1_1, .int .i64 a1_2, .slice A1_3 l1_3.length c1_3]) (t := 24) ?hr ?_; (case hd => rfl); (case hg => rfl); (case hr => first | (go_simp; done) | (go_simp; rfl)); intro gb429 hg w7 hbox hb; have n0_ := As0.mk (bkb (g := gb428) (o := .cells #[.int .i64 a0_0, .int .i64 a0_1, .int .i64 a0_2, .slice A0_3 l0_3.length c0_3] 24 (0, 0)) (by (with_reducible repeat (first | refine bkN ?_ _ | refine bkd ?_ | refine bka ?_ _)); exact BK428.out) hb); have n1_ := As0.mk (bwp (by repeat (first | (with_reducible first | exact HB.out | apply bwa | apply pwN | apply bwd | refine bws ?_ GE428.out) | exact HB.out)) hb); have n2_ := As0.mk (hbox); have n3_ := As0.mk ((by rw [hg]; exact (bwz (by repeat (first | (with_reducible first | exact HB.out | apply bwa | apply pwN | apply bwd | refine bws ?_ GE428.out) | exact HB.out))) : w.heap.size ≤ gb429)); have n4_ := As0.mk ((by rw [hg]; exact (bwz (by repeat (first | (with_reducible first | exact HB.out | apply bwa | apply pwN | apply bwd | refine bws ?_ GE428.out) | exact HB.out))) : w.heap.size ≤ gb429)); have n5_ := As0.mk ((by rw [hg]; exact Nat.ne_of_lt (blk_lt (g := gb428) (o := .cells #[.int .i64 a0_0, .int .i64 a0_1, .int .i64 a0_2, .slice A0_3 l0_3.length c0_3] 24 (0, 0)) (by (with_reducible repeat (first | refine bkN ?_ _ | refine bkd ?_ | refine bka ?_ _)); exact BK428.out)) : gb428 ≠ gb429)); have n6_ := As0.mk ((by rw [hg]; exact Nat.ne_of_gt (blk_lt (g := gb428) (o := .cells #[.int .i64 a0_0, .int .i64 a0_1, .int .i64 a0_2, .slice A0_3 l0_3.length c0_3] 24 (0, 0)) (by (with_reducible repeat (first | refine bkN ?_ _ | refine bkd ?_ | refine bka ?_ _)); exact BK428.out)) : gb429 ≠ gb428)); clear BK428; clear HB; have BK428 := n0_; have HB := n1_; have BK429 := n2_; have GW429 := n3_; have GE429 := n4_; have NB428_429 := n5_; have NB429_428 := n6_; clear n0_ n1_ n2_ n3_ n4_ n5_ n6_; clear hb hbox hg) | ((with_reducible refine gdt (N := 8) rfl ?_); refine bxe ?hg (N := 8) ?hd (cs := #[.int .i64 0, .int .i64 0, .int .i64 0, .slice none 0 0]) (t := 24) ?hr ?_; (case hd => rfl); (case hg => rfl); (case hr => first | (go_simp; done) | (go_simp; rfl)); intro gb430 hg w8 hbox hb; have n0_ := As0.mk (bkb (g := gb428) (o := .cells #[.int .i64 a0_0, .int .i64 a0_1, .int .i64 a0_2, .slice A0_3 l0_3.length c0_3] 24 (0, 0)) (by (with_reducible repeat (first | refine bkN ?_ _ | refine bkd ?_ | refine bka ?_ _)); exact BK428.out) hb); have n1_ := As0.mk (bkb (g := gb429) (o := .cells #[.int .i64 a1_0, .int .i64 a1_1, .int .i64 a1_2, .slice A1_3 l1_3.length c1_3] 24 (0, 0)) (by (with_reducible repeat (first | refine bkN ?_ _ | refine bkd ?_ | refine bka ?_ _)); exact BK429.out) hb); have n2_ := As0.mk (bwp (by repeat (first | (with_reducible first | exact HB.out | apply bwa | apply pwN | apply bwd | refine bws ?_ GE428.out | refine bws ?_ GE429.out) | exact HB.out)) hb); have n3_ := As0.mk (hbox); have n4_ := As0.mk ((by rw [hg]; exact (bwz (by repeat (first | (with_reducible first | exact HB.out | apply bwa | apply pwN | apply bwd | refine bws ?_ GE428.out | refine bws ?_ GE429.out) | exact HB.out))) : w.heap.size ≤ gb430)); have n5_ := As0.mk ((by rw [hg]; exact (bwz (by repeat (first | (with_reducible first | exact HB.out | apply bwa | apply pwN | apply bwd | refine bws ?_ GE428.out | refine bws ?_ GE429.out) | exact HB.out))) : w.heap.size ≤ gb430)); have n6_ := As0.mk ((by rw [hg]; exact Nat.ne_of_lt (blk_lt (g := gb428) (o := .cells #[.int .i64 a0_0, .int .i64 a0_1, .int .i64 a0_2, .slice A0_3 l0_3.length c0_3] 24 (0, 0)) (by (with_reducible repeat (first | refine bkN ?_ _ | refine bkd ?_ | refine bka ?_ _)); exact BK428.out)) : gb428 ≠ gb430)); have n7_ := As0.mk ((by rw [hg]; exact Nat.ne_of_gt (blk_lt (g := gb428) (o := .cells #[.int .i64 a0_0, .int .i64 a0_1, .int .i64 a0_2, .slice A0_3 l0_3.length c0_3] 24 (0, 0)) (by (with_reducible repeat (first | refine bkN ?_ _ | refine bkd ?_ | refine bka ?_ _)); exact BK428.out)) : gb430 ≠ gb428)); have n8_ := As0.mk ((by rw [hg]; exact Nat.ne_of_lt (blk_lt (g := gb429) (o := .cells #[.int .i64 a1_0, .int .i64 a1_1, .int .i64 a1_2, .slice A1_3 l1_3.length c1_3] 24 (0, 0)) (by (with_reducible repeat (first | refine bkN ?_ _ | refine bkd ?_ | refine bka ?_ _)); exact BK429.out)) : gb429 ≠ gb430)); have n9_ := As0.mk ((by rw [hg]; exact Nat.ne_of_gt (blk_lt (g := gb429) (o := .cells #[.int .i64 a1_0, .int .i64 a1_1, .int .i64 a1_2, .slice A1_3 l1_3.length c1_3] 24 (0, 0)) (by (with_reducible repeat (first | refine bkN ?_ _ | refine bkd ?_ | refine bka ?_ _)); exact BK429.out)) : gb430 ≠ gb429)); clear BK428; clear BK429; clear HB; have BK428 := n0_; have BK429 := n1_; have HB := n2_; have BK430 := n3_; have GW430 := n4_; have GE430 := n5_; have NB428_430 := n6_; have NB430_428 := n7_; have NB429_430 := n8_; have NB430_429 := n9_; clear n0_ n1_ n2_ n3_ n4_ n5_ n6_ n7_ n8_ n9_; clear hb hbox hg; have hnb9 := NB428_429.out; have hnc9 := NB429_428.out; have hnb10 := NB428_430.out; have hnc10 := NB430_428.out; have hcz11_0 : w8.cell? ⟨gb428, 0, none⟩ = some (.int .i64 a0_0) := (bkc BK428.out 0).trans rfl; have hcz11_1 : w8.cell? ⟨gb428, 1, none⟩ = some (.int .i64 a0_1) := (bkc BK428.out 1).trans rfl; have hcz11_2 : w8.cell? ⟨gb428, 2, none⟩ = some (.int .i64 a0_2) := (bkc BK428.out 2).trans rfl; have hcz11_3 : w8.cell? ⟨gb428, 3, none⟩ = some (.slice A0_3 l0_3.length c0_3) := (bkc BK428.out 3).trans rfl; have hfz11_0 := bkz BK428.out 0; have hfz11_1 := bkz BK428.out 1; have hfz11_2 := bkz BK428.out 2; have hfz11_3 := bkz BK428.out 3) | ((with_reducible refine gate_callee (f := 24) rfl ?_); refine goesL_ (some 15) rfl rfl Tryz.func24 (by kernel_rfl) rfl #[.agg #[.int .i64 a0_0, .int .i64 a0_1, .int .i64 a0_2, .slice A0_3 l0_3.length c0_3]] rfl (by (try simp only [List.map_toArray, List.map_cons, List.map_nil]); first | done | rfl | (simp only [List.length_drop, List.length_take]; rfl)) ?_; (with_reducible refine (r00_CopyImage.calls k a0_0 a0_1 a0_2 _ _ l0_3 t431 t432 t433 t434 _ ?side1 ?side2 A5.out).mono ?_); (case side1 => repeat (first | exact (Kd.C_below HR0_3.out HB.out) | (with_reducible refine Kd.C_alloc ?_ _) | (with_reducible refine Kd.C_drewN ?_ _) | (with_reducible refine Kd.C_drew ?_))); (case side2 => exact HC0_3.out); rintro e w12 ⟨v435, rfl, ho0, hb⟩; refine ⟨_, rfl, ?_⟩; have n0_ := As0.mk (Kd.S_lower ho0 (bwz (by repeat (first | (with_reducible first | exact HB.out | apply bwa | apply pwN | apply bwd | refine bws ?_ GE428.out | refine bws ?_ GE429.out | refine bws ?_ GE430.out) | exact HB.out)))); have n1_ := As0.mk (bkb (g := gb428) (o := .cells #[.int .i64 a0_0, .int .i64 a0_1, .int .i64 a0_2, .slice A0_3 l0_3.length c0_3] 24 (0, 0)) (by (with_reducible repeat (first | refine bkN ?_ _ | refine bkd ?_ | refine bka ?_ _)); exact BK428.out) hb); have n2_ := As0.mk (bkb (g := gb429) (o := .cells #[.int .i64 a1_0, .int .i64 a1_1, .int .i64 a1_2, .slice A1_3 l1_3.length c1_3] 24 (0, 0)) (by (with_reducible repeat (first | refine bkN ?_ _ | refine bkd ?_ | refine bka ?_ _)); exact BK429.out) hb); have n3_ := As0.mk (bkb (g := gb430) (o := .cells #[.int .i64 0, .int .i64 0, .int .i64 0, .slice none 0 0] 24 (0, 0)) (by (with_reducible repeat (first | refine bkN ?_ _ | refine bkd ?_ | refine bka ?_ _)); exact BK430.out) hb); have n4_ := As0.mk (bwp (by repeat (first | (with_reducible first | exact HB.out | apply bwa | apply pwN | apply bwd | refine bws ?_ GE428.out | refine bws ?_ GE429.out | refine bws ?_ GE430.out) | exact HB.out)) hb); clear BK428; clear BK429; clear BK430; clear HB; have HO436 := n0_; have BK428 := n1_; have BK429 := n2_; have BK430 := n3_; have HB := n4_; clear n0_ n1_ n2_ n3_ n4_; (try clear hb); (try clear hb2); (try clear hk); (try clear hi); (try clear ho0)) | ((with_reducible refine gdt (N := 9) rfl ?_); refine bxe ?hg (N := 9) ?hd (cs := #[.int .i64 0, .int .i64 0, .int .i64 0, .slice none 0 0]) (t := 24) ?hr ?_; (case hd => rfl); (case hg => rfl); (case hr => first | (go_simp; done) | (go_simp; rfl)); intro gb437 hg w13 hbox hb; have n0_ := As0.mk (Kd.S_below (by (with_reducible repeat (first | apply Kd.S_alloc | apply Kd.S_drewN | apply Kd.S_drew)); exact HO436.out) hb); have n1_ := As0.mk (bkb (g := gb428) (o := .cells #[.int .i64 a0_0, .int .i64 a0_1, .int .i64 a0_2, .slice A0_3 l0_3.length c0_3] 24 (0, 0)) (by (with_reducible repeat (first | refine bkN ?_ _ | refine bkd ?_ | refine bka ?_ _)); exact BK428.out) hb); have n2_ := As0.mk (bkb (g := gb429) (o := .cells #[.int .i64 a1_0, .int .i64 a1_1, .int .i64 a1_2, .slice A1_3 l1_3.length c1_3] 24 (0, 0)) (by (with_reducible repeat (first | refine bkN ?_ _ | refine bkd ?_ | refine bka ?_ _)); exact BK429.out) hb); have n3_ := As0.mk (bkb (g := gb430) (o := .cells #[.int .i64 0, .int .i64 0, .int .i64 0, .slice none 0 0] 24 (0, 0)) (by (with_reducible repeat (first | refine bkN ?_ _ | refine bkd ?_ | refine bka ?_ _)); exact BK430.out) hb); have n4_ := As0.mk (bwp (by repeat (first | (with_reducible first | exact HB.out | apply bwa | apply pwN | apply bwd | refine bws ?_ GE428.out | refine bws ?_ GE429.out | refine bws ?_ GE430.out) | exact HB.out)) hb); have n5_ := As0.mk (hbox); have n6_ := As0.mk ((by rw [hg]; exact (bwz (by repeat (first | (with_reducible first | exact HB.out | apply bwa | apply pwN | apply bwd | refine bws ?_ GE428.out | refine bws ?_ GE429.out | refine bws ?_ GE430.out) | exact HB.out))) : w.heap.size ≤ gb437)); have n7_ := As0.mk ((by rw [hg]; exact (bwz (by repeat (first | (with_reducible first | exact HB.out | apply bwa | apply pwN | apply bwd | refine bws ?_ GE428.out | refine bws ?_ GE429.out | refine bws ?_ GE430.out) | exact HB.out))) : w.heap.size ≤ gb437)); have n8_ := As0.mk ((by rw [hg]; exact Nat.ne_of_lt (blk_lt (g := gb428) (o := .cells #[.int .i64 a0_0, .int .i64 a0_1, .int .i64 a0_2, .slice A0_3 l0_3.length c0_3] 24 (0, 0)) (by (with_reducible repeat (first | refine bkN ?_ _ | refine bkd ?_ | refine bka ?_ _)); exact BK428.out)) : gb428 ≠ gb437)); have n9_ := As0.mk ((by rw [hg]; exact Nat.ne_of_gt (blk_lt (g := gb428) (o := .cells #[.int .i64 a0_0, .int .i64 a0_1, .int .i64 a0_2, .slice A0_3 l0_3.length c0_3] 24 (0, 0)) (by (with_reducible repeat (first | refine bkN ?_ _ | refine bkd ?_ | refine bka ?_ _)); exact BK428.out)) : gb437 ≠ gb428)); have n10_ := As0.mk ((by rw [hg]; exact Nat.ne_of_lt (blk_lt (g := gb429) (o := .cells #[.int .i64 a1_0, .int .i64 a1_1, .int .i64 a1_2, .slice A1_3 l1_3.length c1_3] 24 (0, 0)) (by (with_reducible repeat (first | refine bkN ?_ _ | refine bkd ?_ | refine bka ?_ _)); exact BK429.out)) : gb429 ≠ gb437)); have n11_ := As0.mk ((by rw [hg]; exact Nat.ne_of_gt (blk_lt (g := gb429) (o := .cells #[.int .i64 a1_0, .int .i64 a1_1, .int .i64 a1_2, .slice A1_3 l1_3.length c1_3] 24 (0, 0)) (by (with_reducible repeat (first | refine bkN ?_ _ | refine bkd ?_ | refine bka ?_ _)); exact BK429.out)) : gb437 ≠ gb429)); have n12_ := As0.mk ((by rw [hg]; exact Nat.ne_of_lt (blk_lt (g := gb430) (o := .cells #[.int .i64 0, .int .i64 0, .int .i64 0, .slice none 0 0] 24 (0, 0)) (by (with_reducible repeat (first | refine bkN ?_ _ | refine bkd ?_ | refine bka ?_ _)); exact BK430.out)) : gb430 ≠ gb437)); have n13_ := As0.mk ((by rw [hg]; exact Nat.ne_of_gt (blk_lt (g := gb430) (o := .cells #[.int .i64 0, .int .i64 0, .int .i64 0, .slice none 0 0] 24 (0, 0)) (by (with_reducible repeat (first | refine bkN ?_ _ | refine bkd ?_ | refine bka ?_ _)); exact BK430.out)) : gb437 ≠ gb430)); clear HO436; clear BK428; clear BK429; clear BK430; clear HB; have HO436 := n0_; have BK428 := n1_; have BK429 := n2_; have BK430 := n3_; have HB := n4_; have BK437 := n5_; have GW437 := n6_; have GE437 := n7_; have NB428_437 := n8_; have NB437_428 := n9_; have NB429_437 := n10_; have NB437_429 := n11_; have NB430_437 := n12_; have NB437_430 := n13_; clear n0_ n1_ n2_ n3_ n4_ n5_ n6_ n7_ n8_ n9_ n10_ n11_ n12_ n13_; clear hb hbox hg; have hnb14 := NB437_428.out; have hnc14 := NB428_437.out; have hnb15 := NB437_429.out; have hnc15 := NB429_437.out; have hnb16 := NB437_430.out; have hnc16 := NB430_437.out; have hcz17_0 : w13.cell? ⟨gb437, 0, none⟩ = some (.int .i64 0) := (bkc BK437.out 0).trans rfl; have hcz17_1 : w13.cell? ⟨gb437, 1, none⟩ = some (.int .i64 0) := (bkc BK437.out 1).trans rfl; have hcz17_2 : w13.cell? ⟨gb437, 2, none⟩ = some (.int .i64 0) := (bkc BK437.out 2).trans rfl; have hcz17_3 : w13.cell? ⟨gb437, 3, none⟩ = some (.slice none 0 0) := (bkc BK437.out 3).trans rfl; have hfz17_0 := bkz BK437.out 0; have hfz17_1 := bkz BK437.out 1; have hfz17_2 := bkz BK437.out 2; have hfz17_3 := bkz BK437.out 3; obtain ⟨Ao18, co18, eo18⟩ := Kd.S_slice HO436.out; subst eo18))
  go_loopg [10] k (fun kq v10 w' => ∃ (x10_1 : Int) (x438003_1 : List (List Int)) (u438003 : Value), v10 = .int .i64 x10_1 ∧ As0 (r15_drawn.l0 kq a2 a3 x10_1 a1_0 a1_1 a1_2 l1_3 t431 t432 t433 x438003_1 = some (r1, r2, r3, r4)) ∧ As0 (kq ≤ k) ∧ As0 (Kd.S (Kd.slice 3 (Kd.int .i64)) 39 w' w.heap.size (fun _ => True) u438003 x438003_1) ∧ As0 (w'.heap[gb428]? = some (.cells #[.int .i64 a0_0, .int .i64 a0_1, .int .i64 a0_2, (.slice A0_3 l0_3.length c0_3)] 24 (0, 0))) ∧ As0 (w'.heap[gb429]? = some (.cells #[.int .i64 a1_0, .int .i64 a1_1, .int .i64 a1_2, (.slice A1_3 l1_3.length c1_3)] 24 (0, 0))) ∧ As0 (w'.heap[gb430]? = some (.cells #[.int .i64 0, .int .i64 0, .int .i64 0, (.slice none 0 0)] 24 (0, 0))) ∧ As0 (w'.heap[gb437]? = some (.cells #[.int .i64 t431, .int .i64 t432, .int .i64 t433, u438003] 24 (0, 0))) ∧ As0 (Below w.heap.size w w'))
  case atStart => exact ⟨(0), (t434), (.slice Ao18 t434.length co18), (by first | rfl | (simp; done) | (simp [*]; done)), H', ⟨Nat.le_refl _⟩, ⟨by (with_reducible repeat (first | apply Kd.S_alloc | apply Kd.S_drewN | apply Kd.S_drew)); exact Kd.S_mono (Kd.S_far (p := ⟨gb437, 3, none⟩) (Kd.S_far (p := ⟨gb437, 2, none⟩) (Kd.S_far (p := ⟨gb437, 1, none⟩) (Kd.S_far (p := ⟨gb437, 0, none⟩) (Kd.S_types HO436.out BK437.out (by decide)) (fun _ hk => hk.2) (.int .i64 t431)) (fun _ hk => hk.2) (.int .i64 t432)) (fun _ hk => hk.2) (.int .i64 t433)) (fun _ hk => hk.2) (.slice Ao18 t434.length co18)) (fun _ hk => trivial)⟩, ⟨by (with_reducible repeat (first | refine bkN ?_ _ | refine bkd ?_ | refine bka ?_ _)); refine bkf ?_ NB428_437.out _; (with_reducible repeat (first | refine bkN ?_ _ | refine bkd ?_ | refine bka ?_ _)); refine bkf ?_ NB428_437.out _; (with_reducible repeat (first | refine bkN ?_ _ | refine bkd ?_ | refine bka ?_ _)); refine bkf ?_ NB428_437.out _; (with_reducible repeat (first | refine bkN ?_ _ | refine bkd ?_ | refine bka ?_ _)); refine bkf ?_ NB428_437.out _; (with_reducible repeat (first | refine bkN ?_ _ | refine bkd ?_ | refine bka ?_ _)); exact BK428.out⟩, ⟨by (with_reducible repeat (first | refine bkN ?_ _ | refine bkd ?_ | refine bka ?_ _)); refine bkf ?_ NB429_437.out _; (with_reducible repeat (first | refine bkN ?_ _ | refine bkd ?_ | refine bka ?_ _)); refine bkf ?_ NB429_437.out _; (with_reducible repeat (first | refine bkN ?_ _ | refine bkd ?_ | refine bka ?_ _)); refine bkf ?_ NB429_437.out _; (with_reducible repeat (first | refine bkN ?_ _ | refine bkd ?_ | refine bka ?_ _)); refine bkf ?_ NB429_437.out _; (with_reducible repeat (first | refine bkN ?_ _ | refine bkd ?_ | refine bka ?_ _)); exact BK429.out⟩, ⟨by (with_reducible repeat (first | refine bkN ?_ _ | refine bkd ?_ | refine bka ?_ _)); refine bkf ?_ NB430_437.out _; (with_reducible repeat (first | refine bkN ?_ _ | refine bkd ?_ | refine bka ?_ _)); refine bkf ?_ NB430_437.out _; (with_reducible repeat (first | refine bkN ?_ _ | refine bkd ?_ | refine bka ?_ _)); refine bkf ?_ NB430_437.out _; (with_reducible repeat (first | refine bkN ?_ _ | refine bkd ?_ | refine bka ?_ _)); refine bkf ?_ NB430_437.out _; (with_reducible repeat (first | refine bkN ?_ _ | refine bkd ?_ | refine bka ?_ _)); exact BK430.out⟩, ⟨by (with_reducible repeat (first | refine bkN ?_ _ | refine bkd ?_ | refine bka ?_ _)); refine blk_put (cs := #[.int .i64 t431, .int .i64 t432, .int .i64 t433, .slice none 0 0]) ?_ 3 _ rfl; (with_reducible repeat (first | refine bkN ?_ _ | refine bkd ?_ | refine bka ?_ _)); refine blk_put (cs := #[.int .i64 t431, .int .i64 t432, .int .i64 0, .slice none 0 0]) ?_ 2 _ rfl; (with_reducible repeat (first | refine bkN ?_ _ | refine bkd ?_ | refine bka ?_ _)); refine blk_put (cs := #[.int .i64 t431, .int .i64 0, .int .i64 0, .slice none 0 0]) ?_ 1 _ rfl; (with_reducible repeat (first | refine bkN ?_ _ | refine bkd ?_ | refine bka ?_ _)); refine blk_put (cs := #[.int .i64 0, .int .i64 0, .int .i64 0, .slice none 0 0]) ?_ 0 _ rfl; (with_reducible repeat (first | refine bkN ?_ _ | refine bkd ?_ | refine bka ?_ _)); exact BK437.out⟩, ⟨by repeat (first | (with_reducible first | exact HB.out | apply bwa | apply pwN | apply bwd | refine bws ?_ GE428.out | refine bws ?_ GE429.out | refine bws ?_ GE430.out | refine bws ?_ GE437.out) | exact HB.out)⟩⟩
  case round =>
    clear H'
    try clear c1
    try clear c2
    try clear p2
    try clear c6
    try clear c9
    try clear c10
    try clear c14
    try clear c15
    try clear c16
    try clear hcz11_0
    try clear hcz11_1
    try clear hcz11_2
    try clear hcz11_3
    try clear hcz17_0
    try clear hcz17_1
    try clear hcz17_2
    try clear hcz17_3
    try clear hfz11_0
    try clear hfz11_1
    try clear hfz11_2
    try clear hfz11_3
    try clear hfz17_0
    try clear hfz17_1
    try clear hfz17_2
    try clear hfz17_3
    obtain ⟨x10_1, x438003_1, u438003, rfl, HA, HK1, HO_438003, BK428, BK429, BK430, BK437, HB⟩ := hrel
    cases gk with
    | zero => exact absurd HA.out (by simp [r15_drawn.l0])
    | succ k1 =>
      have H := HA.out
      clear HA
      simp only [r15_drawn.l0] at H
      by_cases c19 : x10_1 < (l1_3.length : Int)
      · rw [if_pos c19] at H
        have c19b0 : decide (x10_1 < (l1_3.length : Int)) = true := decide_eq_true c19
        clear c19
        have H' := As0.mk H
        clear H
        have hnb20 := NB429_428.out
        have hnc20 := NB428_429.out
        have hnb21 := NB429_430.out
        have hnc21 := NB430_429.out
        have hnb22 := NB429_437.out
        have hnc22 := NB437_429.out
        have hcz23_0 : wr.cell? ⟨gb429, 0, none⟩ = some (.int .i64 a1_0) := (bkc BK429.out 0).trans rfl
        have hcz23_1 : wr.cell? ⟨gb429, 1, none⟩ = some (.int .i64 a1_1) := (bkc BK429.out 1).trans rfl
        have hcz23_2 : wr.cell? ⟨gb429, 2, none⟩ = some (.int .i64 a1_2) := (bkc BK429.out 2).trans rfl
        have hcz23_3 : wr.cell? ⟨gb429, 3, none⟩ = some (.slice A1_3 l1_3.length c1_3) := (bkc BK429.out 3).trans rfl
        have hfz23_0 := bkz BK429.out 0
        have hfz23_1 := bkz BK429.out 1
        have hfz23_2 := bkz BK429.out 2
        have hfz23_3 := bkz BK429.out 3
        go_wp2
        go_loopg [11] k1 (fun kq v11 w' => ∃ (x11_2 : Int) (x438003_2 : List (List Int)) (u438003 : Value), v11 = .int .i64 x11_2 ∧ As0 (r15_drawn.l1 kq a2 a3 x10_1 x11_2 a1_0 a1_1 a1_2 l1_3 t431 t432 t433 x438003_2 = some (r1, r2, r3, r4)) ∧ As0 (kq ≤ k1) ∧ As0 (Kd.S (Kd.slice 3 (Kd.int .i64)) 39 w' w.heap.size (fun _ => True) u438003 x438003_2) ∧ As0 (w'.heap[gb428]? = some (.cells #[.int .i64 a0_0, .int .i64 a0_1, .int .i64 a0_2, (.slice A0_3 l0_3.length c0_3)] 24 (0, 0))) ∧ As0 (w'.heap[gb429]? = some (.cells #[.int .i64 a1_0, .int .i64 a1_1, .int .i64 a1_2, (.slice A1_3 l1_3.length c1_3)] 24 (0, 0))) ∧ As0 (w'.heap[gb430]? = some (.cells #[.int .i64 0, .int .i64 0, .int .i64 0, (.slice none 0 0)] 24 (0, 0))) ∧ As0 (w'.heap[gb437]? = some (.cells #[.int .i64 t431, .int .i64 t432, .int .i64 t433, u438003] 24 (0, 0))) ∧ As0 (Below w.heap.size w w'))
        case atStart => exact ⟨(0), (x438003_1), (u438003), (by first | rfl | (simp; done) | (simp [*]; done)), H', ⟨Nat.le_refl _⟩, ⟨by (with_reducible repeat (first | apply Kd.S_alloc | apply Kd.S_drewN | apply Kd.S_drew)); exact HO_438003.out⟩, ⟨by (with_reducible repeat (first | refine bkN ?_ _ | refine bkd ?_ | refine bka ?_ _)); exact BK428.out⟩, ⟨by (with_reducible repeat (first | refine bkN ?_ _ | refine bkd ?_ | refine bka ?_ _)); exact BK429.out⟩, ⟨by (with_reducible repeat (first | refine bkN ?_ _ | refine bkd ?_ | refine bka ?_ _)); exact BK430.out⟩, ⟨by (with_reducible repeat (first | refine bkN ?_ _ | refine bkd ?_ | refine bka ?_ _)); exact BK437.out⟩, ⟨by repeat (first | (with_reducible first | exact HB.out | apply bwa | apply pwN | apply bwd | refine bws ?_ GE428.out | refine bws ?_ GE429.out | refine bws ?_ GE430.out | refine bws ?_ GE437.out) | exact HB.out)⟩⟩
        case round =>
          clear H'
          try clear c1
          try clear c2
          try clear p2
          try clear c6
          try clear c9
          try clear c10
          try clear c14
          try clear c15
          try clear c16
          try clear c19
          try clear c19b0
          try clear c20
          try clear c21
          try clear c22
          try clear hcz11_0
          try clear hcz11_1
          try clear hcz11_2
          try clear hcz11_3
          try clear hcz17_0
          try clear hcz17_1
          try clear hcz17_2
          try clear hcz17_3
          try clear hcz23_0
          try clear hcz23_1
          try clear hcz23_2
          try clear hcz23_3
          try clear hfz11_0
          try clear hfz11_1
          try clear hfz11_2
          try clear hfz11_3
          try clear hfz17_0
          try clear hfz17_1
          try clear hfz17_2
          try clear hfz17_3
          try clear hfz23_0
          try clear hfz23_1
          try clear hfz23_2
          try clear hfz23_3
          try clear p2
          obtain ⟨x11_2, x438003_2, u438003, rfl, HA, HK2, HO_438003, BK428, BK429, BK430, BK437, HB⟩ := hrel
          cases gk with
          | zero => exact absurd HA.out (by simp [r15_drawn.l1])
          | succ k2 =>
            have H := HA.out
            clear HA
            simp only [r15_drawn.l1] at H
            by_cases c24 : x11_2 < (wrap64 (a1_0 * a1_1))
            · rw [if_pos c24] at H
              have c24b0 : decide (x11_2 < (wrap64 (a1_0 * a1_1))) = true := decide_eq_true c24
              clear c24
              by_cases c25 : a1_0 = 0
              · rw [if_pos c25] at H
                exact absurd H (by simp)
              · rw [if_neg c25] at H
                have c25b0 : (a1_0 == 0) = false := beq_eq_false_iff_ne.mpr c25
                have c25b1 : (a1_0 != 0) = true := bne_iff_ne.mpr c25
                by_cases c26 : (wrap64 (a2 + (Int.tmod x11_2 a1_0))) ≥ 0
                · rw [if_pos c26] at H
                  have c26b0 : decide (0 ≤ (wrap64 (a2 + (Int.tmod x11_2 a1_0)))) = true := decide_eq_true c26
                  clear c26
                  by_cases c27 : (wrap64 (a2 + (Int.tmod x11_2 a1_0))) < t431
                  · rw [if_pos c27] at H
                    have c27b0 : decide ((wrap64 (a2 + (Int.tmod x11_2 a1_0))) < t431) = true := decide_eq_true c27
                    clear c27
                    by_cases c28 : (wrap64 (a3 + (wrap64 (Int.tdiv x11_2 a1_0)))) ≥ 0
                    · rw [if_pos c28] at H
                      have c28b0 : decide (0 ≤ (wrap64 (a3 + (wrap64 (Int.tdiv x11_2 a1_0))))) = true := decide_eq_true c28
                      clear c28
                      by_cases c29 : (wrap64 (a3 + (wrap64 (Int.tdiv x11_2 a1_0)))) < t432
                      · rw [if_pos c29] at H
                        have c29b0 : decide ((wrap64 (a3 + (wrap64 (Int.tdiv x11_2 a1_0)))) < t432) = true := decide_eq_true c29
                        clear c29
                        by_cases c30 : 0 ≤ x10_1
                        · rw [if_pos c30] at H
                          have c30b0 : decide (0 ≤ x10_1) = true := decide_eq_true c30
                          clear c30
                          by_cases c31 : x10_1 < (x438003_2.length : Int)
                          · rw [if_pos c31] at H
                            have c31b0 : decide (x10_1 < (x438003_2.length : Int)) = true := decide_eq_true c31
                            clear c31
                            by_cases c32 : x10_1 < (l1_3.length : Int)
                            · rw [if_pos c32] at H
                              have c32b0 : decide (x10_1 < (l1_3.length : Int)) = true := decide_eq_true c32
                              clear c32
                              by_cases c33 : 0 ≤ x11_2
                              · rw [if_pos c33] at H
                                have c33b0 : decide (0 ≤ x11_2) = true := decide_eq_true c33
                                clear c33
                                by_cases c34 : x11_2 < ((rd_L1 l1_3 x10_1).length : Int)
                                · rw [if_pos c34] at H
                                  have c34b0 : decide (x11_2 < ((rd_L1 l1_3 x10_1).length : Int)) = true := decide_eq_true c34
                                  clear c34
                                  obtain ⟨ji35, hji35⟩ : ∃ j_ : Int, (wrap64 ((wrap64 ((wrap64 (a3 + (wrap64 (Int.tdiv x11_2 a1_0)))) * t431)) + (wrap64 (a2 + (Int.tmod x11_2 a1_0))))) = j_ := ⟨_, rfl⟩
                                  replace H : (if 0 ≤ (ji35) then (if (ji35) < ((rd_L1 x438003_2 x10_1).length : Int) then (r15_drawn.l1 k2 a2 a3 x10_1 (wrap64 (x11_2 + 1)) a1_0 a1_1 a1_2 l1_3 t431 t432 t433 (x438003_2.set (x10_1 : Int).toNat ((rd_L1 x438003_2 x10_1).set ((ji35) : Int).toNat (rd (rd_L1 l1_3 x10_1) x11_2)))) else (none)) else (none)) = some (r1, r2, r3, r4) := by first | (rw [hji35] at H; exact H) | (simp only [hji35] at H ⊢; exact H)
                                  have hji35w : (IntKind.i64.wrap ((wrap64 ((wrap64 (a3 + (wrap64 (Int.tdiv x11_2 a1_0)))) * t431)) + (wrap64 (a2 + (Int.tmod x11_2 a1_0))))) = ji35 := (i64_w _).trans hji35
                                  by_cases c36 : 0 ≤ (ji35)
                                  · rw [if_pos c36] at H
                                    have c36b0 : decide (0 ≤ (ji35)) = true := decide_eq_true c36
                                    clear c36
                                    by_cases c37 : (ji35) < ((rd_L1 x438003_2 x10_1).length : Int)
                                    · rw [if_pos c37] at H
                                      have c37b0 : decide ((ji35) < ((rd_L1 x438003_2 x10_1).length : Int)) = true := decide_eq_true c37
                                      clear c37
                                      obtain ⟨y441, hy441⟩ : ∃ y_ : List Int, y_ = ((rd_L1 x438003_2 x10_1).set ((ji35) : Int).toNat (rd (rd_L1 l1_3 x10_1) x11_2)) := ⟨_, rfl⟩
                                      replace H : (r15_drawn.l1 k2 a2 a3 x10_1 (wrap64 (x11_2 + 1)) a1_0 a1_1 a1_2 l1_3 t431 t432 t433 (x438003_2.set (x10_1 : Int).toNat y441)) = some (r1, r2, r3, r4) := by first | (rw [hy441]; with_reducible exact H) | (have H2_ := (Option.bind_some _ _).symm.trans H; rw [hy441]; with_reducible exact H2_) | (have H2_ := (Option.bind_some _ _).symm.trans H; with_reducible exact H2_) | with_reducible exact H | (rw [hy441]; exact H) | exact H
                                      have Ny441 := As0.mk hy441
                                      clear hy441
                                      obtain ⟨y443, hy443⟩ : ∃ y_ : List (List Int), y_ = (x438003_2.set (x10_1 : Int).toNat y441) := ⟨_, rfl⟩
                                      replace H : (r15_drawn.l1 k2 a2 a3 x10_1 (wrap64 (x11_2 + 1)) a1_0 a1_1 a1_2 l1_3 t431 t432 t433 y443) = some (r1, r2, r3, r4) := by first | (rw [hy443]; with_reducible exact H) | (have H2_ := (Option.bind_some _ _).symm.trans H; rw [hy443]; with_reducible exact H2_) | (have H2_ := (Option.bind_some _ _).symm.trans H; with_reducible exact H2_) | with_reducible exact H | (rw [hy443]; exact H) | exact H
                                      have Ny443 := As0.mk hy443
                                      clear hy443
                                      have H' := As0.mk H
                                      clear H
                                      have hnb39 := NB429_428.out
                                      have hnc39 := NB428_429.out
                                      have hnb40 := NB429_430.out
                                      have hnc40 := NB430_429.out
                                      have hnb41 := NB429_437.out
                                      have hnc41 := NB437_429.out
                                      have hcz42_0 : wr.cell? ⟨gb429, 0, none⟩ = some (.int .i64 a1_0) := (bkc BK429.out 0).trans rfl
                                      have hcz42_1 : wr.cell? ⟨gb429, 1, none⟩ = some (.int .i64 a1_1) := (bkc BK429.out 1).trans rfl
                                      have hcz42_2 : wr.cell? ⟨gb429, 2, none⟩ = some (.int .i64 a1_2) := (bkc BK429.out 2).trans rfl
                                      have hcz42_3 : wr.cell? ⟨gb429, 3, none⟩ = some (.slice A1_3 l1_3.length c1_3) := (bkc BK429.out 3).trans rfl
                                      have hfz42_0 := bkz BK429.out 0
                                      have hfz42_1 := bkz BK429.out 1
                                      have hfz42_2 := bkz BK429.out 2
                                      have hfz42_3 := bkz BK429.out 3
                                      try go_wp2
                                      have n0_ := As0.mk (Kd.S_drew HO_438003.out)
                                      have n1_ := As0.mk (bkd BK428.out)
                                      have n2_ := As0.mk (bkd BK429.out)
                                      have n3_ := As0.mk (bkd BK430.out)
                                      have n4_ := As0.mk (bkd BK437.out)
                                      have n5_ := As0.mk (bwd HB.out)
                                      clear HO_438003
                                      clear BK428
                                      clear BK429
                                      clear BK430
                                      clear BK437
                                      clear HB
                                      have HO_438003 := n0_
                                      have BK428 := n1_
                                      have BK429 := n2_
                                      have BK430 := n3_
                                      have BK437 := n4_
                                      have HB := n5_
                                      clear n0_ n1_ n2_ n3_ n4_ n5_
                                      refine start_ (n := 14) (S := fun w' => w'.cell? ⟨gb429, 0, none⟩ = some (.int .i64 a1_0) ∧ w'.cell? ⟨gb429, 1, none⟩ = some (.int .i64 a1_1) ∧ w'.cell? ⟨gb429, 2, none⟩ = some (.int .i64 a1_2) ∧ w'.cell? ⟨gb429, 3, none⟩ = some (.slice A1_3 l1_3.length c1_3)) (ds := []) #[false, false, false, false, false, false, false, false, false, false, false, false, false, false] (by kernel_rfl) rfl rfl ⟨(bkc BK429.out 0).trans rfl, (bkc BK429.out 1).trans rfl, (bkc BK429.out 2).trans rfl, (bkc BK429.out 3).trans rfl⟩ (fun hHeld => ?_); refine with_tabW r15_drawn.tab8 r15_drawn.bits8 (fun HT_ HW_ => ?_)
                                      generalize wr.drew = w43 at HO_438003 BK428 BK429 BK430 BK437 HB hHeld ⊢
                                      refine pure_ (i := 0) (N := some 32) (v := ?_) (a' := ?_) #[true, false, false, false, false, false, false, false, false, false, false, false, false, false] rfl rfl (any_of HT_.out (by kernel_rfl)) (fun _ _ _ h => h) (Or.inl ⟨by rfl, ?_⟩) ?_ ?_
                                      rotate_left
                                      · intro w'
                                        go_simp
                                        with_reducible rfl
                                      rotate_left
                                      · simp only [Act.put, List.setIfInBounds_toArray, List.set_cons_zero, List.set_cons_succ, i64_w, i32_w]
                                        rfl
                                      refine pure_ (i := 1) (N := some 33) (v := ?_) (a' := ?_) #[true, true, false, false, false, false, false, false, false, false, false, false, false, false] rfl rfl (any_of HT_.out (by kernel_rfl)) (fun _ _ _ h => h) (Or.inl ⟨by rfl, ?_⟩) ?_ ?_
                                      rotate_left
                                      · intro w'
                                        go_simp
                                        with_reducible rfl
                                      rotate_left
                                      · simp only [Act.put, List.setIfInBounds_toArray, List.set_cons_zero, List.set_cons_succ, i64_w, i32_w]
                                        rfl
                                      refine pure_ (i := 2) (N := some 34) (v := ?_) (a' := ?_) #[true, true, true, false, false, false, false, false, false, false, false, false, false, false] rfl rfl (any_of HT_.out (by kernel_rfl)) (fun _ _ _ h => h) (Or.inl ⟨by rfl, ?_⟩) ?_ ?_
                                      rotate_left
                                      · intro w'
                                        go_simp
                                        with_reducible rfl
                                      rotate_left
                                      · simp only [Act.put, List.setIfInBounds_toArray, List.set_cons_zero, List.set_cons_succ, i64_w, i32_w]
                                        rfl
                                      refine pure_ (i := 6) (N := some 38) (v := ?_) (a' := ?_) #[true, true, true, false, false, false, true, false, false, false, false, false, false, false] rfl rfl (any_of HT_.out (by kernel_rfl)) (fun _ _ _ h => h) (Or.inl ⟨by rfl, ?_⟩) ?_ ?_
                                      rotate_left
                                      · intro w'
                                        go_simp
                                        with_reducible rfl
                                      rotate_left
                                      · simp only [Act.put, List.setIfInBounds_toArray, List.set_cons_zero, List.set_cons_succ, i64_w, i32_w]
                                        rfl
                                      refine pure_ (i := 7) (N := some 39) (v := ?_) (a' := ?_) #[true, true, true, false, false, false, true, true, false, false, false, false, false, false] rfl rfl (any_of HT_.out (by kernel_rfl)) (fun _ _ _ h => h) (Or.inl ⟨by rfl, ?_⟩) ?_ ?_
                                      rotate_left
                                      · intro w'
                                        go_simp
                                        with_reducible rfl
                                      rotate_left
                                      · simp only [Act.put, List.setIfInBounds_toArray, List.set_cons_zero, List.set_cons_succ, i64_w, i32_w]
                                        rfl
                                      refine pure_ (i := 8) (N := some 40) (v := ?_) (a' := ?_) #[true, true, true, false, false, false, true, true, true, false, false, false, false, false] rfl rfl (any_of HT_.out (by kernel_rfl)) (fun _ _ _ h => h) (Or.inl ⟨by rfl, ?_⟩) ?_ ?_
                                      rotate_left
                                      · intro w'
                                        go_simp
                                        with_reducible rfl
                                      rotate_left
                                      · simp only [Act.put, List.setIfInBounds_toArray, List.set_cons_zero, List.set_cons_succ, i64_w, i32_w]
                                        rfl
                                      refine take_ (i := 3) (N := some 35) (v := ?_) (a' := ?_) #[true, true, true, true, false, false, true, true, true, false, false, false, false, false] rfl rfl (take_ofW HT_.out HW_.out (by kernel_rfl)) (fun _ _ _ h => h) (Or.inl ⟨by rfl, ?_⟩) hHeld ?_ ?_
                                      rotate_left
                                      · rintro w' ⟨s0, s1, s2, s3⟩
                                        go_simp
                                        with_reducible rfl
                                      rotate_left
                                      · simp only [Act.put, List.setIfInBounds_toArray, List.set_cons_zero, List.set_cons_succ, i64_w, i32_w]
                                        rfl
                                      refine pure_ (i := 4) (N := some 36) (v := ?_) (a' := ?_) #[true, true, true, true, true, false, true, true, true, false, false, false, false, false] rfl rfl (any_of HT_.out (by kernel_rfl)) (fun _ _ _ h => h) (Or.inl ⟨by rfl, ?_⟩) ?_ ?_
                                      rotate_left
                                      · intro w'
                                        go_simp
                                        with_reducible rfl
                                      rotate_left
                                      · simp only [Act.put, List.setIfInBounds_toArray, List.set_cons_zero, List.set_cons_succ, i64_w, i32_w]
                                        rfl
                                      refine pure_ (i := 5) (N := some 37) (v := ?_) (a' := ?_) #[true, true, true, true, true, true, true, true, true, false, false, false, false, false] rfl rfl (any_of HT_.out (by kernel_rfl)) (fun _ _ _ h => h) (Or.inl ⟨by rfl, ?_⟩) ?_ ?_
                                      rotate_left
                                      · intro w'
                                        go_simp
                                        with_reducible rfl
                                      rotate_left
                                      · simp only [Act.put, List.setIfInBounds_toArray, List.set_cons_zero, List.set_cons_succ, i64_w, i32_w]
                                        rfl
                                      refine pure_ (i := 12) (N := some 12) (v := ?_) (a' := ?_) #[true, true, true, true, true, true, true, true, true, false, false, false, true, false] rfl rfl (any_of HT_.out (by kernel_rfl)) (fun _ _ _ h => h) (Or.inl ⟨by rfl, ?_⟩) ?_ ?_
                                      rotate_left
                                      · intro w'
                                        go_simp
                                        with_reducible rfl
                                      rotate_left
                                      · simp only [Act.put, List.setIfInBounds_toArray, List.set_cons_zero, List.set_cons_succ, i64_w, i32_w]
                                        rfl
                                      refine take_ (i := 9) (N := some 41) (v := ?_) (a' := ?_) #[true, true, true, true, true, true, true, true, true, true, false, false, true, false] rfl rfl (take_ofW HT_.out HW_.out (by kernel_rfl)) (fun _ _ _ h => h) (Or.inl ⟨by rfl, ?_⟩) hHeld ?_ ?_
                                      rotate_left
                                      · rintro w' ⟨s0, s1, s2, s3⟩
                                        go_simp
                                        with_reducible rfl
                                      rotate_left
                                      · simp only [Act.put, List.setIfInBounds_toArray, List.set_cons_zero, List.set_cons_succ, i64_w, i32_w]
                                        rfl
                                      refine pure_ (i := 10) (N := some 42) (v := ?_) (a' := ?_) #[true, true, true, true, true, true, true, true, true, true, true, false, true, false] rfl rfl (any_of HT_.out (by kernel_rfl)) (fun _ _ _ h => h) (Or.inl ⟨by rfl, ?_⟩) ?_ ?_
                                      rotate_left
                                      · intro w'
                                        go_simp
                                        with_reducible rfl
                                      rotate_left
                                      · simp only [Act.put, List.setIfInBounds_toArray, List.set_cons_zero, List.set_cons_succ, i64_w, i32_w]
                                        rfl
                                      refine pure_ (i := 11) (N := some 43) (v := ?_) (a' := ?_) #[true, true, true, true, true, true, true, true, true, true, true, true, true, false] rfl rfl (any_of HT_.out (by kernel_rfl)) (fun _ _ _ h => h) (Or.inl ⟨by rfl, ?_⟩) ?_ ?_
                                      rotate_left
                                      · intro w'
                                        go_simp
                                        with_reducible rfl
                                      rotate_left
                                      · simp only [Act.put, List.setIfInBounds_toArray, List.set_cons_zero, List.set_cons_succ, i64_w, i32_w]
                                        rfl
                                      refine pure_ (i := 13) (N := some 13) (v := ?_) (a' := ?_) #[true, true, true, true, true, true, true, true, true, true, true, true, true, true] rfl rfl (any_of HT_.out (by kernel_rfl)) (fun _ _ _ h => h) (Or.inl ⟨by rfl, ?_⟩) ?_ ?_
                                      rotate_left
                                      · intro w'
                                        go_simp
                                        with_reducible rfl
                                      rotate_left
                                      · simp only [Act.put, List.setIfInBounds_toArray, List.set_cons_zero, List.set_cons_succ, i64_w, i32_w]
                                        rfl
                                      refine done_ (done_of HT_.out (by kernel_rfl)) ?_
                                      have hnb44 := NB437_428.out
                                      have hnc44 := NB428_437.out
                                      have hnb45 := NB437_430.out
                                      have hnc45 := NB430_437.out
                                      have hcz46_0 : w43.cell? ⟨gb437, 0, none⟩ = some (.int .i64 t431) := (bkc BK437.out 0).trans rfl
                                      have hcz46_1 : w43.cell? ⟨gb437, 1, none⟩ = some (.int .i64 t432) := (bkc BK437.out 1).trans rfl
                                      have hcz46_2 : w43.cell? ⟨gb437, 2, none⟩ = some (.int .i64 t433) := (bkc BK437.out 2).trans rfl
                                      have hcz46_3 : w43.cell? ⟨gb437, 3, none⟩ = some (u438003) := (bkc BK437.out 3).trans rfl
                                      have hfz46_0 := bkz BK437.out 0
                                      have hfz46_1 := bkz BK437.out 1
                                      have hfz46_2 := bkz BK437.out 2
                                      have hfz46_3 := bkz BK437.out 3
                                      try go_wp2
                                      have n0_ := As0.mk (Kd.S_drew HO_438003.out)
                                      have n1_ := As0.mk (bkd BK428.out)
                                      have n2_ := As0.mk (bkd BK429.out)
                                      have n3_ := As0.mk (bkd BK430.out)
                                      have n4_ := As0.mk (bkd BK437.out)
                                      have n5_ := As0.mk (bwd HB.out)
                                      clear HO_438003
                                      clear BK428
                                      clear BK429
                                      clear BK430
                                      clear BK437
                                      clear HB
                                      have HO_438003 := n0_
                                      have BK428 := n1_
                                      have BK429 := n2_
                                      have BK430 := n3_
                                      have BK437 := n4_
                                      have HB := n5_
                                      clear n0_ n1_ n2_ n3_ n4_ n5_
                                      obtain ⟨Ao48, co48, eo48⟩ := Kd.S_slice HO_438003.out
                                      (first | subst eo48 | (injection eo48 with f1_ f2_ f3_; have f4_ := f1_.symm; have f5_ := f3_.symm; clear f1_ f2_ f3_; subst f4_; subst f5_))
                                      have p438 : 0 ≤ (x10_1 : Int) := of_decide_eq_true (by first | (with_reducible assumption) | assumption)
                                      have q438 : x10_1 < (x438003_2.length : Int) := of_decide_eq_true (by first | (with_reducible assumption) | assumption)
                                      obtain ⟨ad438, A438_0, c438_0, e438, hx438_0, hl438_0, hi438_0⟩ := at_L1 (Kd.S_reads' HO_438003.out).2.2 x10_1 p438 q438
                                      cases e438
                                      obtain ⟨ce438, hce438, hMe438, hcc438⟩ := Kd.S_get HO_438003.out [] x10_1 p438 (by first | exact q438 | exact of_decide_eq_true (by first | (with_reducible assumption) | assumption) | (have e_ := (Kd.S_reads' HO_438003.out).1; omega))
                                      obtain ⟨ve438_0, rfl, ge438_0⟩ := hMe438
                                      have hv438_0 := hcc438 0 _ rfl
                                      rw [Nat.add_zero, show ((Kd.slice 3 (Kd.int .i64))).sz = 1 from rfl, Nat.mul_one] at hv438_0
                                      replace hv438_0 := Option.some.inj (hv438_0.symm.trans hx438_0)
                                      rw [hv438_0] at ge438_0
                                      have HL438_0 := As0.mk (show Kd.R (Kd.int .i64) 3 _ _ _ _ (rd_L1 x438003_2 x10_1) from ge438_0)
                                      clear hv438_0 ge438_0
                                      have HX438_0 := As0.mk hx438_0
                                      clear hcc438 hce438
                                      have HR438_0 := As0.mk hi438_0
                                      have HC438_0 := As0.mk hl438_0
                                      clear hi438_0 hl438_0
                                      replace p438 := eq_true p438
                                      replace q438 := eq_true q438
                                      have p439 : 0 ≤ (x10_1 : Int) := of_decide_eq_true (by first | (with_reducible assumption) | assumption)
                                      have q439 : x10_1 < (l1_3.length : Int) := of_decide_eq_true (by first | (with_reducible assumption) | assumption)
                                      obtain ⟨ad439, A439_0, c439_0, e439, hx439_0, hl439_0, hi439_0⟩ := at_L1 HR1_3.out x10_1 p439 q439
                                      have hw439_0 := hx439_0
                                      cases e439
                                      replace hx439_0 := (HB.out.cell (World.block_lt_of_cell? w _ hx439_0)).trans hx439_0
                                      have HR439_0 := As0.mk hi439_0
                                      have HC439_0 := As0.mk hl439_0
                                      clear hi439_0 hl439_0
                                      replace p439 := eq_true p439
                                      replace q439 := eq_true q439
                                      have p440 : 0 ≤ (x11_2 : Int) := of_decide_eq_true (by first | (with_reducible assumption) | assumption)
                                      have q440 : x11_2 < ((rd_L1 l1_3 x10_1).length : Int) := of_decide_eq_true (by first | (with_reducible assumption) | assumption)
                                      obtain ⟨ad440, e440, hx440_0⟩ := Kd.at_int HR439_0.out x11_2 p440 q440
                                      have hw440_0 := hx440_0
                                      cases e440
                                      replace hx440_0 := (HB.out.cell (World.block_lt_of_cell? w _ hx440_0)).trans hx440_0
                                      replace p440 := eq_true p440
                                      replace q440 := eq_true q440
                                      have p38 : 0 ≤ ((ji35) : Int) := of_decide_eq_true (by first | (with_reducible assumption) | assumption)
                                      have q38 : ((ji35) : Int) < (((rd_L1 x438003_2 x10_1).length : Int) : Int) := of_decide_eq_true (by first | (with_reducible assumption) | assumption)
                                      obtain ⟨go38, co38, eo38, gb38, gl38, cl38, HG38⟩ := Kd.R_form HL438_0.out (by omega)
                                      (first | cases eo38 | (injection eo38 with ea_ en_ ec_; (first | subst ea_ | (injection ea_ with ea_; subst ea_)); subst ec_; clear en_))
                                      have GB38 := As0.mk gb38
                                      have GG38 := As0.mk HG38
                                      clear gb38 gl38 HG38
                                      obtain ⟨hx38_0, hf38_0⟩ := Kd.R_celln 0 HL438_0.out ((ji35) : Int) p38 q38
                                      replace p38 := eq_true p38
                                      replace q38 := eq_true q38
                                      have hq49 : (x10_1 : Int) < (x438003_2.length : Int) := (by have h_ : (x10_1 : Int) < ((x438003_2.length : Int) : Int) := of_decide_eq_true (by first | (with_reducible assumption) | assumption); first | exact h_ | (have e_ := (Kd.S_reads' HO_438003.out).1; omega) | simpa only [List.length_set, List.length_set] using h_)
                                      obtain ⟨oki49, ce49, hcl49, hM49, hcc49, hok49, hbk49⟩ := Kd.S_borrow HO_438003.out [] (x10_1 : Int) (of_decide_eq_true (by first | (with_reducible assumption) | assumption)) hq49
                                      obtain ⟨ve49_0, rfl, ge49_0⟩ := hM49
                                      have hv49 := hcc49 0 _ rfl
                                      rw [Nat.add_zero, show ((Kd.slice 3 (Kd.int .i64))).sz = 1 from rfl, Nat.mul_one] at hv49
                                      replace hv49 := Option.some.inj (hv49.symm.trans HX438_0.out)
                                      subst hv49
                                      clear hcc49 hcl49
                                      replace ge49_0 := (show Kd.R (Kd.int .i64) 3 _ _ _ _ (rd_L1 x438003_2 x10_1) from ge49_0)
                                      have HP49 := Kd.R_putg ge49_0 ((ji35) : Int) (rd (rd_L1 l1_3 x10_1) x11_2)
                                      rw [← Ny441.out] at HP49
                                      have HS49 := hbk49 HP49.2 (fun k_ e_ => by injection e_ with e_; subst e_; exact ge49_0.1 _ rfl) (x' := y441) (Kd.M_row HP49.1)
                                      rw [← Ny443.out] at HS49
                                      have HQ49 := As0.mk HS49
                                      clear HP49 HS49 hbk49 hok49
                                      refine start_ (n := 21) (S := fun w' => w'.cell? ⟨gb437, 0, none⟩ = some (.int .i64 t431) ∧ w'.cell? ⟨gb437, 1, none⟩ = some (.int .i64 t432) ∧ w'.cell? ⟨gb437, 2, none⟩ = some (.int .i64 t433) ∧ w'.cell? ⟨gb437, 3, none⟩ = some (.slice (some ad438) x438003_2.length co48) ∧ w'.cell? ⟨gb429, 0, none⟩ = some (.int .i64 a1_0) ∧ w'.cell? ⟨gb429, 1, none⟩ = some (.int .i64 a1_1) ∧ w'.cell? ⟨gb429, 2, none⟩ = some (.int .i64 a1_2) ∧ w'.cell? ⟨gb429, 3, none⟩ = some (.slice (some ad439) l1_3.length c1_3) ∧ w'.cell? (ad438.add (x10_1).toNat) = some (.slice (some ⟨go38, 0, none⟩) (rd_L1 x438003_2 x10_1).length c438_0) ∧ w'.cell? (ad439.add (x10_1).toNat) = some (.slice (some ad440) (rd_L1 l1_3 x10_1).length c439_0) ∧ w'.cell? (ad440.add (x11_2).toNat) = some (.int .i64 (rd (rd_L1 l1_3 x10_1) x11_2))) (ds := [20]) #[false, false, false, false, false, false, false, false, false, false, false, false, false, false, false, false, false, false, false, false, false] (by kernel_rfl) rfl rfl ⟨(bkc BK437.out 0).trans rfl, (bkc BK437.out 1).trans rfl, (bkc BK437.out 2).trans rfl, (bkc BK437.out 3).trans rfl, (bkc BK429.out 0).trans rfl, (bkc BK429.out 1).trans rfl, (bkc BK429.out 2).trans rfl, (bkc BK429.out 3).trans rfl, hx438_0, ((HB.out.cell (World.block_lt_of_cell? w _ hw439_0)).trans hw439_0), ((HB.out.cell (World.block_lt_of_cell? w _ hw440_0)).trans hw440_0)⟩ (fun hHeld => ?_); refine with_tabW r15_drawn.tab10 r15_drawn.bits10 (fun HT_ HW_ => ?_)
                                      generalize w43.drew = w47 at HO_438003 BK428 BK429 BK430 BK437 HB GG38 HL438_0 HQ49 HR438_0 HR439_0 HX438_0 hf38_0 hx38_0 hx438_0 hx439_0 hx440_0 hHeld ⊢
                                      refine pure_ (i := 0) (N := some 62) (v := ?_) (a' := ?_) #[true, false, false, false, false, false, false, false, false, false, false, false, false, false, false, false, false, false, false, false, false] rfl rfl (any_of HT_.out (by kernel_rfl)) (fun _ _ _ h => h) (Or.inl ⟨by rfl, ?_⟩) ?_ ?_
                                      rotate_left
                                      · intro w'
                                        go_simp
                                        with_reducible rfl
                                      rotate_left
                                      · simp only [Act.put, List.setIfInBounds_toArray, List.set_cons_zero, List.set_cons_succ, i64_w, i32_w]
                                        rfl
                                      refine pure_ (i := 2) (N := some 64) (v := ?_) (a' := ?_) #[true, false, true, false, false, false, false, false, false, false, false, false, false, false, false, false, false, false, false, false, false] rfl rfl (any_of HT_.out (by kernel_rfl)) (fun _ _ _ h => h) (Or.inl ⟨by rfl, ?_⟩) ?_ ?_
                                      rotate_left
                                      · intro w'
                                        go_simp
                                        with_reducible rfl
                                      rotate_left
                                      · simp only [Act.put, List.setIfInBounds_toArray, List.set_cons_zero, List.set_cons_succ, i64_w, i32_w]
                                        rfl
                                      refine pure_ (i := 5) (N := some 67) (v := ?_) (a' := ?_) #[true, false, true, false, false, true, false, false, false, false, false, false, false, false, false, false, false, false, false, false, false] rfl rfl (any_of HT_.out (by kernel_rfl)) (fun _ _ _ h => h) (Or.inl ⟨by rfl, ?_⟩) ?_ ?_
                                      rotate_left
                                      · intro w'
                                        go_simp
                                        with_reducible rfl
                                      rotate_left
                                      · simp only [Act.put, List.setIfInBounds_toArray, List.set_cons_zero, List.set_cons_succ, i64_w, i32_w]
                                        rfl
                                      refine pure_ (i := 6) (N := some 68) (v := ?_) (a' := ?_) #[true, false, true, false, false, true, true, false, false, false, false, false, false, false, false, false, false, false, false, false, false] rfl rfl (any_of HT_.out (by kernel_rfl)) (fun _ _ _ h => h) (Or.inl ⟨by rfl, ?_⟩) ?_ ?_
                                      rotate_left
                                      · intro w'
                                        go_simp
                                        with_reducible rfl
                                      rotate_left
                                      · simp only [Act.put, List.setIfInBounds_toArray, List.set_cons_zero, List.set_cons_succ, i64_w, i32_w]
                                        rfl
                                      refine pure_ (i := 9) (N := some 71) (v := ?_) (a' := ?_) #[true, false, true, false, false, true, true, false, false, true, false, false, false, false, false, false, false, false, false, false, false] rfl rfl (any_of HT_.out (by kernel_rfl)) (fun _ _ _ h => h) (Or.inl ⟨by rfl, ?_⟩) ?_ ?_
                                      rotate_left
                                      · intro w'
                                        go_simp
                                        with_reducible rfl
                                      rotate_left
                                      · simp only [Act.put, List.setIfInBounds_toArray, List.set_cons_zero, List.set_cons_succ, i64_w, i32_w]
                                        rfl
                                      refine pure_ (i := 11) (N := some 73) (v := ?_) (a' := ?_) #[true, false, true, false, false, true, true, false, false, true, false, true, false, false, false, false, false, false, false, false, false] rfl rfl (any_of HT_.out (by kernel_rfl)) (fun _ _ _ h => h) (Or.inl ⟨by rfl, ?_⟩) ?_ ?_
                                      rotate_left
                                      · intro w'
                                        go_simp
                                        with_reducible rfl
                                      rotate_left
                                      · simp only [Act.put, List.setIfInBounds_toArray, List.set_cons_zero, List.set_cons_succ, i64_w, i32_w]
                                        rfl
                                      refine pure_ (i := 13) (N := some 75) (v := ?_) (a' := ?_) #[true, false, true, false, false, true, true, false, false, true, false, true, false, true, false, false, false, false, false, false, false] rfl rfl (any_of HT_.out (by kernel_rfl)) (fun _ _ _ h => h) (Or.inl ⟨by rfl, ?_⟩) ?_ ?_
                                      rotate_left
                                      · intro w'
                                        go_simp
                                        with_reducible rfl
                                      rotate_left
                                      · simp only [Act.put, List.setIfInBounds_toArray, List.set_cons_zero, List.set_cons_succ, i64_w, i32_w]
                                        rfl
                                      refine pure_ (i := 16) (N := some 78) (v := ?_) (a' := ?_) #[true, false, true, false, false, true, true, false, false, true, false, true, false, true, false, false, true, false, false, false, false] rfl rfl (any_of HT_.out (by kernel_rfl)) (fun _ _ _ h => h) (Or.inl ⟨by rfl, ?_⟩) ?_ ?_
                                      rotate_left
                                      · intro w'
                                        go_simp
                                        with_reducible rfl
                                      rotate_left
                                      · simp only [Act.put, List.setIfInBounds_toArray, List.set_cons_zero, List.set_cons_succ, i64_w, i32_w]
                                        rfl
                                      refine take_ (i := 1) (N := some 63) (v := ?_) (a' := ?_) #[true, true, true, false, false, true, true, false, false, true, false, true, false, true, false, false, true, false, false, false, false] rfl rfl (take_ofW HT_.out HW_.out (by kernel_rfl)) (fun _ _ _ h => h) (Or.inl ⟨by rfl, ?_⟩) hHeld ?_ ?_
                                      rotate_left
                                      · rintro w' ⟨s0, s1, s2, s3, s4, s5, s6, s7, s8, s9, s10⟩
                                        go_simp
                                        with_reducible rfl
                                      rotate_left
                                      · simp only [Act.put, List.setIfInBounds_toArray, List.set_cons_zero, List.set_cons_succ, i64_w, i32_w]
                                        rfl
                                      refine pure_ (i := 3) (N := some 65) (v := ?_) (a' := ?_) #[true, true, true, true, false, true, true, false, false, true, false, true, false, true, false, false, true, false, false, false, false] rfl rfl (any_of HT_.out (by kernel_rfl)) (fun _ _ _ h => h) (Or.inl ⟨by rfl, ?_⟩) ?_ ?_
                                      rotate_left
                                      · intro w'
                                        go_simp
                                        with_reducible rfl
                                      rotate_left
                                      · simp only [Act.put, List.setIfInBounds_toArray, List.set_cons_zero, List.set_cons_succ, i64_w, i32_w]
                                        rfl
                                      refine take_ (i := 4) (N := some 66) (v := ?_) (a' := ?_) #[true, true, true, true, true, true, true, false, false, true, false, true, false, true, false, false, true, false, false, false, false] rfl rfl (take_ofW HT_.out HW_.out (by kernel_rfl)) (fun _ _ _ h => h) (Or.inl ⟨by rfl, ?_⟩) hHeld ?_ ?_
                                      rotate_left
                                      · rintro w' ⟨s0, s1, s2, s3, s4, s5, s6, s7, s8, s9, s10⟩
                                        go_simp
                                        with_reducible rfl
                                      rotate_left
                                      · simp only [Act.put, List.setIfInBounds_toArray, List.set_cons_zero, List.set_cons_succ, i64_w, i32_w]
                                        rfl
                                      refine take_ (i := 7) (N := some 69) (v := ?_) (a' := ?_) #[true, true, true, true, true, true, true, true, false, true, false, true, false, true, false, false, true, false, false, false, false] rfl rfl (take_ofW HT_.out HW_.out (by kernel_rfl)) (fun _ _ _ h => h) (Or.inl ⟨by rfl, ?_⟩) hHeld ?_ ?_
                                      rotate_left
                                      · rintro w' ⟨s0, s1, s2, s3, s4, s5, s6, s7, s8, s9, s10⟩
                                        go_simp
                                        with_reducible rfl
                                      rotate_left
                                      · simp only [Act.put, List.setIfInBounds_toArray, List.set_cons_zero, List.set_cons_succ, i64_w, i32_w]
                                        rfl
                                      refine pure_ (i := 8) (N := some 70) (v := ?_) (a' := ?_) #[true, true, true, true, true, true, true, true, true, true, false, true, false, true, false, false, true, false, false, false, false] rfl rfl (any_of HT_.out (by kernel_rfl)) (fun _ _ _ h => h) (Or.inl ⟨by rfl, ?_⟩) ?_ ?_
                                      rotate_left
                                      · intro w'
                                        go_simp
                                        with_reducible rfl
                                      rotate_left
                                      · simp only [Act.put, List.setIfInBounds_toArray, List.set_cons_zero, List.set_cons_succ, i64_w, i32_w]
                                        rfl
                                      refine pure_ (i := 10) (N := some 72) (v := ?_) (a' := ?_) #[true, true, true, true, true, true, true, true, true, true, true, true, false, true, false, false, true, false, false, false, false] rfl rfl (any_of HT_.out (by kernel_rfl)) (fun _ _ _ h => h) (Or.inl ⟨by rfl, ?_⟩) ?_ ?_
                                      rotate_left
                                      · intro w'
                                        go_simp
                                        with_reducible rfl
                                      rotate_left
                                      · simp only [Act.put, List.setIfInBounds_toArray, List.set_cons_zero, List.set_cons_succ, i64_w, i32_w]
                                        rfl
                                      refine take_ (i := 12) (N := some 74) (v := ?_) (a' := ?_) #[true, true, true, true, true, true, true, true, true, true, true, true, true, true, false, false, true, false, false, false, false] rfl rfl (take_ofW HT_.out HW_.out (by kernel_rfl)) (fun _ _ _ h => h) (Or.inl ⟨by rfl, ?_⟩) hHeld ?_ ?_
                                      rotate_left
                                      · rintro w' ⟨s0, s1, s2, s3, s4, s5, s6, s7, s8, s9, s10⟩
                                        go_simp
                                        with_reducible rfl
                                      rotate_left
                                      · simp only [Act.put, List.setIfInBounds_toArray, List.set_cons_zero, List.set_cons_succ, i64_w, i32_w]
                                        rfl
                                      refine pure_ (i := 14) (N := some 76) (v := ?_) (a' := ?_) #[true, true, true, true, true, true, true, true, true, true, true, true, true, true, true, false, true, false, false, false, false] rfl rfl (any_of HT_.out (by kernel_rfl)) (fun _ _ _ h => h) (Or.inl ⟨by rfl, ?_⟩) ?_ ?_
                                      rotate_left
                                      · intro w'
                                        go_simp
                                        with_reducible rfl
                                      rotate_left
                                      · simp only [Act.put, List.setIfInBounds_toArray, List.set_cons_zero, List.set_cons_succ, i64_w, i32_w]
                                        rfl
                                      refine take_ (i := 15) (N := some 77) (v := ?_) (a' := ?_) #[true, true, true, true, true, true, true, true, true, true, true, true, true, true, true, true, true, false, false, false, false] rfl rfl (take_ofW HT_.out HW_.out (by kernel_rfl)) (fun _ _ _ h => h) (Or.inl ⟨by rfl, ?_⟩) hHeld ?_ ?_
                                      rotate_left
                                      · rintro w' ⟨s0, s1, s2, s3, s4, s5, s6, s7, s8, s9, s10⟩
                                        go_simp
                                        with_reducible rfl
                                      rotate_left
                                      · simp only [Act.put, List.setIfInBounds_toArray, List.set_cons_zero, List.set_cons_succ, i64_w, i32_w]
                                        rfl
                                      refine pure_ (i := 17) (N := some 79) (v := ?_) (a' := ?_) #[true, true, true, true, true, true, true, true, true, true, true, true, true, true, true, true, true, true, false, false, false] rfl rfl (any_of HT_.out (by kernel_rfl)) (fun _ _ _ h => h) (Or.inl ⟨by rfl, ?_⟩) ?_ ?_
                                      rotate_left
                                      · intro w'
                                        go_simp
                                        with_reducible rfl
                                      rotate_left
                                      · simp only [Act.put, List.setIfInBounds_toArray, List.set_cons_zero, List.set_cons_succ, i64_w, i32_w]
                                        rfl
                                      refine take_ (i := 18) (N := some 80) (v := ?_) (a' := ?_) #[true, true, true, true, true, true, true, true, true, true, true, true, true, true, true, true, true, true, true, false, false] rfl rfl (take_ofW HT_.out HW_.out (by kernel_rfl)) (fun _ _ _ h => h) (Or.inl ⟨by rfl, ?_⟩) hHeld ?_ ?_
                                      rotate_left
                                      · rintro w' ⟨s0, s1, s2, s3, s4, s5, s6, s7, s8, s9, s10⟩
                                        go_simp
                                        with_reducible rfl
                                      rotate_left
                                      · simp only [Act.put, List.setIfInBounds_toArray, List.set_cons_zero, List.set_cons_succ, i64_w, i32_w]
                                        rfl
                                      refine pure_ (i := 19) (N := some 81) (v := ?_) (a' := ?_) #[true, true, true, true, true, true, true, true, true, true, true, true, true, true, true, true, true, true, true, true, false] rfl rfl (any_of HT_.out (by kernel_rfl)) (fun _ _ _ h => h) (Or.inl ⟨by rfl, ?_⟩) ?_ ?_
                                      rotate_left
                                      · intro w'
                                        go_simp
                                        with_reducible rfl
                                      rotate_left
                                      · simp only [Act.put, List.setIfInBounds_toArray, List.set_cons_zero, List.set_cons_succ, i64_w, i32_w]
                                        rfl
                                      refine last_ (i := 20) (N := none) #[true, true, true, true, true, true, true, true, true, true, true, true, true, true, true, true, true, true, true, true, true] rfl rfl (one_of HT_.out (by kernel_rfl)) (by decide) (fun K hK => ?_)
                                      refine skip_ (w1 := ?_) (by rfl) rfl ?_ ?_
                                      rotate_left
                                      · go_simp
                                        rfl
                                      refine hK.out _ _ ?_
                                      clear hK K
                                      refine done_ (done_of HT_.out (by kernel_rfl)) ?_
                                      try go_wp2
                                      go_roundg k2
                                      case measure => have := HK1.out; have := HK2.out; omega
                                      case rel => exact ⟨(wrap64 (x11_2 + 1)), (y443), (.slice (some ad438) x438003_2.length co48), (by first | rfl | (simp; done) | (simp [*]; done)), H', ⟨by have := HK1.out; have := HK2.out; omega⟩, ⟨by (with_reducible repeat (first | apply Kd.S_alloc | apply Kd.S_drewN | apply Kd.S_drew)); exact HQ49.out⟩, ⟨by (with_reducible repeat (first | refine bkN ?_ _ | refine bkd ?_ | refine bka ?_ _)); refine bkf ?_ (by have h_ := Kd.R_ne HL438_0.out BK428.out (by decide); intro e_; exact h_ (by rw [e_]; rfl)) _; (with_reducible repeat (first | refine bkN ?_ _ | refine bkd ?_ | refine bka ?_ _)); exact BK428.out⟩, ⟨by (with_reducible repeat (first | refine bkN ?_ _ | refine bkd ?_ | refine bka ?_ _)); refine bkf ?_ (by have h_ := Kd.R_ne HL438_0.out BK429.out (by decide); intro e_; exact h_ (by rw [e_]; rfl)) _; (with_reducible repeat (first | refine bkN ?_ _ | refine bkd ?_ | refine bka ?_ _)); exact BK429.out⟩, ⟨by (with_reducible repeat (first | refine bkN ?_ _ | refine bkd ?_ | refine bka ?_ _)); refine bkf ?_ (by have h_ := Kd.R_ne HL438_0.out BK430.out (by decide); intro e_; exact h_ (by rw [e_]; rfl)) _; (with_reducible repeat (first | refine bkN ?_ _ | refine bkd ?_ | refine bka ?_ _)); exact BK430.out⟩, ⟨by (with_reducible repeat (first | refine bkN ?_ _ | refine bkd ?_ | refine bka ?_ _)); refine bkf ?_ (by have h_ := Kd.R_ne HL438_0.out BK437.out (by decide); intro e_; exact h_ (by rw [e_]; rfl)) _; (with_reducible repeat (first | refine bkN ?_ _ | refine bkd ?_ | refine bka ?_ _)); exact BK437.out⟩, ⟨by repeat (first | (with_reducible first | exact HB.out | apply bwa | apply pwN | apply bwd | refine bws ?_ GB38.out | refine bws ?_ GE428.out | refine bws ?_ GE429.out | refine bws ?_ GE430.out | refine bws ?_ GE437.out) | exact HB.out)⟩⟩
                                    · rw [if_neg c37] at H
                                      exact absurd H (by simp)
                                  · rw [if_neg c36] at H
                                    exact absurd H (by simp)
                                · rw [if_neg c34] at H
                                  exact absurd H (by simp)
                              · rw [if_neg c33] at H
                                exact absurd H (by simp)
                            · rw [if_neg c32] at H
                              exact absurd H (by simp)
                          · rw [if_neg c31] at H
                            exact absurd H (by simp)
                        · rw [if_neg c30] at H
                          exact absurd H (by simp)
                      · rw [if_neg c29] at H
                        have c29b0 : decide ((wrap64 (a3 + (wrap64 (Int.tdiv x11_2 a1_0)))) < t432) = false := decide_eq_false c29
                        clear c29
                        have H' := As0.mk H
                        clear H
                        have hnb51 := NB429_428.out
                        have hnc51 := NB428_429.out
                        have hnb52 := NB429_430.out
                        have hnc52 := NB430_429.out
                        have hnb53 := NB429_437.out
                        have hnc53 := NB437_429.out
                        have hcz54_0 : wr.cell? ⟨gb429, 0, none⟩ = some (.int .i64 a1_0) := (bkc BK429.out 0).trans rfl
                        have hcz54_1 : wr.cell? ⟨gb429, 1, none⟩ = some (.int .i64 a1_1) := (bkc BK429.out 1).trans rfl
                        have hcz54_2 : wr.cell? ⟨gb429, 2, none⟩ = some (.int .i64 a1_2) := (bkc BK429.out 2).trans rfl
                        have hcz54_3 : wr.cell? ⟨gb429, 3, none⟩ = some (.slice A1_3 l1_3.length c1_3) := (bkc BK429.out 3).trans rfl
                        have hfz54_0 := bkz BK429.out 0
                        have hfz54_1 := bkz BK429.out 1
                        have hfz54_2 := bkz BK429.out 2
                        have hfz54_3 := bkz BK429.out 3
                        try go_wp2
                        have n0_ := As0.mk (Kd.S_drew HO_438003.out)
                        have n1_ := As0.mk (bkd BK428.out)
                        have n2_ := As0.mk (bkd BK429.out)
                        have n3_ := As0.mk (bkd BK430.out)
                        have n4_ := As0.mk (bkd BK437.out)
                        have n5_ := As0.mk (bwd HB.out)
                        clear HO_438003
                        clear BK428
                        clear BK429
                        clear BK430
                        clear BK437
                        clear HB
                        have HO_438003 := n0_
                        have BK428 := n1_
                        have BK429 := n2_
                        have BK430 := n3_
                        have BK437 := n4_
                        have HB := n5_
                        clear n0_ n1_ n2_ n3_ n4_ n5_
                        refine start_ (n := 14) (S := fun w' => w'.cell? ⟨gb429, 0, none⟩ = some (.int .i64 a1_0) ∧ w'.cell? ⟨gb429, 1, none⟩ = some (.int .i64 a1_1) ∧ w'.cell? ⟨gb429, 2, none⟩ = some (.int .i64 a1_2) ∧ w'.cell? ⟨gb429, 3, none⟩ = some (.slice A1_3 l1_3.length c1_3)) (ds := []) #[false, false, false, false, false, false, false, false, false, false, false, false, false, false] (by kernel_rfl) rfl rfl ⟨(bkc BK429.out 0).trans rfl, (bkc BK429.out 1).trans rfl, (bkc BK429.out 2).trans rfl, (bkc BK429.out 3).trans rfl⟩ (fun hHeld => ?_); refine with_tabW r15_drawn.tab8 r15_drawn.bits8 (fun HT_ HW_ => ?_)
                        generalize wr.drew = w55 at HO_438003 BK428 BK429 BK430 BK437 HB hHeld ⊢
                        refine pure_ (i := 0) (N := some 32) (v := ?_) (a' := ?_) #[true, false, false, false, false, false, false, false, false, false, false, false, false, false] rfl rfl (any_of HT_.out (by kernel_rfl)) (fun _ _ _ h => h) (Or.inl ⟨by rfl, ?_⟩) ?_ ?_
                        rotate_left
                        · intro w'
                          go_simp
                          with_reducible rfl
                        rotate_left
                        · simp only [Act.put, List.setIfInBounds_toArray, List.set_cons_zero, List.set_cons_succ, i64_w, i32_w]
                          rfl
                        refine pure_ (i := 1) (N := some 33) (v := ?_) (a' := ?_) #[true, true, false, false, false, false, false, false, false, false, false, false, false, false] rfl rfl (any_of HT_.out (by kernel_rfl)) (fun _ _ _ h => h) (Or.inl ⟨by rfl, ?_⟩) ?_ ?_
                        rotate_left
                        · intro w'
                          go_simp
                          with_reducible rfl
                        rotate_left
                        · simp only [Act.put, List.setIfInBounds_toArray, List.set_cons_zero, List.set_cons_succ, i64_w, i32_w]
                          rfl
                        refine pure_ (i := 2) (N := some 34) (v := ?_) (a' := ?_) #[true, true, true, false, false, false, false, false, false, false, false, false, false, false] rfl rfl (any_of HT_.out (by kernel_rfl)) (fun _ _ _ h => h) (Or.inl ⟨by rfl, ?_⟩) ?_ ?_
                        rotate_left
                        · intro w'
                          go_simp
                          with_reducible rfl
                        rotate_left
                        · simp only [Act.put, List.setIfInBounds_toArray, List.set_cons_zero, List.set_cons_succ, i64_w, i32_w]
                          rfl
                        refine pure_ (i := 6) (N := some 38) (v := ?_) (a' := ?_) #[true, true, true, false, false, false, true, false, false, false, false, false, false, false] rfl rfl (any_of HT_.out (by kernel_rfl)) (fun _ _ _ h => h) (Or.inl ⟨by rfl, ?_⟩) ?_ ?_
                        rotate_left
                        · intro w'
                          go_simp
                          with_reducible rfl
                        rotate_left
                        · simp only [Act.put, List.setIfInBounds_toArray, List.set_cons_zero, List.set_cons_succ, i64_w, i32_w]
                          rfl
                        refine pure_ (i := 7) (N := some 39) (v := ?_) (a' := ?_) #[true, true, true, false, false, false, true, true, false, false, false, false, false, false] rfl rfl (any_of HT_.out (by kernel_rfl)) (fun _ _ _ h => h) (Or.inl ⟨by rfl, ?_⟩) ?_ ?_
                        rotate_left
                        · intro w'
                          go_simp
                          with_reducible rfl
                        rotate_left
                        · simp only [Act.put, List.setIfInBounds_toArray, List.set_cons_zero, List.set_cons_succ, i64_w, i32_w]
                          rfl
                        refine pure_ (i := 8) (N := some 40) (v := ?_) (a' := ?_) #[true, true, true, false, false, false, true, true, true, false, false, false, false, false] rfl rfl (any_of HT_.out (by kernel_rfl)) (fun _ _ _ h => h) (Or.inl ⟨by rfl, ?_⟩) ?_ ?_
                        rotate_left
                        · intro w'
                          go_simp
                          with_reducible rfl
                        rotate_left
                        · simp only [Act.put, List.setIfInBounds_toArray, List.set_cons_zero, List.set_cons_succ, i64_w, i32_w]
                          rfl
                        refine take_ (i := 3) (N := some 35) (v := ?_) (a' := ?_) #[true, true, true, true, false, false, true, true, true, false, false, false, false, false] rfl rfl (take_ofW HT_.out HW_.out (by kernel_rfl)) (fun _ _ _ h => h) (Or.inl ⟨by rfl, ?_⟩) hHeld ?_ ?_
                        rotate_left
                        · rintro w' ⟨s0, s1, s2, s3⟩
                          go_simp
                          with_reducible rfl
                        rotate_left
                        · simp only [Act.put, List.setIfInBounds_toArray, List.set_cons_zero, List.set_cons_succ, i64_w, i32_w]
                          rfl
                        refine pure_ (i := 4) (N := some 36) (v := ?_) (a' := ?_) #[true, true, true, true, true, false, true, true, true, false, false, false, false, false] rfl rfl (any_of HT_.out (by kernel_rfl)) (fun _ _ _ h => h) (Or.inl ⟨by rfl, ?_⟩) ?_ ?_
                        rotate_left
                        · intro w'
                          go_simp
                          with_reducible rfl
                        rotate_left
                        · simp only [Act.put, List.setIfInBounds_toArray, List.set_cons_zero, List.set_cons_succ, i64_w, i32_w]
                          rfl
                        refine pure_ (i := 5) (N := some 37) (v := ?_) (a' := ?_) #[true, true, true, true, true, true, true, true, true, false, false, false, false, false] rfl rfl (any_of HT_.out (by kernel_rfl)) (fun _ _ _ h => h) (Or.inl ⟨by rfl, ?_⟩) ?_ ?_
                        rotate_left
                        · intro w'
                          go_simp
                          with_reducible rfl
                        rotate_left
                        · simp only [Act.put, List.setIfInBounds_toArray, List.set_cons_zero, List.set_cons_succ, i64_w, i32_w]
                          rfl
                        refine pure_ (i := 12) (N := some 12) (v := ?_) (a' := ?_) #[true, true, true, true, true, true, true, true, true, false, false, false, true, false] rfl rfl (any_of HT_.out (by kernel_rfl)) (fun _ _ _ h => h) (Or.inl ⟨by rfl, ?_⟩) ?_ ?_
                        rotate_left
                        · intro w'
                          go_simp
                          with_reducible rfl
                        rotate_left
                        · simp only [Act.put, List.setIfInBounds_toArray, List.set_cons_zero, List.set_cons_succ, i64_w, i32_w]
                          rfl
                        refine take_ (i := 9) (N := some 41) (v := ?_) (a' := ?_) #[true, true, true, true, true, true, true, true, true, true, false, false, true, false] rfl rfl (take_ofW HT_.out HW_.out (by kernel_rfl)) (fun _ _ _ h => h) (Or.inl ⟨by rfl, ?_⟩) hHeld ?_ ?_
                        rotate_left
                        · rintro w' ⟨s0, s1, s2, s3⟩
                          go_simp
                          with_reducible rfl
                        rotate_left
                        · simp only [Act.put, List.setIfInBounds_toArray, List.set_cons_zero, List.set_cons_succ, i64_w, i32_w]
                          rfl
                        refine pure_ (i := 10) (N := some 42) (v := ?_) (a' := ?_) #[true, true, true, true, true, true, true, true, true, true, true, false, true, false] rfl rfl (any_of HT_.out (by kernel_rfl)) (fun _ _ _ h => h) (Or.inl ⟨by rfl, ?_⟩) ?_ ?_
                        rotate_left
                        · intro w'
                          go_simp
                          with_reducible rfl
                        rotate_left
                        · simp only [Act.put, List.setIfInBounds_toArray, List.set_cons_zero, List.set_cons_succ, i64_w, i32_w]
                          rfl
                        refine pure_ (i := 11) (N := some 43) (v := ?_) (a' := ?_) #[true, true, true, true, true, true, true, true, true, true, true, true, true, false] rfl rfl (any_of HT_.out (by kernel_rfl)) (fun _ _ _ h => h) (Or.inl ⟨by rfl, ?_⟩) ?_ ?_
                        rotate_left
                        · intro w'
                          go_simp
                          with_reducible rfl
                        rotate_left
                        · simp only [Act.put, List.setIfInBounds_toArray, List.set_cons_zero, List.set_cons_succ, i64_w, i32_w]
                          rfl
                        refine pure_ (i := 13) (N := some 13) (v := ?_) (a' := ?_) #[true, true, true, true, true, true, true, true, true, true, true, true, true, true] rfl rfl (any_of HT_.out (by kernel_rfl)) (fun _ _ _ h => h) (Or.inl ⟨by rfl, ?_⟩) ?_ ?_
                        rotate_left
                        · intro w'
                          go_simp
                          with_reducible rfl
                        rotate_left
                        · simp only [Act.put, List.setIfInBounds_toArray, List.set_cons_zero, List.set_cons_succ, i64_w, i32_w]
                          rfl
                        refine done_ (done_of HT_.out (by kernel_rfl)) ?_
                        have hnb56 := NB437_428.out
                        have hnc56 := NB428_437.out
                        have hnb57 := NB437_430.out
                        have hnc57 := NB430_437.out
                        have hcz58_0 : w55.cell? ⟨gb437, 0, none⟩ = some (.int .i64 t431) := (bkc BK437.out 0).trans rfl
                        have hcz58_1 : w55.cell? ⟨gb437, 1, none⟩ = some (.int .i64 t432) := (bkc BK437.out 1).trans rfl
                        have hcz58_2 : w55.cell? ⟨gb437, 2, none⟩ = some (.int .i64 t433) := (bkc BK437.out 2).trans rfl
                        have hcz58_3 : w55.cell? ⟨gb437, 3, none⟩ = some (u438003) := (bkc BK437.out 3).trans rfl
                        have hfz58_0 := bkz BK437.out 0
                        have hfz58_1 := bkz BK437.out 1
                        have hfz58_2 := bkz BK437.out 2
                        have hfz58_3 := bkz BK437.out 3
                        try go_wp2
                        go_roundg k2
                        case measure => have := HK1.out; have := HK2.out; omega
                        case rel => exact ⟨(wrap64 (x11_2 + 1)), (x438003_2), (u438003), (by first | rfl | (simp; done) | (simp [*]; done)), H', ⟨by have := HK1.out; have := HK2.out; omega⟩, ⟨by (with_reducible repeat (first | apply Kd.S_alloc | apply Kd.S_drewN | apply Kd.S_drew)); exact HO_438003.out⟩, ⟨by (with_reducible repeat (first | refine bkN ?_ _ | refine bkd ?_ | refine bka ?_ _)); exact BK428.out⟩, ⟨by (with_reducible repeat (first | refine bkN ?_ _ | refine bkd ?_ | refine bka ?_ _)); exact BK429.out⟩, ⟨by (with_reducible repeat (first | refine bkN ?_ _ | refine bkd ?_ | refine bka ?_ _)); exact BK430.out⟩, ⟨by (with_reducible repeat (first | refine bkN ?_ _ | refine bkd ?_ | refine bka ?_ _)); exact BK437.out⟩, ⟨by repeat (first | (with_reducible first | exact HB.out | apply bwa | apply pwN | apply bwd | refine bws ?_ GE428.out | refine bws ?_ GE429.out | refine bws ?_ GE430.out | refine bws ?_ GE437.out) | exact HB.out)⟩⟩
                    · rw [if_neg c28] at H
                      have c28b0 : decide (0 ≤ (wrap64 (a3 + (wrap64 (Int.tdiv x11_2 a1_0))))) = false := decide_eq_false c28
                      clear c28
                      have H' := As0.mk H
                      clear H
                      have hnb59 := NB429_428.out
                      have hnc59 := NB428_429.out
                      have hnb60 := NB429_430.out
                      have hnc60 := NB430_429.out
                      have hnb61 := NB429_437.out
                      have hnc61 := NB437_429.out
                      have hcz62_0 : wr.cell? ⟨gb429, 0, none⟩ = some (.int .i64 a1_0) := (bkc BK429.out 0).trans rfl
                      have hcz62_1 : wr.cell? ⟨gb429, 1, none⟩ = some (.int .i64 a1_1) := (bkc BK429.out 1).trans rfl
                      have hcz62_2 : wr.cell? ⟨gb429, 2, none⟩ = some (.int .i64 a1_2) := (bkc BK429.out 2).trans rfl
                      have hcz62_3 : wr.cell? ⟨gb429, 3, none⟩ = some (.slice A1_3 l1_3.length c1_3) := (bkc BK429.out 3).trans rfl
                      have hfz62_0 := bkz BK429.out 0
                      have hfz62_1 := bkz BK429.out 1
                      have hfz62_2 := bkz BK429.out 2
                      have hfz62_3 := bkz BK429.out 3
                      try go_wp2
                      have n0_ := As0.mk (Kd.S_drew HO_438003.out)
                      have n1_ := As0.mk (bkd BK428.out)
                      have n2_ := As0.mk (bkd BK429.out)
                      have n3_ := As0.mk (bkd BK430.out)
                      have n4_ := As0.mk (bkd BK437.out)
                      have n5_ := As0.mk (bwd HB.out)
                      clear HO_438003
                      clear BK428
                      clear BK429
                      clear BK430
                      clear BK437
                      clear HB
                      have HO_438003 := n0_
                      have BK428 := n1_
                      have BK429 := n2_
                      have BK430 := n3_
                      have BK437 := n4_
                      have HB := n5_
                      clear n0_ n1_ n2_ n3_ n4_ n5_
                      refine start_ (n := 14) (S := fun w' => w'.cell? ⟨gb429, 0, none⟩ = some (.int .i64 a1_0) ∧ w'.cell? ⟨gb429, 1, none⟩ = some (.int .i64 a1_1) ∧ w'.cell? ⟨gb429, 2, none⟩ = some (.int .i64 a1_2) ∧ w'.cell? ⟨gb429, 3, none⟩ = some (.slice A1_3 l1_3.length c1_3)) (ds := []) #[false, false, false, false, false, false, false, false, false, false, false, false, false, false] (by kernel_rfl) rfl rfl ⟨(bkc BK429.out 0).trans rfl, (bkc BK429.out 1).trans rfl, (bkc BK429.out 2).trans rfl, (bkc BK429.out 3).trans rfl⟩ (fun hHeld => ?_); refine with_tabW r15_drawn.tab8 r15_drawn.bits8 (fun HT_ HW_ => ?_)
                      generalize wr.drew = w63 at HO_438003 BK428 BK429 BK430 BK437 HB hHeld ⊢
                      refine pure_ (i := 0) (N := some 32) (v := ?_) (a' := ?_) #[true, false, false, false, false, false, false, false, false, false, false, false, false, false] rfl rfl (any_of HT_.out (by kernel_rfl)) (fun _ _ _ h => h) (Or.inl ⟨by rfl, ?_⟩) ?_ ?_
                      rotate_left
                      · intro w'
                        go_simp
                        with_reducible rfl
                      rotate_left
                      · simp only [Act.put, List.setIfInBounds_toArray, List.set_cons_zero, List.set_cons_succ, i64_w, i32_w]
                        rfl
                      refine pure_ (i := 1) (N := some 33) (v := ?_) (a' := ?_) #[true, true, false, false, false, false, false, false, false, false, false, false, false, false] rfl rfl (any_of HT_.out (by kernel_rfl)) (fun _ _ _ h => h) (Or.inl ⟨by rfl, ?_⟩) ?_ ?_
                      rotate_left
                      · intro w'
                        go_simp
                        with_reducible rfl
                      rotate_left
                      · simp only [Act.put, List.setIfInBounds_toArray, List.set_cons_zero, List.set_cons_succ, i64_w, i32_w]
                        rfl
                      refine pure_ (i := 2) (N := some 34) (v := ?_) (a' := ?_) #[true, true, true, false, false, false, false, false, false, false, false, false, false, false] rfl rfl (any_of HT_.out (by kernel_rfl)) (fun _ _ _ h => h) (Or.inl ⟨by rfl, ?_⟩) ?_ ?_
                      rotate_left
                      · intro w'
                        go_simp
                        with_reducible rfl
                      rotate_left
                      · simp only [Act.put, List.setIfInBounds_toArray, List.set_cons_zero, List.set_cons_succ, i64_w, i32_w]
                        rfl
                      refine pure_ (i := 6) (N := some 38) (v := ?_) (a' := ?_) #[true, true, true, false, false, false, true, false, false, false, false, false, false, false] rfl rfl (any_of HT_.out (by kernel_rfl)) (fun _ _ _ h => h) (Or.inl ⟨by rfl, ?_⟩) ?_ ?_
                      rotate_left
                      · intro w'
                        go_simp
                        with_reducible rfl
                      rotate_left
                      · simp only [Act.put, List.setIfInBounds_toArray, List.set_cons_zero, List.set_cons_succ, i64_w, i32_w]
                        rfl
                      refine pure_ (i := 7) (N := some 39) (v := ?_) (a' := ?_) #[true, true, true, false, false, false, true, true, false, false, false, false, false, false] rfl rfl (any_of HT_.out (by kernel_rfl)) (fun _ _ _ h => h) (Or.inl ⟨by rfl, ?_⟩) ?_ ?_
                      rotate_left
                      · intro w'
                        go_simp
                        with_reducible rfl
                      rotate_left
                      · simp only [Act.put, List.setIfInBounds_toArray, List.set_cons_zero, List.set_cons_succ, i64_w, i32_w]
                        rfl
                      refine pure_ (i := 8) (N := some 40) (v := ?_) (a' := ?_) #[true, true, true, false, false, false, true, true, true, false, false, false, false, false] rfl rfl (any_of HT_.out (by kernel_rfl)) (fun _ _ _ h => h) (Or.inl ⟨by rfl, ?_⟩) ?_ ?_
                      rotate_left
                      · intro w'
                        go_simp
                        with_reducible rfl
                      rotate_left
                      · simp only [Act.put, List.setIfInBounds_toArray, List.set_cons_zero, List.set_cons_succ, i64_w, i32_w]
                        rfl
                      refine take_ (i := 3) (N := some 35) (v := ?_) (a' := ?_) #[true, true, true, true, false, false, true, true, true, false, false, false, false, false] rfl rfl (take_ofW HT_.out HW_.out (by kernel_rfl)) (fun _ _ _ h => h) (Or.inl ⟨by rfl, ?_⟩) hHeld ?_ ?_
                      rotate_left
                      · rintro w' ⟨s0, s1, s2, s3⟩
                        go_simp
                        with_reducible rfl
                      rotate_left
                      · simp only [Act.put, List.setIfInBounds_toArray, List.set_cons_zero, List.set_cons_succ, i64_w, i32_w]
                        rfl
                      refine pure_ (i := 4) (N := some 36) (v := ?_) (a' := ?_) #[true, true, true, true, true, false, true, true, true, false, false, false, false, false] rfl rfl (any_of HT_.out (by kernel_rfl)) (fun _ _ _ h => h) (Or.inl ⟨by rfl, ?_⟩) ?_ ?_
                      rotate_left
                      · intro w'
                        go_simp
                        with_reducible rfl
                      rotate_left
                      · simp only [Act.put, List.setIfInBounds_toArray, List.set_cons_zero, List.set_cons_succ, i64_w, i32_w]
                        rfl
                      refine pure_ (i := 5) (N := some 37) (v := ?_) (a' := ?_) #[true, true, true, true, true, true, true, true, true, false, false, false, false, false] rfl rfl (any_of HT_.out (by kernel_rfl)) (fun _ _ _ h => h) (Or.inl ⟨by rfl, ?_⟩) ?_ ?_
                      rotate_left
                      · intro w'
                        go_simp
                        with_reducible rfl
                      rotate_left
                      · simp only [Act.put, List.setIfInBounds_toArray, List.set_cons_zero, List.set_cons_succ, i64_w, i32_w]
                        rfl
                      refine pure_ (i := 12) (N := some 12) (v := ?_) (a' := ?_) #[true, true, true, true, true, true, true, true, true, false, false, false, true, false] rfl rfl (any_of HT_.out (by kernel_rfl)) (fun _ _ _ h => h) (Or.inl ⟨by rfl, ?_⟩) ?_ ?_
                      rotate_left
                      · intro w'
                        go_simp
                        with_reducible rfl
                      rotate_left
                      · simp only [Act.put, List.setIfInBounds_toArray, List.set_cons_zero, List.set_cons_succ, i64_w, i32_w]
                        rfl
                      refine take_ (i := 9) (N := some 41) (v := ?_) (a' := ?_) #[true, true, true, true, true, true, true, true, true, true, false, false, true, false] rfl rfl (take_ofW HT_.out HW_.out (by kernel_rfl)) (fun _ _ _ h => h) (Or.inl ⟨by rfl, ?_⟩) hHeld ?_ ?_
                      rotate_left
                      · rintro w' ⟨s0, s1, s2, s3⟩
                        go_simp
                        with_reducible rfl
                      rotate_left
                      · simp only [Act.put, List.setIfInBounds_toArray, List.set_cons_zero, List.set_cons_succ, i64_w, i32_w]
                        rfl
                      refine pure_ (i := 10) (N := some 42) (v := ?_) (a' := ?_) #[true, true, true, true, true, true, true, true, true, true, true, false, true, false] rfl rfl (any_of HT_.out (by kernel_rfl)) (fun _ _ _ h => h) (Or.inl ⟨by rfl, ?_⟩) ?_ ?_
                      rotate_left
                      · intro w'
                        go_simp
                        with_reducible rfl
                      rotate_left
                      · simp only [Act.put, List.setIfInBounds_toArray, List.set_cons_zero, List.set_cons_succ, i64_w, i32_w]
                        rfl
                      refine pure_ (i := 11) (N := some 43) (v := ?_) (a' := ?_) #[true, true, true, true, true, true, true, true, true, true, true, true, true, false] rfl rfl (any_of HT_.out (by kernel_rfl)) (fun _ _ _ h => h) (Or.inl ⟨by rfl, ?_⟩) ?_ ?_
                      rotate_left
                      · intro w'
                        go_simp
                        with_reducible rfl
                      rotate_left
                      · simp only [Act.put, List.setIfInBounds_toArray, List.set_cons_zero, List.set_cons_succ, i64_w, i32_w]
                        rfl
                      refine pure_ (i := 13) (N := some 13) (v := ?_) (a' := ?_) #[true, true, true, true, true, true, true, true, true, true, true, true, true, true] rfl rfl (any_of HT_.out (by kernel_rfl)) (fun _ _ _ h => h) (Or.inl ⟨by rfl, ?_⟩) ?_ ?_
                      rotate_left
                      · intro w'
                        go_simp
                        with_reducible rfl
                      rotate_left
                      · simp only [Act.put, List.setIfInBounds_toArray, List.set_cons_zero, List.set_cons_succ, i64_w, i32_w]
                        rfl
                      refine done_ (done_of HT_.out (by kernel_rfl)) ?_
                      have hnb64 := NB437_428.out
                      have hnc64 := NB428_437.out
                      have hnb65 := NB437_430.out
                      have hnc65 := NB430_437.out
                      have hcz66_0 : w63.cell? ⟨gb437, 0, none⟩ = some (.int .i64 t431) := (bkc BK437.out 0).trans rfl
                      have hcz66_1 : w63.cell? ⟨gb437, 1, none⟩ = some (.int .i64 t432) := (bkc BK437.out 1).trans rfl
                      have hcz66_2 : w63.cell? ⟨gb437, 2, none⟩ = some (.int .i64 t433) := (bkc BK437.out 2).trans rfl
                      have hcz66_3 : w63.cell? ⟨gb437, 3, none⟩ = some (u438003) := (bkc BK437.out 3).trans rfl
                      have hfz66_0 := bkz BK437.out 0
                      have hfz66_1 := bkz BK437.out 1
                      have hfz66_2 := bkz BK437.out 2
                      have hfz66_3 := bkz BK437.out 3
                      try go_wp2
                      go_roundg k2
                      case measure => have := HK1.out; have := HK2.out; omega
                      case rel => exact ⟨(wrap64 (x11_2 + 1)), (x438003_2), (u438003), (by first | rfl | (simp; done) | (simp [*]; done)), H', ⟨by have := HK1.out; have := HK2.out; omega⟩, ⟨by (with_reducible repeat (first | apply Kd.S_alloc | apply Kd.S_drewN | apply Kd.S_drew)); exact HO_438003.out⟩, ⟨by (with_reducible repeat (first | refine bkN ?_ _ | refine bkd ?_ | refine bka ?_ _)); exact BK428.out⟩, ⟨by (with_reducible repeat (first | refine bkN ?_ _ | refine bkd ?_ | refine bka ?_ _)); exact BK429.out⟩, ⟨by (with_reducible repeat (first | refine bkN ?_ _ | refine bkd ?_ | refine bka ?_ _)); exact BK430.out⟩, ⟨by (with_reducible repeat (first | refine bkN ?_ _ | refine bkd ?_ | refine bka ?_ _)); exact BK437.out⟩, ⟨by repeat (first | (with_reducible first | exact HB.out | apply bwa | apply pwN | apply bwd | refine bws ?_ GE428.out | refine bws ?_ GE429.out | refine bws ?_ GE430.out | refine bws ?_ GE437.out) | exact HB.out)⟩⟩
                  · rw [if_neg c27] at H
                    have c27b0 : decide ((wrap64 (a2 + (Int.tmod x11_2 a1_0))) < t431) = false := decide_eq_false c27
                    clear c27
                    have H' := As0.mk H
                    clear H
                    have hnb67 := NB429_428.out
                    have hnc67 := NB428_429.out
                    have hnb68 := NB429_430.out
                    have hnc68 := NB430_429.out
                    have hnb69 := NB429_437.out
                    have hnc69 := NB437_429.out
                    have hcz70_0 : wr.cell? ⟨gb429, 0, none⟩ = some (.int .i64 a1_0) := (bkc BK429.out 0).trans rfl
                    have hcz70_1 : wr.cell? ⟨gb429, 1, none⟩ = some (.int .i64 a1_1) := (bkc BK429.out 1).trans rfl
                    have hcz70_2 : wr.cell? ⟨gb429, 2, none⟩ = some (.int .i64 a1_2) := (bkc BK429.out 2).trans rfl
                    have hcz70_3 : wr.cell? ⟨gb429, 3, none⟩ = some (.slice A1_3 l1_3.length c1_3) := (bkc BK429.out 3).trans rfl
                    have hfz70_0 := bkz BK429.out 0
                    have hfz70_1 := bkz BK429.out 1
                    have hfz70_2 := bkz BK429.out 2
                    have hfz70_3 := bkz BK429.out 3
                    try go_wp2
                    have n0_ := As0.mk (Kd.S_drew HO_438003.out)
                    have n1_ := As0.mk (bkd BK428.out)
                    have n2_ := As0.mk (bkd BK429.out)
                    have n3_ := As0.mk (bkd BK430.out)
                    have n4_ := As0.mk (bkd BK437.out)
                    have n5_ := As0.mk (bwd HB.out)
                    clear HO_438003
                    clear BK428
                    clear BK429
                    clear BK430
                    clear BK437
                    clear HB
                    have HO_438003 := n0_
                    have BK428 := n1_
                    have BK429 := n2_
                    have BK430 := n3_
                    have BK437 := n4_
                    have HB := n5_
                    clear n0_ n1_ n2_ n3_ n4_ n5_
                    refine start_ (n := 14) (S := fun w' => w'.cell? ⟨gb429, 0, none⟩ = some (.int .i64 a1_0) ∧ w'.cell? ⟨gb429, 1, none⟩ = some (.int .i64 a1_1) ∧ w'.cell? ⟨gb429, 2, none⟩ = some (.int .i64 a1_2) ∧ w'.cell? ⟨gb429, 3, none⟩ = some (.slice A1_3 l1_3.length c1_3)) (ds := []) #[false, false, false, false, false, false, false, false, false, false, false, false, false, false] (by kernel_rfl) rfl rfl ⟨(bkc BK429.out 0).trans rfl, (bkc BK429.out 1).trans rfl, (bkc BK429.out 2).trans rfl, (bkc BK429.out 3).trans rfl⟩ (fun hHeld => ?_); refine with_tabW r15_drawn.tab8 r15_drawn.bits8 (fun HT_ HW_ => ?_)
                    generalize wr.drew = w71 at HO_438003 BK428 BK429 BK430 BK437 HB hHeld ⊢
                    refine pure_ (i := 0) (N := some 32) (v := ?_) (a' := ?_) #[true, false, false, false, false, false, false, false, false, false, false, false, false, false] rfl rfl (any_of HT_.out (by kernel_rfl)) (fun _ _ _ h => h) (Or.inl ⟨by rfl, ?_⟩) ?_ ?_
                    rotate_left
                    · intro w'
                      go_simp
                      with_reducible rfl
                    rotate_left
                    · simp only [Act.put, List.setIfInBounds_toArray, List.set_cons_zero, List.set_cons_succ, i64_w, i32_w]
                      rfl
                    refine pure_ (i := 1) (N := some 33) (v := ?_) (a' := ?_) #[true, true, false, false, false, false, false, false, false, false, false, false, false, false] rfl rfl (any_of HT_.out (by kernel_rfl)) (fun _ _ _ h => h) (Or.inl ⟨by rfl, ?_⟩) ?_ ?_
                    rotate_left
                    · intro w'
                      go_simp
                      with_reducible rfl
                    rotate_left
                    · simp only [Act.put, List.setIfInBounds_toArray, List.set_cons_zero, List.set_cons_succ, i64_w, i32_w]
                      rfl
                    refine pure_ (i := 2) (N := some 34) (v := ?_) (a' := ?_) #[true, true, true, false, false, false, false, false, false, false, false, false, false, false] rfl rfl (any_of HT_.out (by kernel_rfl)) (fun _ _ _ h => h) (Or.inl ⟨by rfl, ?_⟩) ?_ ?_
                    rotate_left
                    · intro w'
                      go_simp
                      with_reducible rfl
                    rotate_left
                    · simp only [Act.put, List.setIfInBounds_toArray, List.set_cons_zero, List.set_cons_succ, i64_w, i32_w]
                      rfl
                    refine pure_ (i := 6) (N := some 38) (v := ?_) (a' := ?_) #[true, true, true, false, false, false, true, false, false, false, false, false, false, false] rfl rfl (any_of HT_.out (by kernel_rfl)) (fun _ _ _ h => h) (Or.inl ⟨by rfl, ?_⟩) ?_ ?_
                    rotate_left
                    · intro w'
                      go_simp
                      with_reducible rfl
                    rotate_left
                    · simp only [Act.put, List.setIfInBounds_toArray, List.set_cons_zero, List.set_cons_succ, i64_w, i32_w]
                      rfl
                    refine pure_ (i := 7) (N := some 39) (v := ?_) (a' := ?_) #[true, true, true, false, false, false, true, true, false, false, false, false, false, false] rfl rfl (any_of HT_.out (by kernel_rfl)) (fun _ _ _ h => h) (Or.inl ⟨by rfl, ?_⟩) ?_ ?_
                    rotate_left
                    · intro w'
                      go_simp
                      with_reducible rfl
                    rotate_left
                    · simp only [Act.put, List.setIfInBounds_toArray, List.set_cons_zero, List.set_cons_succ, i64_w, i32_w]
                      rfl
                    refine pure_ (i := 8) (N := some 40) (v := ?_) (a' := ?_) #[true, true, true, false, false, false, true, true, true, false, false, false, false, false] rfl rfl (any_of HT_.out (by kernel_rfl)) (fun _ _ _ h => h) (Or.inl ⟨by rfl, ?_⟩) ?_ ?_
                    rotate_left
                    · intro w'
                      go_simp
                      with_reducible rfl
                    rotate_left
                    · simp only [Act.put, List.setIfInBounds_toArray, List.set_cons_zero, List.set_cons_succ, i64_w, i32_w]
                      rfl
                    refine take_ (i := 3) (N := some 35) (v := ?_) (a' := ?_) #[true, true, true, true, false, false, true, true, true, false, false, false, false, false] rfl rfl (take_ofW HT_.out HW_.out (by kernel_rfl)) (fun _ _ _ h => h) (Or.inl ⟨by rfl, ?_⟩) hHeld ?_ ?_
                    rotate_left
                    · rintro w' ⟨s0, s1, s2, s3⟩
                      go_simp
                      with_reducible rfl
                    rotate_left
                    · simp only [Act.put, List.setIfInBounds_toArray, List.set_cons_zero, List.set_cons_succ, i64_w, i32_w]
                      rfl
                    refine pure_ (i := 4) (N := some 36) (v := ?_) (a' := ?_) #[true, true, true, true, true, false, true, true, true, false, false, false, false, false] rfl rfl (any_of HT_.out (by kernel_rfl)) (fun _ _ _ h => h) (Or.inl ⟨by rfl, ?_⟩) ?_ ?_
                    rotate_left
                    · intro w'
                      go_simp
                      with_reducible rfl
                    rotate_left
                    · simp only [Act.put, List.setIfInBounds_toArray, List.set_cons_zero, List.set_cons_succ, i64_w, i32_w]
                      rfl
                    refine pure_ (i := 5) (N := some 37) (v := ?_) (a' := ?_) #[true, true, true, true, true, true, true, true, true, false, false, false, false, false] rfl rfl (any_of HT_.out (by kernel_rfl)) (fun _ _ _ h => h) (Or.inl ⟨by rfl, ?_⟩) ?_ ?_
                    rotate_left
                    · intro w'
                      go_simp
                      with_reducible rfl
                    rotate_left
                    · simp only [Act.put, List.setIfInBounds_toArray, List.set_cons_zero, List.set_cons_succ, i64_w, i32_w]
                      rfl
                    refine pure_ (i := 12) (N := some 12) (v := ?_) (a' := ?_) #[true, true, true, true, true, true, true, true, true, false, false, false, true, false] rfl rfl (any_of HT_.out (by kernel_rfl)) (fun _ _ _ h => h) (Or.inl ⟨by rfl, ?_⟩) ?_ ?_
                    rotate_left
                    · intro w'
                      go_simp
                      with_reducible rfl
                    rotate_left
                    · simp only [Act.put, List.setIfInBounds_toArray, List.set_cons_zero, List.set_cons_succ, i64_w, i32_w]
                      rfl
                    refine take_ (i := 9) (N := some 41) (v := ?_) (a' := ?_) #[true, true, true, true, true, true, true, true, true, true, false, false, true, false] rfl rfl (take_ofW HT_.out HW_.out (by kernel_rfl)) (fun _ _ _ h => h) (Or.inl ⟨by rfl, ?_⟩) hHeld ?_ ?_
                    rotate_left
                    · rintro w' ⟨s0, s1, s2, s3⟩
                      go_simp
                      with_reducible rfl
                    rotate_left
                    · simp only [Act.put, List.setIfInBounds_toArray, List.set_cons_zero, List.set_cons_succ, i64_w, i32_w]
                      rfl
                    refine pure_ (i := 10) (N := some 42) (v := ?_) (a' := ?_) #[true, true, true, true, true, true, true, true, true, true, true, false, true, false] rfl rfl (any_of HT_.out (by kernel_rfl)) (fun _ _ _ h => h) (Or.inl ⟨by rfl, ?_⟩) ?_ ?_
                    rotate_left
                    · intro w'
                      go_simp
                      with_reducible rfl
                    rotate_left
                    · simp only [Act.put, List.setIfInBounds_toArray, List.set_cons_zero, List.set_cons_succ, i64_w, i32_w]
                      rfl
                    refine pure_ (i := 11) (N := some 43) (v := ?_) (a' := ?_) #[true, true, true, true, true, true, true, true, true, true, true, true, true, false] rfl rfl (any_of HT_.out (by kernel_rfl)) (fun _ _ _ h => h) (Or.inl ⟨by rfl, ?_⟩) ?_ ?_
                    rotate_left
                    · intro w'
                      go_simp
                      with_reducible rfl
                    rotate_left
                    · simp only [Act.put, List.setIfInBounds_toArray, List.set_cons_zero, List.set_cons_succ, i64_w, i32_w]
                      rfl
                    refine pure_ (i := 13) (N := some 13) (v := ?_) (a' := ?_) #[true, true, true, true, true, true, true, true, true, true, true, true, true, true] rfl rfl (any_of HT_.out (by kernel_rfl)) (fun _ _ _ h => h) (Or.inl ⟨by rfl, ?_⟩) ?_ ?_
                    rotate_left
                    · intro w'
                      go_simp
                      with_reducible rfl
                    rotate_left
                    · simp only [Act.put, List.setIfInBounds_toArray, List.set_cons_zero, List.set_cons_succ, i64_w, i32_w]
                      rfl
                    refine done_ (done_of HT_.out (by kernel_rfl)) ?_
                    have hnb72 := NB437_428.out
                    have hnc72 := NB428_437.out
                    have hnb73 := NB437_430.out
                    have hnc73 := NB430_437.out
                    have hcz74_0 : w71.cell? ⟨gb437, 0, none⟩ = some (.int .i64 t431) := (bkc BK437.out 0).trans rfl
                    have hcz74_1 : w71.cell? ⟨gb437, 1, none⟩ = some (.int .i64 t432) := (bkc BK437.out 1).trans rfl
                    have hcz74_2 : w71.cell? ⟨gb437, 2, none⟩ = some (.int .i64 t433) := (bkc BK437.out 2).trans rfl
                    have hcz74_3 : w71.cell? ⟨gb437, 3, none⟩ = some (u438003) := (bkc BK437.out 3).trans rfl
                    have hfz74_0 := bkz BK437.out 0
                    have hfz74_1 := bkz BK437.out 1
                    have hfz74_2 := bkz BK437.out 2
                    have hfz74_3 := bkz BK437.out 3
                    try go_wp2
                    go_roundg k2
                    case measure => have := HK1.out; have := HK2.out; omega
                    case rel => exact ⟨(wrap64 (x11_2 + 1)), (x438003_2), (u438003), (by first | rfl | (simp; done) | (simp [*]; done)), H', ⟨by have := HK1.out; have := HK2.out; omega⟩, ⟨by (with_reducible repeat (first | apply Kd.S_alloc | apply Kd.S_drewN | apply Kd.S_drew)); exact HO_438003.out⟩, ⟨by (with_reducible repeat (first | refine bkN ?_ _ | refine bkd ?_ | refine bka ?_ _)); exact BK428.out⟩, ⟨by (with_reducible repeat (first | refine bkN ?_ _ | refine bkd ?_ | refine bka ?_ _)); exact BK429.out⟩, ⟨by (with_reducible repeat (first | refine bkN ?_ _ | refine bkd ?_ | refine bka ?_ _)); exact BK430.out⟩, ⟨by (with_reducible repeat (first | refine bkN ?_ _ | refine bkd ?_ | refine bka ?_ _)); exact BK437.out⟩, ⟨by repeat (first | (with_reducible first | exact HB.out | apply bwa | apply pwN | apply bwd | refine bws ?_ GE428.out | refine bws ?_ GE429.out | refine bws ?_ GE430.out | refine bws ?_ GE437.out) | exact HB.out)⟩⟩
                · rw [if_neg c26] at H
                  have c26b0 : decide (0 ≤ (wrap64 (a2 + (Int.tmod x11_2 a1_0)))) = false := decide_eq_false c26
                  clear c26
                  have H' := As0.mk H
                  clear H
                  have hnb75 := NB429_428.out
                  have hnc75 := NB428_429.out
                  have hnb76 := NB429_430.out
                  have hnc76 := NB430_429.out
                  have hnb77 := NB429_437.out
                  have hnc77 := NB437_429.out
                  have hcz78_0 : wr.cell? ⟨gb429, 0, none⟩ = some (.int .i64 a1_0) := (bkc BK429.out 0).trans rfl
                  have hcz78_1 : wr.cell? ⟨gb429, 1, none⟩ = some (.int .i64 a1_1) := (bkc BK429.out 1).trans rfl
                  have hcz78_2 : wr.cell? ⟨gb429, 2, none⟩ = some (.int .i64 a1_2) := (bkc BK429.out 2).trans rfl
                  have hcz78_3 : wr.cell? ⟨gb429, 3, none⟩ = some (.slice A1_3 l1_3.length c1_3) := (bkc BK429.out 3).trans rfl
                  have hfz78_0 := bkz BK429.out 0
                  have hfz78_1 := bkz BK429.out 1
                  have hfz78_2 := bkz BK429.out 2
                  have hfz78_3 := bkz BK429.out 3
                  try go_wp2
                  have n0_ := As0.mk (Kd.S_drew HO_438003.out)
                  have n1_ := As0.mk (bkd BK428.out)
                  have n2_ := As0.mk (bkd BK429.out)
                  have n3_ := As0.mk (bkd BK430.out)
                  have n4_ := As0.mk (bkd BK437.out)
                  have n5_ := As0.mk (bwd HB.out)
                  clear HO_438003
                  clear BK428
                  clear BK429
                  clear BK430
                  clear BK437
                  clear HB
                  have HO_438003 := n0_
                  have BK428 := n1_
                  have BK429 := n2_
                  have BK430 := n3_
                  have BK437 := n4_
                  have HB := n5_
                  clear n0_ n1_ n2_ n3_ n4_ n5_
                  refine start_ (n := 14) (S := fun w' => w'.cell? ⟨gb429, 0, none⟩ = some (.int .i64 a1_0) ∧ w'.cell? ⟨gb429, 1, none⟩ = some (.int .i64 a1_1) ∧ w'.cell? ⟨gb429, 2, none⟩ = some (.int .i64 a1_2) ∧ w'.cell? ⟨gb429, 3, none⟩ = some (.slice A1_3 l1_3.length c1_3)) (ds := []) #[false, false, false, false, false, false, false, false, false, false, false, false, false, false] (by kernel_rfl) rfl rfl ⟨(bkc BK429.out 0).trans rfl, (bkc BK429.out 1).trans rfl, (bkc BK429.out 2).trans rfl, (bkc BK429.out 3).trans rfl⟩ (fun hHeld => ?_); refine with_tabW r15_drawn.tab8 r15_drawn.bits8 (fun HT_ HW_ => ?_)
                  generalize wr.drew = w79 at HO_438003 BK428 BK429 BK430 BK437 HB hHeld ⊢
                  refine pure_ (i := 0) (N := some 32) (v := ?_) (a' := ?_) #[true, false, false, false, false, false, false, false, false, false, false, false, false, false] rfl rfl (any_of HT_.out (by kernel_rfl)) (fun _ _ _ h => h) (Or.inl ⟨by rfl, ?_⟩) ?_ ?_
                  rotate_left
                  · intro w'
                    go_simp
                    with_reducible rfl
                  rotate_left
                  · simp only [Act.put, List.setIfInBounds_toArray, List.set_cons_zero, List.set_cons_succ, i64_w, i32_w]
                    rfl
                  refine pure_ (i := 1) (N := some 33) (v := ?_) (a' := ?_) #[true, true, false, false, false, false, false, false, false, false, false, false, false, false] rfl rfl (any_of HT_.out (by kernel_rfl)) (fun _ _ _ h => h) (Or.inl ⟨by rfl, ?_⟩) ?_ ?_
                  rotate_left
                  · intro w'
                    go_simp
                    with_reducible rfl
                  rotate_left
                  · simp only [Act.put, List.setIfInBounds_toArray, List.set_cons_zero, List.set_cons_succ, i64_w, i32_w]
                    rfl
                  refine pure_ (i := 2) (N := some 34) (v := ?_) (a' := ?_) #[true, true, true, false, false, false, false, false, false, false, false, false, false, false] rfl rfl (any_of HT_.out (by kernel_rfl)) (fun _ _ _ h => h) (Or.inl ⟨by rfl, ?_⟩) ?_ ?_
                  rotate_left
                  · intro w'
                    go_simp
                    with_reducible rfl
                  rotate_left
                  · simp only [Act.put, List.setIfInBounds_toArray, List.set_cons_zero, List.set_cons_succ, i64_w, i32_w]
                    rfl
                  refine pure_ (i := 6) (N := some 38) (v := ?_) (a' := ?_) #[true, true, true, false, false, false, true, false, false, false, false, false, false, false] rfl rfl (any_of HT_.out (by kernel_rfl)) (fun _ _ _ h => h) (Or.inl ⟨by rfl, ?_⟩) ?_ ?_
                  rotate_left
                  · intro w'
                    go_simp
                    with_reducible rfl
                  rotate_left
                  · simp only [Act.put, List.setIfInBounds_toArray, List.set_cons_zero, List.set_cons_succ, i64_w, i32_w]
                    rfl
                  refine pure_ (i := 7) (N := some 39) (v := ?_) (a' := ?_) #[true, true, true, false, false, false, true, true, false, false, false, false, false, false] rfl rfl (any_of HT_.out (by kernel_rfl)) (fun _ _ _ h => h) (Or.inl ⟨by rfl, ?_⟩) ?_ ?_
                  rotate_left
                  · intro w'
                    go_simp
                    with_reducible rfl
                  rotate_left
                  · simp only [Act.put, List.setIfInBounds_toArray, List.set_cons_zero, List.set_cons_succ, i64_w, i32_w]
                    rfl
                  refine pure_ (i := 8) (N := some 40) (v := ?_) (a' := ?_) #[true, true, true, false, false, false, true, true, true, false, false, false, false, false] rfl rfl (any_of HT_.out (by kernel_rfl)) (fun _ _ _ h => h) (Or.inl ⟨by rfl, ?_⟩) ?_ ?_
                  rotate_left
                  · intro w'
                    go_simp
                    with_reducible rfl
                  rotate_left
                  · simp only [Act.put, List.setIfInBounds_toArray, List.set_cons_zero, List.set_cons_succ, i64_w, i32_w]
                    rfl
                  refine take_ (i := 3) (N := some 35) (v := ?_) (a' := ?_) #[true, true, true, true, false, false, true, true, true, false, false, false, false, false] rfl rfl (take_ofW HT_.out HW_.out (by kernel_rfl)) (fun _ _ _ h => h) (Or.inl ⟨by rfl, ?_⟩) hHeld ?_ ?_
                  rotate_left
                  · rintro w' ⟨s0, s1, s2, s3⟩
                    go_simp
                    with_reducible rfl
                  rotate_left
                  · simp only [Act.put, List.setIfInBounds_toArray, List.set_cons_zero, List.set_cons_succ, i64_w, i32_w]
                    rfl
                  refine pure_ (i := 4) (N := some 36) (v := ?_) (a' := ?_) #[true, true, true, true, true, false, true, true, true, false, false, false, false, false] rfl rfl (any_of HT_.out (by kernel_rfl)) (fun _ _ _ h => h) (Or.inl ⟨by rfl, ?_⟩) ?_ ?_
                  rotate_left
                  · intro w'
                    go_simp
                    with_reducible rfl
                  rotate_left
                  · simp only [Act.put, List.setIfInBounds_toArray, List.set_cons_zero, List.set_cons_succ, i64_w, i32_w]
                    rfl
                  refine pure_ (i := 5) (N := some 37) (v := ?_) (a' := ?_) #[true, true, true, true, true, true, true, true, true, false, false, false, false, false] rfl rfl (any_of HT_.out (by kernel_rfl)) (fun _ _ _ h => h) (Or.inl ⟨by rfl, ?_⟩) ?_ ?_
                  rotate_left
                  · intro w'
                    go_simp
                    with_reducible rfl
                  rotate_left
                  · simp only [Act.put, List.setIfInBounds_toArray, List.set_cons_zero, List.set_cons_succ, i64_w, i32_w]
                    rfl
                  refine pure_ (i := 12) (N := some 12) (v := ?_) (a' := ?_) #[true, true, true, true, true, true, true, true, true, false, false, false, true, false] rfl rfl (any_of HT_.out (by kernel_rfl)) (fun _ _ _ h => h) (Or.inl ⟨by rfl, ?_⟩) ?_ ?_
                  rotate_left
                  · intro w'
                    go_simp
                    with_reducible rfl
                  rotate_left
                  · simp only [Act.put, List.setIfInBounds_toArray, List.set_cons_zero, List.set_cons_succ, i64_w, i32_w]
                    rfl
                  refine take_ (i := 9) (N := some 41) (v := ?_) (a' := ?_) #[true, true, true, true, true, true, true, true, true, true, false, false, true, false] rfl rfl (take_ofW HT_.out HW_.out (by kernel_rfl)) (fun _ _ _ h => h) (Or.inl ⟨by rfl, ?_⟩) hHeld ?_ ?_
                  rotate_left
                  · rintro w' ⟨s0, s1, s2, s3⟩
                    go_simp
                    with_reducible rfl
                  rotate_left
                  · simp only [Act.put, List.setIfInBounds_toArray, List.set_cons_zero, List.set_cons_succ, i64_w, i32_w]
                    rfl
                  refine pure_ (i := 10) (N := some 42) (v := ?_) (a' := ?_) #[true, true, true, true, true, true, true, true, true, true, true, false, true, false] rfl rfl (any_of HT_.out (by kernel_rfl)) (fun _ _ _ h => h) (Or.inl ⟨by rfl, ?_⟩) ?_ ?_
                  rotate_left
                  · intro w'
                    go_simp
                    with_reducible rfl
                  rotate_left
                  · simp only [Act.put, List.setIfInBounds_toArray, List.set_cons_zero, List.set_cons_succ, i64_w, i32_w]
                    rfl
                  refine pure_ (i := 11) (N := some 43) (v := ?_) (a' := ?_) #[true, true, true, true, true, true, true, true, true, true, true, true, true, false] rfl rfl (any_of HT_.out (by kernel_rfl)) (fun _ _ _ h => h) (Or.inl ⟨by rfl, ?_⟩) ?_ ?_
                  rotate_left
                  · intro w'
                    go_simp
                    with_reducible rfl
                  rotate_left
                  · simp only [Act.put, List.setIfInBounds_toArray, List.set_cons_zero, List.set_cons_succ, i64_w, i32_w]
                    rfl
                  refine pure_ (i := 13) (N := some 13) (v := ?_) (a' := ?_) #[true, true, true, true, true, true, true, true, true, true, true, true, true, true] rfl rfl (any_of HT_.out (by kernel_rfl)) (fun _ _ _ h => h) (Or.inl ⟨by rfl, ?_⟩) ?_ ?_
                  rotate_left
                  · intro w'
                    go_simp
                    with_reducible rfl
                  rotate_left
                  · simp only [Act.put, List.setIfInBounds_toArray, List.set_cons_zero, List.set_cons_succ, i64_w, i32_w]
                    rfl
                  refine done_ (done_of HT_.out (by kernel_rfl)) ?_
                  try go_wp2
                  go_roundg k2
                  case measure => have := HK1.out; have := HK2.out; omega
                  case rel => exact ⟨(wrap64 (x11_2 + 1)), (x438003_2), (u438003), (by first | rfl | (simp; done) | (simp [*]; done)), H', ⟨by have := HK1.out; have := HK2.out; omega⟩, ⟨by (with_reducible repeat (first | apply Kd.S_alloc | apply Kd.S_drewN | apply Kd.S_drew)); exact HO_438003.out⟩, ⟨by (with_reducible repeat (first | refine bkN ?_ _ | refine bkd ?_ | refine bka ?_ _)); exact BK428.out⟩, ⟨by (with_reducible repeat (first | refine bkN ?_ _ | refine bkd ?_ | refine bka ?_ _)); exact BK429.out⟩, ⟨by (with_reducible repeat (first | refine bkN ?_ _ | refine bkd ?_ | refine bka ?_ _)); exact BK430.out⟩, ⟨by (with_reducible repeat (first | refine bkN ?_ _ | refine bkd ?_ | refine bka ?_ _)); exact BK437.out⟩, ⟨by repeat (first | (with_reducible first | exact HB.out | apply bwa | apply pwN | apply bwd | refine bws ?_ GE428.out | refine bws ?_ GE429.out | refine bws ?_ GE430.out | refine bws ?_ GE437.out) | exact HB.out)⟩⟩
            · rw [if_neg c24] at H
              have c24b0 : decide (x11_2 < (wrap64 (a1_0 * a1_1))) = false := decide_eq_false c24
              clear c24
              have H' := As0.mk H
              clear H
              have hnb80 := NB429_428.out
              have hnc80 := NB428_429.out
              have hnb81 := NB429_430.out
              have hnc81 := NB430_429.out
              have hnb82 := NB429_437.out
              have hnc82 := NB437_429.out
              have hcz83_0 : wr.cell? ⟨gb429, 0, none⟩ = some (.int .i64 a1_0) := (bkc BK429.out 0).trans rfl
              have hcz83_1 : wr.cell? ⟨gb429, 1, none⟩ = some (.int .i64 a1_1) := (bkc BK429.out 1).trans rfl
              have hcz83_2 : wr.cell? ⟨gb429, 2, none⟩ = some (.int .i64 a1_2) := (bkc BK429.out 2).trans rfl
              have hcz83_3 : wr.cell? ⟨gb429, 3, none⟩ = some (.slice A1_3 l1_3.length c1_3) := (bkc BK429.out 3).trans rfl
              have hfz83_0 := bkz BK429.out 0
              have hfz83_1 := bkz BK429.out 1
              have hfz83_2 := bkz BK429.out 2
              have hfz83_3 := bkz BK429.out 3
              go_wp2
              go_roundg k2
              case measure => have := HK1.out; have := HK2.out; omega
              case rel => exact ⟨(wrap64 (x10_1 + 1)), (x438003_2), (u438003), (by first | rfl | (simp; done) | (simp [*]; done)), H', ⟨by have := HK1.out; have := HK2.out; omega⟩, ⟨by (with_reducible repeat (first | apply Kd.S_alloc | apply Kd.S_drewN | apply Kd.S_drew)); exact HO_438003.out⟩, ⟨by (with_reducible repeat (first | refine bkN ?_ _ | refine bkd ?_ | refine bka ?_ _)); exact BK428.out⟩, ⟨by (with_reducible repeat (first | refine bkN ?_ _ | refine bkd ?_ | refine bka ?_ _)); exact BK429.out⟩, ⟨by (with_reducible repeat (first | refine bkN ?_ _ | refine bkd ?_ | refine bka ?_ _)); exact BK430.out⟩, ⟨by (with_reducible repeat (first | refine bkN ?_ _ | refine bkd ?_ | refine bka ?_ _)); exact BK437.out⟩, ⟨by repeat (first | (with_reducible first | exact HB.out | apply bwa | apply pwN | apply bwd | refine bws ?_ GE428.out | refine bws ?_ GE429.out | refine bws ?_ GE430.out | refine bws ?_ GE437.out) | exact HB.out)⟩⟩
      · rw [if_neg c19] at H
        have c19b0 : decide (x10_1 < (l1_3.length : Int)) = false := decide_eq_false c19
        clear c19
        simp only [Option.some.injEq, Prod.mk.injEq] at H
        obtain ⟨rfl, rfl, rfl, rfl⟩ := H
        have hnb84 := NB429_428.out
        have hnc84 := NB428_429.out
        have hnb85 := NB429_430.out
        have hnc85 := NB430_429.out
        have hnb86 := NB429_437.out
        have hnc86 := NB437_429.out
        have hcz87_0 : wr.cell? ⟨gb429, 0, none⟩ = some (.int .i64 a1_0) := (bkc BK429.out 0).trans rfl
        have hcz87_1 : wr.cell? ⟨gb429, 1, none⟩ = some (.int .i64 a1_1) := (bkc BK429.out 1).trans rfl
        have hcz87_2 : wr.cell? ⟨gb429, 2, none⟩ = some (.int .i64 a1_2) := (bkc BK429.out 2).trans rfl
        have hcz87_3 : wr.cell? ⟨gb429, 3, none⟩ = some (.slice A1_3 l1_3.length c1_3) := (bkc BK429.out 3).trans rfl
        have hfz87_0 := bkz BK429.out 0
        have hfz87_1 := bkz BK429.out 1
        have hfz87_2 := bkz BK429.out 2
        have hfz87_3 := bkz BK429.out 3
        have hnb88 := NB437_428.out
        have hnc88 := NB428_437.out
        have hnb89 := NB437_430.out
        have hnc89 := NB430_437.out
        have hcz90_0 : wr.cell? ⟨gb437, 0, none⟩ = some (.int .i64 t431) := (bkc BK437.out 0).trans rfl
        have hcz90_1 : wr.cell? ⟨gb437, 1, none⟩ = some (.int .i64 t432) := (bkc BK437.out 1).trans rfl
        have hcz90_2 : wr.cell? ⟨gb437, 2, none⟩ = some (.int .i64 t433) := (bkc BK437.out 2).trans rfl
        have hcz90_3 : wr.cell? ⟨gb437, 3, none⟩ = some (u438003) := (bkc BK437.out 3).trans rfl
        have hfz90_0 := bkz BK437.out 0
        have hfz90_1 := bkz BK437.out 1
        have hfz90_2 := bkz BK437.out 2
        have hfz90_3 := bkz BK437.out 3
        have hnb91 := NB430_428.out
        have hnc91 := NB428_430.out
        have hcz92_0 : wr.cell? ⟨gb430, 0, none⟩ = some (.int .i64 0) := (bkc BK430.out 0).trans rfl
        have hcz92_1 : wr.cell? ⟨gb430, 1, none⟩ = some (.int .i64 0) := (bkc BK430.out 1).trans rfl
        have hcz92_2 : wr.cell? ⟨gb430, 2, none⟩ = some (.int .i64 0) := (bkc BK430.out 2).trans rfl
        have hcz92_3 : wr.cell? ⟨gb430, 3, none⟩ = some (.slice none 0 0) := (bkc BK430.out 3).trans rfl
        have hfz92_0 := bkz BK430.out 0
        have hfz92_1 := bkz BK430.out 1
        have hfz92_2 := bkz BK430.out 2
        have hfz92_3 := bkz BK430.out 3
        obtain ⟨Ao93, co93, eo93⟩ := Kd.S_slice HO_438003.out
        subst eo93
        go_wp2
        refine bodyPost_ret (results_cell_row rfl _ _ gb430 24 #[.int .i64 t431, .int .i64 t432, .int .i64 t433, .slice Ao93 x438003_1.length co93] (0, 0) _ rfl (by (with_reducible repeat (first | refine bkN ?_ _ | refine bkd ?_ | refine bka ?_ _)); refine blk_put (cs := #[.int .i64 t431, .int .i64 t432, .int .i64 t433, .slice none 0 0]) ?_ 3 _ rfl; (with_reducible repeat (first | refine bkN ?_ _ | refine bkd ?_ | refine bka ?_ _)); refine blk_put (cs := #[.int .i64 t431, .int .i64 t432, .int .i64 0, .slice none 0 0]) ?_ 2 _ rfl; (with_reducible repeat (first | refine bkN ?_ _ | refine bkd ?_ | refine bka ?_ _)); refine blk_put (cs := #[.int .i64 t431, .int .i64 0, .int .i64 0, .slice none 0 0]) ?_ 1 _ rfl; (with_reducible repeat (first | refine bkN ?_ _ | refine bkd ?_ | refine bka ?_ _)); refine blk_put (cs := #[.int .i64 0, .int .i64 0, .int .i64 0, .slice none 0 0]) ?_ 0 _ rfl; (with_reducible repeat (first | refine bkN ?_ _ | refine bkd ?_ | refine bka ?_ _)); exact BK430.out) Tryz.underlying24 rfl (by kernel_rfl)) rfl ?_
        exact ⟨_, by first | rfl | (simp [errW_none, errW_some] <;> rfl) | (simp [*, errW_none, errW_some] <;> rfl), by (with_reducible repeat (first | apply Kd.S_alloc | apply Kd.S_drewN | apply Kd.S_drew)); exact Kd.S_mono (Kd.S_far (p := ⟨gb430, 3, none⟩) (Kd.S_far (p := ⟨gb430, 2, none⟩) (Kd.S_far (p := ⟨gb430, 1, none⟩) (Kd.S_far (p := ⟨gb430, 0, none⟩) (Kd.S_types HO_438003.out BK430.out (by decide)) (fun _ hk => hk.2) (.int .i64 t431)) (fun _ hk => hk.2) (.int .i64 t432)) (fun _ hk => hk.2) (.int .i64 t433)) (fun _ hk => hk.2) (.slice Ao93 x438003_1.length co93)) (fun _ hk => trivial), by repeat (first | (with_reducible first | exact HB.out | apply bwa | apply pwN | apply bwd | refine bws ?_ GE428.out | refine bws ?_ GE429.out | refine bws ?_ GE430.out | refine bws ?_ GE437.out) | exact HB.out)⟩
end Go.Proofs.YtphkionjjhhhlaaGreat.Q
end
section
namespace Go.Proofs.YtphkionjjhhhlaaGreat.Q
open Go.RowKit Go.Proofs.YtphkionjjhhhlaaGreatW.PrintWords Go.Proofs.YtphkionjjhhhlaaGreatW.PrintLast Go.Proofs.YtphkionjjhhhlaaGreatW.PrintMore
mutual
def r15_Over.j0 : Nat → Int → Int → Int → Int → Int → Int → List (List Int) → Int → Int → Int → List (List Int) → Option (Int × Int × Int × (List (List Int)) × Int)
  | 0, _, _, _, _, _, _, _, _, _, _, _ => none
  | k + 1, x2, x3, x10, x445000, x445001, x445002, x445003, x446000, x446001, x446002, x446003 => if x10 = 0 then ((r15_in.f x2 (-64) 64).bind fun t449 => (if t449 = true then ((r15_in.f x3 (-64) 64).bind fun t450 => (r15_Over.j1 k x2 x3 (!t450) x445000 x445001 x445002 x445003 x446000 x446001 x446002 x446003)) else (r15_Over.j1 k x2 x3 true x445000 x445001 x445002 x445003 x446000 x446001 x446002 x446003))) else (some (0, 0, 0, ([] : List (List Int)), x10))
def r15_Over.j1 : Nat → Int → Int → Bool → Int → Int → Int → List (List Int) → Int → Int → Int → List (List Int) → Option (Int × Int × Int × (List (List Int)) × Int)
  | 0, _, _, _, _, _, _, _, _, _, _, _ => none
  | k + 1, x2, x3, x28, x445000, x445001, x445002, x445003, x446000, x446001, x446002, x446003 => if x28 = true then (some (0, 0, 0, ([] : List (List Int)), 1)) else (if x445002 = x446002 then (if (x445003.length : Int) = (x446003.length : Int) then ((r15_drawn.f k x445000 x445001 x445002 x445003 x446000 x446001 x446002 x446003 x2 x3).bind fun bt451 => (some (bt451.1, bt451.2.1, bt451.2.2.1, bt451.2.2.2, 0))) else (some (0, 0, 0, ([] : List (List Int)), 151))) else (some (0, 0, 0, ([] : List (List Int)), 151)))
end
def r15_Over.f (k : Nat) (a0_0 : Int) (a0_1 : Int) (a0_2 : Int) (l0_3 : List (List Int)) (a1_0 : Int) (a1_1 : Int) (a1_2 : Int) (l1_3 : List (List Int)) (a2 : Int) (a3 : Int) : Option (Int × Int × Int × (List (List Int)) × Int) := (r14_Check.f k a0_0 a0_1 a0_2 l0_3).bind fun t447 => (if t447 = 0 then ((r14_Check.f k a1_0 a1_1 a1_2 l1_3).bind fun t448 => (r15_Over.j0 k a2 a3 t448 a0_0 a0_1 a0_2 l0_3 a1_0 a1_1 a1_2 l1_3)) else (r15_Over.j0 k a2 a3 t447 a0_0 a0_1 a0_2 l0_3 a1_0 a1_1 a1_2 l1_3))
set_option maxHeartbeats 8000000 in
set_option maxRecDepth 100000 in
theorem r15_Over.calls (k : Nat) (a0_0 : Int) (a0_1 : Int) (a0_2 : Int) (A0_3 : Option Addr) (c0_3 : Nat) (l0_3 : List (List Int)) (a1_0 : Int) (a1_1 : Int) (a1_2 : Int) (A1_3 : Option Addr) (c1_3 : Nat) (l1_3 : List (List Int)) (a2 : Int) (a3 : Int) (r1 : Int) (r2 : Int) (r3 : Int) (r4 : List (List Int)) (r5 : Int) (w : World) (hr0_3 : Kd.C (Kd.slice 3 (Kd.int .i64)) w A0_3 l0_3.length l0_3) (hc0_3 : l0_3.length ≤ c0_3) (hr1_3 : Kd.C (Kd.slice 3 (Kd.int .i64)) w A1_3 l1_3.length l1_3) (hc1_3 : l1_3.length ≤ c1_3) (h : r15_Over.f k a0_0 a0_1 a0_2 l0_3 a1_0 a1_1 a1_2 l1_3 a2 a3 = some (r1, r2, r3, r4, r5)) :
    Calls Tryz.prog 26 #[.agg #[.int .i64 a0_0, .int .i64 a0_1, .int .i64 a0_2, .slice A0_3 l0_3.length c0_3], .agg #[.int .i64 a1_0, .int .i64 a1_1, .int .i64 a1_2, .slice A1_3 l1_3.length c1_3], .int .i64 a2, .int .i64 a3] w fun e w' => ∃ v3_ : Value, e = .returned (.tuple #[.agg #[.int .i64 r1, .int .i64 r2, .int .i64 r3, v3_], .int .i64 r5]) ∧ Kd.S (Kd.slice 3 (Kd.int .i64)) 39 w' w.heap.size (fun _ => True) v3_ r4 ∧ Below w.heap.size w w' := by
  have hu24 := Tryz.underlying24
  have HR0_3 := As0.mk hr0_3
  have HC0_3 := As0.mk hc0_3
  clear hr0_3 hc0_3
  have HR1_3 := As0.mk hr1_3
  have HC1_3 := As0.mk hc1_3
  clear hr1_3 hc1_3
  have HB := As0.mk (Below.refl w.heap.size w)
  have H : ((r14_Check.f k a0_0 a0_1 a0_2 l0_3).bind fun t447 => (if t447 = 0 then ((r14_Check.f k a1_0 a1_1 a1_2 l1_3).bind fun t448 => (r15_Over.j0 k a2 a3 t448 a0_0 a0_1 a0_2 l0_3 a1_0 a1_1 a1_2 l1_3)) else (r15_Over.j0 k a2 a3 t447 a0_0 a0_1 a0_2 l0_3 a1_0 a1_1 a1_2 l1_3))) = some (r1, r2, r3, r4, r5) := h
  clear h
  replace H := Option.bind_eq_some_iff.mp H
  obtain ⟨t447, A50, H⟩ := H
  replace H : (if t447 = 0 then ((r14_Check.f k a1_0 a1_1 a1_2 l1_3).bind fun t448 => (r15_Over.j0 k a2 a3 t448 a0_0 a0_1 a0_2 l0_3 a1_0 a1_1 a1_2 l1_3)) else (r15_Over.j0 k a2 a3 t447 a0_0 a0_1 a0_2 l0_3 a1_0 a1_1 a1_2 l1_3)) = some (r1, r2, r3, r4, r5) := H
  have A5 := As0.mk A50
  clear A50
  have HC6 := As0.mk H
  clear H
  go_enter Tryz.func26, Tryz.ntmps26
  go_upto_if 14 with (first | ((with_reducible refine gdt (N := 4) rfl ?_); (try (refine gate_guard (by rfl) ?_; dsimp only)); refine bxe ?hg (N := 4) ?hd (cs := #[.int .i64 a0_0, .int .i64 a0_1, .int .i64 a0_2, .slice A0_3 l0_3.length c0_3]) (t := 24) ?hr ?_; (case hd => rfl); (case hg => rfl); (case hr => first | (go_simp; done) | (go_simp; rfl)); intro gb444 hg w7 hbox hb; have n0_ := As0.mk (bwp (by repeat (first | (with_reducible first | exact HB.out | apply bwa | apply pwN | apply bwd) | exact HB.out)) hb); have n1_ := As0.mk (hbox); have n2_ := As0.mk ((by rw [hg]; exact (bwz (by repeat (first | (with_reducible first | exact HB.out | apply bwa | apply pwN | apply bwd) | exact HB.out))) : w.heap.size ≤ gb444)); have n3_ := As0.mk ((by rw [hg]; exact (bwz (by repeat (first | (with_reducible first | exact HB.out | apply bwa | apply pwN | apply bwd) | exact HB.out))) : w.heap.size ≤ gb444)); clear HB; have HB := n0_; have BK444 := n1_; have GW444 := n2_; have GE444 := n3_; clear n0_ n1_ n2_ n3_; clear hb hbox hg) | ((with_reducible refine gdt (N := 5) rfl ?_); (try (refine gate_guard (by rfl) ?_; dsimp only)); refine bxe ?hg (N := 5) ?hd (cs := #[.int .i64 a1_0, .int .i64 a1_1, .int .i64 a1_2, .slice A1_3 l1_3.length c1_3]) (t := 24) ?hr ?_; (case hd => rfl); (case hg => rfl); (case hr => first | (go_simp; done) | (go_simp; rfl)); intro gb445 hg w8 hbox hb; have n0_ := As0.mk (bkb (g := gb444) (o := .cells #[.int .i64 a0_0, .int .i64 a0_1, .int .i64 a0_2, .slice A0_3 l0_3.length c0_3] 24 (0, 0)) (by (with_reducible repeat (first | refine bkN ?_ _ | refine bkd ?_ | refine bka ?_ _)); exact BK444.out) hb); have n1_ := As0.mk (bwp (by repeat (first | (with_reducible first | exact HB.out | apply bwa | apply pwN | apply bwd | refine bws ?_ GE444.out) | exact HB.out)) hb); have n2_ := As0.mk (hbox); have n3_ := As0.mk ((by rw [hg]; exact (bwz (by repeat (first | (with_reducible first | exact HB.out | apply bwa | apply pwN | apply bwd | refine bws ?_ GE444.out) | exact HB.out))) : w.heap.size ≤ gb445)); have n4_ := As0.mk ((by rw [hg]; exact (bwz (by repeat (first | (with_reducible first | exact HB.out | apply bwa | apply pwN | apply bwd | refine bws ?_ GE444.out) | exact HB.out))) : w.heap.size ≤ gb445)); have n5_ := As0.mk ((by rw [hg]; exact Nat.ne_of_lt (blk_lt (g := gb444) (o := .cells #[.int .i64 a0_0, .int .i64 a0_1, .int .i64 a0_2, .slice A0_3 l0_3.length c0_3] 24 (0, 0)) (by (with_reducible repeat (first | refine bkN ?_ _ | refine bkd ?_ | refine bka ?_ _)); exact BK444.out)) : gb444 ≠ gb445)); have n6_ := As0.mk ((by rw [hg]; exact Nat.ne_of_gt (blk_lt (g := gb444) (o := .cells #[.int .i64 a0_0, .int .i64 a0_1, .int .i64 a0_2, .slice A0_3 l0_3.length c0_3] 24 (0, 0)) (by (with_reducible repeat (first | refine bkN ?_ _ | refine bkd ?_ | refine bka ?_ _)); exact BK444.out)) : gb445 ≠ gb444)); clear BK444; clear HB; have BK444 := n0_; have HB := n1_; have BK445 := n2_; have GW445 := n3_; have GE445 := n4_; have NB444_445 := n5_; have NB445_444 := n6_; clear n0_ n1_ n2_ n3_ n4_ n5_ n6_; clear hb hbox hg) | ((with_reducible refine gdt (N := 8) rfl ?_); (try (refine gate_guard (by rfl) ?_; dsimp only)); refine bxe ?hg (N := 8) ?hd (cs := #[.int .i64 0, .int .i64 0, .int .i64 0, .slice none 0 0]) (t := 24) ?hr ?_; (case hd => rfl); (case hg => rfl); (case hr => first | (go_simp; done) | (go_simp; rfl)); intro gb446 hg w9 hbox hb; have n0_ := As0.mk (bkb (g := gb444) (o := .cells #[.int .i64 a0_0, .int .i64 a0_1, .int .i64 a0_2, .slice A0_3 l0_3.length c0_3] 24 (0, 0)) (by (with_reducible repeat (first | refine bkN ?_ _ | refine bkd ?_ | refine bka ?_ _)); exact BK444.out) hb); have n1_ := As0.mk (bkb (g := gb445) (o := .cells #[.int .i64 a1_0, .int .i64 a1_1, .int .i64 a1_2, .slice A1_3 l1_3.length c1_3] 24 (0, 0)) (by (with_reducible repeat (first | refine bkN ?_ _ | refine bkd ?_ | refine bka ?_ _)); exact BK445.out) hb); have n2_ := As0.mk (bwp (by repeat (first | (with_reducible first | exact HB.out | apply bwa | apply pwN | apply bwd | refine bws ?_ GE444.out | refine bws ?_ GE445.out) | exact HB.out)) hb); have n3_ := As0.mk (hbox); have n4_ := As0.mk ((by rw [hg]; exact (bwz (by repeat (first | (with_reducible first | exact HB.out | apply bwa | apply pwN | apply bwd | refine bws ?_ GE444.out | refine bws ?_ GE445.out) | exact HB.out))) : w.heap.size ≤ gb446)); have n5_ := As0.mk ((by rw [hg]; exact (bwz (by repeat (first | (with_reducible first | exact HB.out | apply bwa | apply pwN | apply bwd | refine bws ?_ GE444.out | refine bws ?_ GE445.out) | exact HB.out))) : w.heap.size ≤ gb446)); have n6_ := As0.mk ((by rw [hg]; exact Nat.ne_of_lt (blk_lt (g := gb444) (o := .cells #[.int .i64 a0_0, .int .i64 a0_1, .int .i64 a0_2, .slice A0_3 l0_3.length c0_3] 24 (0, 0)) (by (with_reducible repeat (first | refine bkN ?_ _ | refine bkd ?_ | refine bka ?_ _)); exact BK444.out)) : gb444 ≠ gb446)); have n7_ := As0.mk ((by rw [hg]; exact Nat.ne_of_gt (blk_lt (g := gb444) (o := .cells #[.int .i64 a0_0, .int .i64 a0_1, .int .i64 a0_2, .slice A0_3 l0_3.length c0_3] 24 (0, 0)) (by (with_reducible repeat (first | refine bkN ?_ _ | refine bkd ?_ | refine bka ?_ _)); exact BK444.out)) : gb446 ≠ gb444)); have n8_ := As0.mk ((by rw [hg]; exact Nat.ne_of_lt (blk_lt (g := gb445) (o := .cells #[.int .i64 a1_0, .int .i64 a1_1, .int .i64 a1_2, .slice A1_3 l1_3.length c1_3] 24 (0, 0)) (by (with_reducible repeat (first | refine bkN ?_ _ | refine bkd ?_ | refine bka ?_ _)); exact BK445.out)) : gb445 ≠ gb446)); have n9_ := As0.mk ((by rw [hg]; exact Nat.ne_of_gt (blk_lt (g := gb445) (o := .cells #[.int .i64 a1_0, .int .i64 a1_1, .int .i64 a1_2, .slice A1_3 l1_3.length c1_3] 24 (0, 0)) (by (with_reducible repeat (first | refine bkN ?_ _ | refine bkd ?_ | refine bka ?_ _)); exact BK445.out)) : gb446 ≠ gb445)); clear BK444; clear BK445; clear HB; have BK444 := n0_; have BK445 := n1_; have HB := n2_; have BK446 := n3_; have GW446 := n4_; have GE446 := n5_; have NB444_446 := n6_; have NB446_444 := n7_; have NB445_446 := n8_; have NB446_445 := n9_; clear n0_ n1_ n2_ n3_ n4_ n5_ n6_ n7_ n8_ n9_; clear hb hbox hg; have hnb10 := NB444_445.out; have hnc10 := NB445_444.out; have hnb11 := NB444_446.out; have hnc11 := NB446_444.out; have hcz12_0 : w9.cell? ⟨gb444, 0, none⟩ = some (.int .i64 a0_0) := (bkc BK444.out 0).trans rfl; have hcz12_1 : w9.cell? ⟨gb444, 1, none⟩ = some (.int .i64 a0_1) := (bkc BK444.out 1).trans rfl; have hcz12_2 : w9.cell? ⟨gb444, 2, none⟩ = some (.int .i64 a0_2) := (bkc BK444.out 2).trans rfl; have hcz12_3 : w9.cell? ⟨gb444, 3, none⟩ = some (.slice A0_3 l0_3.length c0_3) := (bkc BK444.out 3).trans rfl; have hfz12_0 := bkz BK444.out 0; have hfz12_1 := bkz BK444.out 1; have hfz12_2 := bkz BK444.out 2; have hfz12_3 := bkz BK444.out 3) | ((with_reducible refine gate_callee (f := 30) rfl ?_); refine goesL_ (some 12) rfl rfl Tryz.func30 (by kernel_rfl) rfl #[.agg #[.int .i64 a0_0, .int .i64 a0_1, .int .i64 a0_2, .slice A0_3 l0_3.length c0_3]] rfl (by (try simp only [List.map_toArray, List.map_cons, List.map_nil]); first | done | rfl | (simp only [List.length_drop, List.length_take]; rfl)) ?_; (with_reducible refine (r14_Check.calls k a0_0 a0_1 a0_2 _ _ l0_3 t447 _ ?side1 ?side2 A5.out).mono ?_); (case side1 => repeat (first | exact (Kd.C_below HR0_3.out HB.out) | (with_reducible refine Kd.C_alloc ?_ _) | (with_reducible refine Kd.C_drewN ?_ _) | (with_reducible refine Kd.C_drew ?_))); (case side2 => exact HC0_3.out); rintro e w13 ⟨rfl, hb⟩; refine ⟨_, rfl, ?_⟩; have n0_ := As0.mk (bkb (g := gb444) (o := .cells #[.int .i64 a0_0, .int .i64 a0_1, .int .i64 a0_2, .slice A0_3 l0_3.length c0_3] 24 (0, 0)) (by (with_reducible repeat (first | refine bkN ?_ _ | refine bkd ?_ | refine bka ?_ _)); exact BK444.out) hb); have n1_ := As0.mk (bkb (g := gb445) (o := .cells #[.int .i64 a1_0, .int .i64 a1_1, .int .i64 a1_2, .slice A1_3 l1_3.length c1_3] 24 (0, 0)) (by (with_reducible repeat (first | refine bkN ?_ _ | refine bkd ?_ | refine bka ?_ _)); exact BK445.out) hb); have n2_ := As0.mk (bkb (g := gb446) (o := .cells #[.int .i64 0, .int .i64 0, .int .i64 0, .slice none 0 0] 24 (0, 0)) (by (with_reducible repeat (first | refine bkN ?_ _ | refine bkd ?_ | refine bka ?_ _)); exact BK446.out) hb); have n3_ := As0.mk (bwp (by repeat (first | (with_reducible first | exact HB.out | apply bwa | apply pwN | apply bwd | refine bws ?_ GE444.out | refine bws ?_ GE445.out | refine bws ?_ GE446.out) | exact HB.out)) hb); clear BK444; clear BK445; clear BK446; clear HB; have BK444 := n0_; have BK445 := n1_; have BK446 := n2_; have HB := n3_; clear n0_ n1_ n2_ n3_; (try clear hb); (try clear hb2); (try clear hk); (try clear hi)))
  (try simp only [Act.put, List.setIfInBounds_toArray, List.set_cons_zero, List.set_cons_succ])
  go_cut [10] (fun v10 wc => ∃ (kq : Nat) (x10_5 : Int), v10 = .int .i64 x10_5 ∧ As0 (r15_Over.j0 kq a2 a3 x10_5 a0_0 a0_1 a0_2 l0_3 a1_0 a1_1 a1_2 l1_3 = some (r1, r2, r3, r4, r5)) ∧ As0 (kq ≤ k) ∧ As0 (wc.heap[gb444]? = some (.cells #[.int .i64 a0_0, .int .i64 a0_1, .int .i64 a0_2, (.slice A0_3 l0_3.length c0_3)] 24 (0, 0))) ∧ As0 (wc.heap[gb445]? = some (.cells #[.int .i64 a1_0, .int .i64 a1_1, .int .i64 a1_2, (.slice A1_3 l1_3.length c1_3)] 24 (0, 0))) ∧ As0 (wc.heap[gb446]? = some (.cells #[.int .i64 0, .int .i64 0, .int .i64 0, (.slice none 0 0)] 24 (0, 0))) ∧ As0 (Below w.heap.size w wc))
  case first =>
    have H := HC6.out
    clear HC6
    by_cases c14 : t447 = 0
    · rw [if_pos c14] at H
      have c14b0 : (t447 == 0) = true := beq_iff_eq.mpr c14
      have c14b1 : (t447 != 0) = false := bne_eq_false_iff_eq.mpr c14
      clear c14
      (first | rw [c14b0] | (simp only [i64_w, i32_w]; rw [c14b0]) | skip)
      replace H := Option.bind_eq_some_iff.mp H
      obtain ⟨t448, A150, H⟩ := H
      replace H : (r15_Over.j0 k a2 a3 t448 a0_0 a0_1 a0_2 l0_3 a1_0 a1_1 a1_2 l1_3) = some (r1, r2, r3, r4, r5) := H
      have A15 := As0.mk A150
      clear A150
      have H' := As0.mk H
      clear H
      have hnb16 := NB445_444.out
      have hnc16 := NB444_445.out
      have hnb17 := NB445_446.out
      have hnc17 := NB446_445.out
      have hcz18_0 : w13.cell? ⟨gb445, 0, none⟩ = some (.int .i64 a1_0) := (bkc BK445.out 0).trans rfl
      have hcz18_1 : w13.cell? ⟨gb445, 1, none⟩ = some (.int .i64 a1_1) := (bkc BK445.out 1).trans rfl
      have hcz18_2 : w13.cell? ⟨gb445, 2, none⟩ = some (.int .i64 a1_2) := (bkc BK445.out 2).trans rfl
      have hcz18_3 : w13.cell? ⟨gb445, 3, none⟩ = some (.slice A1_3 l1_3.length c1_3) := (bkc BK445.out 3).trans rfl
      have hfz18_0 := bkz BK445.out 0
      have hfz18_1 := bkz BK445.out 1
      have hfz18_2 := bkz BK445.out 2
      have hfz18_3 := bkz BK445.out 3
      go_wp2_with (first | ((with_reducible refine gate_callee (f := 30) rfl ?_); refine goesL_ (some 16) rfl rfl Tryz.func30 (by kernel_rfl) rfl #[.agg #[.int .i64 a1_0, .int .i64 a1_1, .int .i64 a1_2, .slice A1_3 l1_3.length c1_3]] rfl (by (try simp only [List.map_toArray, List.map_cons, List.map_nil]); first | done | rfl | (simp only [List.length_drop, List.length_take]; rfl)) ?_; (with_reducible refine (r14_Check.calls k a1_0 a1_1 a1_2 _ _ l1_3 t448 _ ?side1 ?side2 A15.out).mono ?_); (case side1 => repeat (first | exact (Kd.C_below HR1_3.out HB.out) | (with_reducible refine Kd.C_alloc ?_ _) | (with_reducible refine Kd.C_drewN ?_ _) | (with_reducible refine Kd.C_drew ?_))); (case side2 => exact HC1_3.out); rintro e w19 ⟨rfl, hb⟩; refine ⟨_, rfl, ?_⟩; have n0_ := As0.mk (bkb (g := gb444) (o := .cells #[.int .i64 a0_0, .int .i64 a0_1, .int .i64 a0_2, .slice A0_3 l0_3.length c0_3] 24 (0, 0)) (by (with_reducible repeat (first | refine bkN ?_ _ | refine bkd ?_ | refine bka ?_ _)); exact BK444.out) hb); have n1_ := As0.mk (bkb (g := gb445) (o := .cells #[.int .i64 a1_0, .int .i64 a1_1, .int .i64 a1_2, .slice A1_3 l1_3.length c1_3] 24 (0, 0)) (by (with_reducible repeat (first | refine bkN ?_ _ | refine bkd ?_ | refine bka ?_ _)); exact BK445.out) hb); have n2_ := As0.mk (bkb (g := gb446) (o := .cells #[.int .i64 0, .int .i64 0, .int .i64 0, .slice none 0 0] 24 (0, 0)) (by (with_reducible repeat (first | refine bkN ?_ _ | refine bkd ?_ | refine bka ?_ _)); exact BK446.out) hb); have n3_ := As0.mk (bwp (by repeat (first | (with_reducible first | exact HB.out | apply bwa | apply pwN | apply bwd | refine bws ?_ GE444.out | refine bws ?_ GE445.out | refine bws ?_ GE446.out) | exact HB.out)) hb); clear BK444; clear BK445; clear BK446; clear HB; have BK444 := n0_; have BK445 := n1_; have BK446 := n2_; have HB := n3_; clear n0_ n1_ n2_ n3_; (try clear hb); (try clear hb2); (try clear hk); (try clear hi)))
      go_meet
      case rel => exact ⟨_, (t448), (by first | rfl | (simp; done) | (simp [*]; done)), H', ⟨by first | omega | exact Nat.le_refl _⟩, ⟨by (with_reducible repeat (first | refine bkN ?_ _ | refine bkd ?_ | refine bka ?_ _)); exact BK444.out⟩, ⟨by (with_reducible repeat (first | refine bkN ?_ _ | refine bkd ?_ | refine bka ?_ _)); exact BK445.out⟩, ⟨by (with_reducible repeat (first | refine bkN ?_ _ | refine bkd ?_ | refine bka ?_ _)); exact BK446.out⟩, ⟨by repeat (first | (with_reducible first | exact HB.out | apply bwa | apply pwN | apply bwd | refine bws ?_ GE444.out | refine bws ?_ GE445.out | refine bws ?_ GE446.out) | exact HB.out)⟩⟩
    · rw [if_neg c14] at H
      have c14b0 : (t447 == 0) = false := beq_eq_false_iff_ne.mpr c14
      have c14b1 : (t447 != 0) = true := bne_iff_ne.mpr c14
      (first | rw [c14b0] | (simp only [i64_w, i32_w]; rw [c14b0]) | skip)
      have H' := As0.mk H
      clear H
      go_wp2
      go_meet
      case rel => exact ⟨_, (t447), (by first | rfl | (simp; done) | (simp [*]; done)), H', ⟨by first | omega | exact Nat.le_refl _⟩, ⟨by (with_reducible repeat (first | refine bkN ?_ _ | refine bkd ?_ | refine bka ?_ _)); exact BK444.out⟩, ⟨by (with_reducible repeat (first | refine bkN ?_ _ | refine bkd ?_ | refine bka ?_ _)); exact BK445.out⟩, ⟨by (with_reducible repeat (first | refine bkN ?_ _ | refine bkd ?_ | refine bka ?_ _)); exact BK446.out⟩, ⟨by repeat (first | (with_reducible first | exact HB.out | apply bwa | apply pwN | apply bwd | refine bws ?_ GE444.out | refine bws ?_ GE445.out | refine bws ?_ GE446.out) | exact HB.out)⟩⟩
  case rest =>
    clear HC6
    try clear c1
    try clear c2
    try clear p2
    try clear c3
    try clear c10
    try clear c11
    try clear c14
    try clear c14b0
    try clear c14b1
    try clear c16
    try clear c17
    try clear hcz12_0
    try clear hcz12_1
    try clear hcz12_2
    try clear hcz12_3
    try clear hcz18_0
    try clear hcz18_1
    try clear hcz18_2
    try clear hcz18_3
    try clear hfz12_0
    try clear hfz12_1
    try clear hfz12_2
    try clear hfz12_3
    try clear hfz18_0
    try clear hfz18_1
    try clear hfz18_2
    try clear hfz18_3
    obtain ⟨kq, x10_5, rfl, HA, HJ5, BK444, BK445, BK446, HB⟩ := hcut
    cases kq with
    | zero => exact absurd HA.out (by simp [r15_Over.j0])
    | succ kj5 =>
      have H := HA.out
      clear HA
      simp only [r15_Over.j0] at H
      by_cases c20 : x10_5 = 0
      · rw [if_pos c20] at H
        have c20b0 : (x10_5 == 0) = true := beq_iff_eq.mpr c20
        have c20b1 : (x10_5 != 0) = false := bne_eq_false_iff_eq.mpr c20
        clear c20
        have HC21 := As0.mk H
        clear H
        go_upto_region 6 with (fail)
        go_cut [28] (fun v28 wc => ∃ (kq : Nat) (x28_20 : Bool), v28 = .bool x28_20 ∧ As0 (r15_Over.j1 kq a2 a3 x28_20 a0_0 a0_1 a0_2 l0_3 a1_0 a1_1 a1_2 l1_3 = some (r1, r2, r3, r4, r5)) ∧ As0 (kq ≤ kj5) ∧ As0 (wc.heap[gb444]? = some (.cells #[.int .i64 a0_0, .int .i64 a0_1, .int .i64 a0_2, (.slice A0_3 l0_3.length c0_3)] 24 (0, 0))) ∧ As0 (wc.heap[gb445]? = some (.cells #[.int .i64 a1_0, .int .i64 a1_1, .int .i64 a1_2, (.slice A1_3 l1_3.length c1_3)] 24 (0, 0))) ∧ As0 (wc.heap[gb446]? = some (.cells #[.int .i64 0, .int .i64 0, .int .i64 0, (.slice none 0 0)] 24 (0, 0))) ∧ As0 (Below w.heap.size w wc))
        case first =>
          have H := HC21.out
          clear HC21
          replace H := Option.bind_eq_some_iff.mp H
          obtain ⟨t449, A220, H⟩ := H
          replace H : (if t449 = true then ((r15_in.f a3 (-64) 64).bind fun t450 => (r15_Over.j1 kj5 a2 a3 (!t450) a0_0 a0_1 a0_2 l0_3 a1_0 a1_1 a1_2 l1_3)) else (r15_Over.j1 kj5 a2 a3 true a0_0 a0_1 a0_2 l0_3 a1_0 a1_1 a1_2 l1_3)) = some (r1, r2, r3, r4, r5) := H
          have A22 := As0.mk A220
          clear A220
          by_cases c23 : t449 = true
          · subst c23
            have H1 : ((r15_in.f a3 (-64) 64).bind fun t450 => (r15_Over.j1 kj5 a2 a3 (!t450) a0_0 a0_1 a0_2 l0_3 a1_0 a1_1 a1_2 l1_3)) = some (r1, r2, r3, r4, r5) := by rw [if_pos rfl] at H; exact H
            clear H
            have H := H1
            clear H1
            replace H := Option.bind_eq_some_iff.mp H
            obtain ⟨t450, A240, H⟩ := H
            replace H : (r15_Over.j1 kj5 a2 a3 (!t450) a0_0 a0_1 a0_2 l0_3 a1_0 a1_1 a1_2 l1_3) = some (r1, r2, r3, r4, r5) := H
            have A24 := As0.mk A240
            clear A240
            have H' := As0.mk H
            clear H
            go_wp2_with (first | ((with_reducible refine gate_callee (f := 50) rfl ?_); refine goesL_ (some 22) rfl rfl Tryz.func50 (by kernel_rfl) rfl #[.int .i64 a2, .int .i64 (-64), .int .i64 64] rfl (by (try simp only [List.map_toArray, List.map_cons, List.map_nil]); first | done | rfl | (simp only [List.length_drop, List.length_take]; rfl)) ?_; (with_reducible refine (r15_in.calls a2 (-64) 64 true _ A22.out).mono ?_); rintro e w' ⟨rfl, ⟨nd, rfl⟩⟩; refine ⟨_, rfl, ?_⟩) | (go_at_call 50; (with_reducible refine (r15_in.calls a3 (-64) 64 t450 _ A24.out).mono ?_); rintro e w' ⟨rfl, ⟨nd, rfl⟩⟩))
            go_meet
            case rel => exact ⟨_, (!t450), (by first | rfl | (simp; done) | (simp [*]; done)), H', ⟨by have := HJ5.out; first | omega | exact Nat.le_refl _⟩, ⟨by (with_reducible repeat (first | refine bkN ?_ _ | refine bkd ?_ | refine bka ?_ _)); exact BK444.out⟩, ⟨by (with_reducible repeat (first | refine bkN ?_ _ | refine bkd ?_ | refine bka ?_ _)); exact BK445.out⟩, ⟨by (with_reducible repeat (first | refine bkN ?_ _ | refine bkd ?_ | refine bka ?_ _)); exact BK446.out⟩, ⟨by repeat (first | (with_reducible first | exact HB.out | apply bwa | apply pwN | apply bwd | refine bws ?_ GE444.out | refine bws ?_ GE445.out | refine bws ?_ GE446.out) | exact HB.out)⟩⟩
          · replace c23 := Bool.eq_false_iff.mpr c23
            subst c23
            have H1 : (r15_Over.j1 kj5 a2 a3 true a0_0 a0_1 a0_2 l0_3 a1_0 a1_1 a1_2 l1_3) = some (r1, r2, r3, r4, r5) := by rw [if_neg (show ¬ (false = true) by decide)] at H; exact H
            clear H
            have H := H1
            clear H1
            have H' := As0.mk H
            clear H
            go_wp2_with (first | ((with_reducible refine gate_callee (f := 50) rfl ?_); refine goesL_ (some 22) rfl rfl Tryz.func50 (by kernel_rfl) rfl #[.int .i64 a2, .int .i64 (-64), .int .i64 64] rfl (by (try simp only [List.map_toArray, List.map_cons, List.map_nil]); first | done | rfl | (simp only [List.length_drop, List.length_take]; rfl)) ?_; (with_reducible refine (r15_in.calls a2 (-64) 64 false _ A22.out).mono ?_); rintro e w' ⟨rfl, ⟨nd, rfl⟩⟩; refine ⟨_, rfl, ?_⟩))
            go_meet
            case rel => exact ⟨_, (true), (by first | rfl | (simp; done) | (simp [*]; done)), H', ⟨by have := HJ5.out; first | omega | exact Nat.le_refl _⟩, ⟨by (with_reducible repeat (first | refine bkN ?_ _ | refine bkd ?_ | refine bka ?_ _)); exact BK444.out⟩, ⟨by (with_reducible repeat (first | refine bkN ?_ _ | refine bkd ?_ | refine bka ?_ _)); exact BK445.out⟩, ⟨by (with_reducible repeat (first | refine bkN ?_ _ | refine bkd ?_ | refine bka ?_ _)); exact BK446.out⟩, ⟨by repeat (first | (with_reducible first | exact HB.out | apply bwa | apply pwN | apply bwd | refine bws ?_ GE444.out | refine bws ?_ GE445.out | refine bws ?_ GE446.out) | exact HB.out)⟩⟩
        case rest =>
          clear HC21
          try clear c1
          try clear c2
          try clear p2
          try clear c3
          try clear c5
          try clear c10
          try clear c11
          try clear c14
          try clear c14b0
          try clear c14b1
          try clear c16
          try clear c17
          try clear c20
          try clear c20b0
          try clear c20b1
          try clear c23
          try clear hcz12_0
          try clear hcz12_1
          try clear hcz12_2
          try clear hcz12_3
          try clear hcz18_0
          try clear hcz18_1
          try clear hcz18_2
          try clear hcz18_3
          try clear hfz12_0
          try clear hfz12_1
          try clear hfz12_2
          try clear hfz12_3
          try clear hfz18_0
          try clear hfz18_1
          try clear hfz18_2
          try clear hfz18_3
          try clear p2
          obtain ⟨kq, x28_20, rfl, HA, HJ20, BK444, BK445, BK446, HB⟩ := hcut
          cases kq with
          | zero => exact absurd HA.out (by simp [r15_Over.j1])
          | succ kj20 =>
            have H := HA.out
            clear HA
            simp only [r15_Over.j1] at H
            by_cases c25 : x28_20 = true
            · subst c25
              have H1 : (some (0, 0, 0, ([] : List (List Int)), 1)) = some (r1, r2, r3, r4, r5) := by rw [if_pos rfl] at H; exact H
              clear H
              have H := H1
              clear H1
              simp only [Option.some.injEq, Prod.mk.injEq] at H
              obtain ⟨rfl, rfl, rfl, rfl, rfl⟩ := H
              have hnb26 := NB446_444.out
              have hnc26 := NB444_446.out
              have hnb27 := NB446_445.out
              have hnc27 := NB445_446.out
              have hcz28_0 : wc.cell? ⟨gb446, 0, none⟩ = some (.int .i64 0) := (bkc BK446.out 0).trans rfl
              have hcz28_1 : wc.cell? ⟨gb446, 1, none⟩ = some (.int .i64 0) := (bkc BK446.out 1).trans rfl
              have hcz28_2 : wc.cell? ⟨gb446, 2, none⟩ = some (.int .i64 0) := (bkc BK446.out 2).trans rfl
              have hcz28_3 : wc.cell? ⟨gb446, 3, none⟩ = some (.slice none 0 0) := (bkc BK446.out 3).trans rfl
              have hfz28_0 := bkz BK446.out 0
              have hfz28_1 := bkz BK446.out 1
              have hfz28_2 := bkz BK446.out 2
              have hfz28_3 := bkz BK446.out 3
              go_wp2
              refine bodyPost_ret (results_ct rfl _ _ gb446 24 #[.int .i64 0, .int .i64 0, .int .i64 0, .slice none 0 0] (0, 0) _ rfl (by (with_reducible repeat (first | refine bkN ?_ _ | refine bkd ?_ | refine bka ?_ _)); refine blk_put (cs := #[.int .i64 0, .int .i64 0, .int .i64 0, .slice none 0 0]) ?_ 3 _ rfl; (with_reducible repeat (first | refine bkN ?_ _ | refine bkd ?_ | refine bka ?_ _)); refine blk_put (cs := #[.int .i64 0, .int .i64 0, .int .i64 0, .slice none 0 0]) ?_ 2 _ rfl; (with_reducible repeat (first | refine bkN ?_ _ | refine bkd ?_ | refine bka ?_ _)); refine blk_put (cs := #[.int .i64 0, .int .i64 0, .int .i64 0, .slice none 0 0]) ?_ 1 _ rfl; (with_reducible repeat (first | refine bkN ?_ _ | refine bkd ?_ | refine bka ?_ _)); refine blk_put (cs := #[.int .i64 0, .int .i64 0, .int .i64 0, .slice none 0 0]) ?_ 0 _ rfl; (with_reducible repeat (first | refine bkN ?_ _ | refine bkd ?_ | refine bka ?_ _)); exact BK446.out) Tryz.underlying24 rfl (by kernel_rfl)) rfl ?_
              exact ⟨_, by first | rfl | (simp [errW_none, errW_some] <;> rfl) | (simp [*, errW_none, errW_some] <;> rfl), by first | exact Kd.S_nil _ _ _ _ _ | exact Kd.N_nil _ _ _ _ _ | exact Kd.V_nil _ _ _ _ _ | exact Kd.Q_nil _ _ _ _ _ | exact Kd.R_nil _ _ _ _ _, by repeat (first | (with_reducible first | exact HB.out | apply bwa | apply pwN | apply bwd | refine bws ?_ GE444.out | refine bws ?_ GE445.out | refine bws ?_ GE446.out) | exact HB.out)⟩
            · replace c25 := Bool.eq_false_iff.mpr c25
              subst c25
              have H1 : (if a0_2 = a1_2 then (if (l0_3.length : Int) = (l1_3.length : Int) then ((r15_drawn.f kj20 a0_0 a0_1 a0_2 l0_3 a1_0 a1_1 a1_2 l1_3 a2 a3).bind fun bt451 => (some (bt451.1, bt451.2.1, bt451.2.2.1, bt451.2.2.2, 0))) else (some (0, 0, 0, ([] : List (List Int)), 151))) else (some (0, 0, 0, ([] : List (List Int)), 151))) = some (r1, r2, r3, r4, r5) := by rw [if_neg (show ¬ (false = true) by decide)] at H; exact H
              clear H
              have H := H1
              clear H1
              by_cases c29 : a0_2 = a1_2
              · rw [if_pos c29] at H
                have c29b0 : (a0_2 == a1_2) = true := beq_iff_eq.mpr c29
                have c29b1 : (a0_2 != a1_2) = false := bne_eq_false_iff_eq.mpr c29
                clear c29
                by_cases c30 : (l0_3.length : Int) = (l1_3.length : Int)
                · rw [if_pos c30] at H
                  have c30b0 : ((l0_3.length : Int) == (l1_3.length : Int)) = true := beq_iff_eq.mpr c30
                  have c30b1 : ((l0_3.length : Int) != (l1_3.length : Int)) = false := bne_eq_false_iff_eq.mpr c30
                  have c30b2 : (l0_3.length == l1_3.length) = true := by first | simpa using c30 | (simp at c30 ⊢; omega)
                  clear c30
                  replace H := Option.bind_eq_some_iff.mp H
                  obtain ⟨⟨t451, t452, t453, t454⟩, A310, H⟩ := H
                  replace H : (some (t451, t452, t453, t454, 0)) = some (r1, r2, r3, r4, r5) := H
                  have A31 := As0.mk A310
                  clear A310
                  simp only [Option.some.injEq, Prod.mk.injEq] at H
                  obtain ⟨rfl, rfl, rfl, rfl, rfl⟩ := H
                  have hnb32 := NB444_445.out
                  have hnc32 := NB445_444.out
                  have hnb33 := NB444_446.out
                  have hnc33 := NB446_444.out
                  have hcz34_0 : wc.cell? ⟨gb444, 0, none⟩ = some (.int .i64 a0_0) := (bkc BK444.out 0).trans rfl
                  have hcz34_1 : wc.cell? ⟨gb444, 1, none⟩ = some (.int .i64 a0_1) := (bkc BK444.out 1).trans rfl
                  have hcz34_2 : wc.cell? ⟨gb444, 2, none⟩ = some (.int .i64 a0_2) := (bkc BK444.out 2).trans rfl
                  have hcz34_3 : wc.cell? ⟨gb444, 3, none⟩ = some (.slice A0_3 l0_3.length c0_3) := (bkc BK444.out 3).trans rfl
                  have hfz34_0 := bkz BK444.out 0
                  have hfz34_1 := bkz BK444.out 1
                  have hfz34_2 := bkz BK444.out 2
                  have hfz34_3 := bkz BK444.out 3
                  have hnb35 := NB445_446.out
                  have hnc35 := NB446_445.out
                  have hcz36_0 : wc.cell? ⟨gb445, 0, none⟩ = some (.int .i64 a1_0) := (bkc BK445.out 0).trans rfl
                  have hcz36_1 : wc.cell? ⟨gb445, 1, none⟩ = some (.int .i64 a1_1) := (bkc BK445.out 1).trans rfl
                  have hcz36_2 : wc.cell? ⟨gb445, 2, none⟩ = some (.int .i64 a1_2) := (bkc BK445.out 2).trans rfl
                  have hcz36_3 : wc.cell? ⟨gb445, 3, none⟩ = some (.slice A1_3 l1_3.length c1_3) := (bkc BK445.out 3).trans rfl
                  have hfz36_0 := bkz BK445.out 0
                  have hfz36_1 := bkz BK445.out 1
                  have hfz36_2 := bkz BK445.out 2
                  have hfz36_3 := bkz BK445.out 3
                  go_wp2_with (first | ((with_reducible refine gate_callee (f := 69) rfl ?_); refine goesL_ (some 49) rfl rfl Tryz.func69 (by kernel_rfl) rfl #[.agg #[.int .i64 a0_0, .int .i64 a0_1, .int .i64 a0_2, .slice A0_3 l0_3.length c0_3], .agg #[.int .i64 a1_0, .int .i64 a1_1, .int .i64 a1_2, .slice A1_3 l1_3.length c1_3], .int .i64 a2, .int .i64 a3] rfl (by (try simp only [List.map_toArray, List.map_cons, List.map_nil]); first | done | rfl | (simp only [List.length_drop, List.length_take]; rfl)) ?_; (with_reducible refine (r15_drawn.calls kj20 a0_0 a0_1 a0_2 _ _ l0_3 a1_0 a1_1 a1_2 _ _ l1_3 a2 a3 t451 t452 t453 t454 _ ?side1 ?side2 ?side3 ?side4 A31.out).mono ?_); (case side1 => repeat (first | exact (Kd.C_below HR0_3.out HB.out) | (with_reducible refine Kd.C_alloc ?_ _) | (with_reducible refine Kd.C_drewN ?_ _) | (with_reducible refine Kd.C_drew ?_))); (case side2 => exact HC0_3.out); (case side3 => repeat (first | exact (Kd.C_below HR1_3.out HB.out) | (with_reducible refine Kd.C_alloc ?_ _) | (with_reducible refine Kd.C_drewN ?_ _) | (with_reducible refine Kd.C_drew ?_))); (case side4 => exact HC1_3.out); rintro e w37 ⟨v455, rfl, ho0, hb⟩; refine ⟨_, rfl, ?_⟩; have n0_ := As0.mk (Kd.S_lower ho0 (bwz (by repeat (first | (with_reducible first | exact HB.out | apply bwa | apply pwN | apply bwd | refine bws ?_ GE444.out | refine bws ?_ GE445.out | refine bws ?_ GE446.out) | exact HB.out)))); have n1_ := As0.mk (bkb (g := gb444) (o := .cells #[.int .i64 a0_0, .int .i64 a0_1, .int .i64 a0_2, .slice A0_3 l0_3.length c0_3] 24 (0, 0)) (by (with_reducible repeat (first | refine bkN ?_ _ | refine bkd ?_ | refine bka ?_ _)); exact BK444.out) hb); have n2_ := As0.mk (bkb (g := gb445) (o := .cells #[.int .i64 a1_0, .int .i64 a1_1, .int .i64 a1_2, .slice A1_3 l1_3.length c1_3] 24 (0, 0)) (by (with_reducible repeat (first | refine bkN ?_ _ | refine bkd ?_ | refine bka ?_ _)); exact BK445.out) hb); have n3_ := As0.mk (bkb (g := gb446) (o := .cells #[.int .i64 0, .int .i64 0, .int .i64 0, .slice none 0 0] 24 (0, 0)) (by (with_reducible repeat (first | refine bkN ?_ _ | refine bkd ?_ | refine bka ?_ _)); exact BK446.out) hb); have n4_ := As0.mk (bwp (by repeat (first | (with_reducible first | exact HB.out | apply bwa | apply pwN | apply bwd | refine bws ?_ GE444.out | refine bws ?_ GE445.out | refine bws ?_ GE446.out) | exact HB.out)) hb); clear BK444; clear BK445; clear BK446; clear HB; have HO456 := n0_; have BK444 := n1_; have BK445 := n2_; have BK446 := n3_; have HB := n4_; clear n0_ n1_ n2_ n3_ n4_; (try clear hb); (try clear hb2); (try clear hk); (try clear hi); (try clear ho0); have hcz38_0 : w37.cell? ⟨gb446, 0, none⟩ = some (.int .i64 0) := (bkc BK446.out 0).trans rfl; have hcz38_1 : w37.cell? ⟨gb446, 1, none⟩ = some (.int .i64 0) := (bkc BK446.out 1).trans rfl; have hcz38_2 : w37.cell? ⟨gb446, 2, none⟩ = some (.int .i64 0) := (bkc BK446.out 2).trans rfl; have hcz38_3 : w37.cell? ⟨gb446, 3, none⟩ = some (.slice none 0 0) := (bkc BK446.out 3).trans rfl; have hfz38_0 := bkz BK446.out 0; have hfz38_1 := bkz BK446.out 1; have hfz38_2 := bkz BK446.out 2; have hfz38_3 := bkz BK446.out 3; obtain ⟨Ao39, co39, eo39⟩ := Kd.S_slice HO456.out; subst eo39))
                  refine bodyPost_ret (results_ct rfl _ _ gb446 24 #[.int .i64 t451, .int .i64 t452, .int .i64 t453, .slice Ao39 t454.length co39] (0, 0) _ rfl (by (with_reducible repeat (first | refine bkN ?_ _ | refine bkd ?_ | refine bka ?_ _)); refine blk_put (cs := #[.int .i64 t451, .int .i64 t452, .int .i64 t453, .slice none 0 0]) ?_ 3 _ rfl; (with_reducible repeat (first | refine bkN ?_ _ | refine bkd ?_ | refine bka ?_ _)); refine blk_put (cs := #[.int .i64 t451, .int .i64 t452, .int .i64 0, .slice none 0 0]) ?_ 2 _ rfl; (with_reducible repeat (first | refine bkN ?_ _ | refine bkd ?_ | refine bka ?_ _)); refine blk_put (cs := #[.int .i64 t451, .int .i64 0, .int .i64 0, .slice none 0 0]) ?_ 1 _ rfl; (with_reducible repeat (first | refine bkN ?_ _ | refine bkd ?_ | refine bka ?_ _)); refine blk_put (cs := #[.int .i64 0, .int .i64 0, .int .i64 0, .slice none 0 0]) ?_ 0 _ rfl; (with_reducible repeat (first | refine bkN ?_ _ | refine bkd ?_ | refine bka ?_ _)); exact BK446.out) Tryz.underlying24 rfl (by kernel_rfl)) rfl ?_
                  exact ⟨_, by first | rfl | (simp [errW_none, errW_some] <;> rfl) | (simp [*, errW_none, errW_some] <;> rfl), by (with_reducible repeat (first | apply Kd.S_alloc | apply Kd.S_drewN | apply Kd.S_drew)); exact Kd.S_mono (Kd.S_far (p := ⟨gb446, 3, none⟩) (Kd.S_far (p := ⟨gb446, 2, none⟩) (Kd.S_far (p := ⟨gb446, 1, none⟩) (Kd.S_far (p := ⟨gb446, 0, none⟩) (Kd.S_types HO456.out BK446.out (by decide)) (fun _ hk => hk.2) (.int .i64 t451)) (fun _ hk => hk.2) (.int .i64 t452)) (fun _ hk => hk.2) (.int .i64 t453)) (fun _ hk => hk.2) (.slice Ao39 t454.length co39)) (fun _ hk => trivial), by repeat (first | (with_reducible first | exact HB.out | apply bwa | apply pwN | apply bwd | refine bws ?_ GE444.out | refine bws ?_ GE445.out | refine bws ?_ GE446.out) | exact HB.out)⟩
                · rw [if_neg c30] at H
                  have c30b0 : ((l0_3.length : Int) == (l1_3.length : Int)) = false := beq_eq_false_iff_ne.mpr c30
                  have c30b1 : ((l0_3.length : Int) != (l1_3.length : Int)) = true := bne_iff_ne.mpr c30
                  have c30b2 : (l0_3.length == l1_3.length) = false := by first | simpa using c30 | (simp at c30 ⊢; omega)
                  simp only [Option.some.injEq, Prod.mk.injEq] at H
                  obtain ⟨rfl, rfl, rfl, rfl, rfl⟩ := H
                  have hnb40 := NB444_445.out
                  have hnc40 := NB445_444.out
                  have hnb41 := NB444_446.out
                  have hnc41 := NB446_444.out
                  have hcz42_0 : wc.cell? ⟨gb444, 0, none⟩ = some (.int .i64 a0_0) := (bkc BK444.out 0).trans rfl
                  have hcz42_1 : wc.cell? ⟨gb444, 1, none⟩ = some (.int .i64 a0_1) := (bkc BK444.out 1).trans rfl
                  have hcz42_2 : wc.cell? ⟨gb444, 2, none⟩ = some (.int .i64 a0_2) := (bkc BK444.out 2).trans rfl
                  have hcz42_3 : wc.cell? ⟨gb444, 3, none⟩ = some (.slice A0_3 l0_3.length c0_3) := (bkc BK444.out 3).trans rfl
                  have hfz42_0 := bkz BK444.out 0
                  have hfz42_1 := bkz BK444.out 1
                  have hfz42_2 := bkz BK444.out 2
                  have hfz42_3 := bkz BK444.out 3
                  have hnb43 := NB445_446.out
                  have hnc43 := NB446_445.out
                  have hcz44_0 : wc.cell? ⟨gb445, 0, none⟩ = some (.int .i64 a1_0) := (bkc BK445.out 0).trans rfl
                  have hcz44_1 : wc.cell? ⟨gb445, 1, none⟩ = some (.int .i64 a1_1) := (bkc BK445.out 1).trans rfl
                  have hcz44_2 : wc.cell? ⟨gb445, 2, none⟩ = some (.int .i64 a1_2) := (bkc BK445.out 2).trans rfl
                  have hcz44_3 : wc.cell? ⟨gb445, 3, none⟩ = some (.slice A1_3 l1_3.length c1_3) := (bkc BK445.out 3).trans rfl
                  have hfz44_0 := bkz BK445.out 0
                  have hfz44_1 := bkz BK445.out 1
                  have hfz44_2 := bkz BK445.out 2
                  have hfz44_3 := bkz BK445.out 3
                  have hcz45_0 : wc.cell? ⟨gb446, 0, none⟩ = some (.int .i64 0) := (bkc BK446.out 0).trans rfl
                  have hcz45_1 : wc.cell? ⟨gb446, 1, none⟩ = some (.int .i64 0) := (bkc BK446.out 1).trans rfl
                  have hcz45_2 : wc.cell? ⟨gb446, 2, none⟩ = some (.int .i64 0) := (bkc BK446.out 2).trans rfl
                  have hcz45_3 : wc.cell? ⟨gb446, 3, none⟩ = some (.slice none 0 0) := (bkc BK446.out 3).trans rfl
                  have hfz45_0 := bkz BK446.out 0
                  have hfz45_1 := bkz BK446.out 1
                  have hfz45_2 := bkz BK446.out 2
                  have hfz45_3 := bkz BK446.out 3
                  go_wp2
                  refine bodyPost_ret (results_ct rfl _ _ gb446 24 #[.int .i64 0, .int .i64 0, .int .i64 0, .slice none 0 0] (0, 0) _ rfl (by (with_reducible repeat (first | refine bkN ?_ _ | refine bkd ?_ | refine bka ?_ _)); refine blk_put (cs := #[.int .i64 0, .int .i64 0, .int .i64 0, .slice none 0 0]) ?_ 3 _ rfl; (with_reducible repeat (first | refine bkN ?_ _ | refine bkd ?_ | refine bka ?_ _)); refine blk_put (cs := #[.int .i64 0, .int .i64 0, .int .i64 0, .slice none 0 0]) ?_ 2 _ rfl; (with_reducible repeat (first | refine bkN ?_ _ | refine bkd ?_ | refine bka ?_ _)); refine blk_put (cs := #[.int .i64 0, .int .i64 0, .int .i64 0, .slice none 0 0]) ?_ 1 _ rfl; (with_reducible repeat (first | refine bkN ?_ _ | refine bkd ?_ | refine bka ?_ _)); refine blk_put (cs := #[.int .i64 0, .int .i64 0, .int .i64 0, .slice none 0 0]) ?_ 0 _ rfl; (with_reducible repeat (first | refine bkN ?_ _ | refine bkd ?_ | refine bka ?_ _)); exact BK446.out) Tryz.underlying24 rfl (by kernel_rfl)) rfl ?_
                  exact ⟨_, by first | rfl | (simp [errW_none, errW_some] <;> rfl) | (simp [*, errW_none, errW_some] <;> rfl), by first | exact Kd.S_nil _ _ _ _ _ | exact Kd.N_nil _ _ _ _ _ | exact Kd.V_nil _ _ _ _ _ | exact Kd.Q_nil _ _ _ _ _ | exact Kd.R_nil _ _ _ _ _, by repeat (first | (with_reducible first | exact HB.out | apply bwa | apply pwN | apply bwd | refine bws ?_ GE444.out | refine bws ?_ GE445.out | refine bws ?_ GE446.out) | exact HB.out)⟩
              · rw [if_neg c29] at H
                have c29b0 : (a0_2 == a1_2) = false := beq_eq_false_iff_ne.mpr c29
                have c29b1 : (a0_2 != a1_2) = true := bne_iff_ne.mpr c29
                simp only [Option.some.injEq, Prod.mk.injEq] at H
                obtain ⟨rfl, rfl, rfl, rfl, rfl⟩ := H
                have hnb46 := NB444_445.out
                have hnc46 := NB445_444.out
                have hnb47 := NB444_446.out
                have hnc47 := NB446_444.out
                have hcz48_0 : wc.cell? ⟨gb444, 0, none⟩ = some (.int .i64 a0_0) := (bkc BK444.out 0).trans rfl
                have hcz48_1 : wc.cell? ⟨gb444, 1, none⟩ = some (.int .i64 a0_1) := (bkc BK444.out 1).trans rfl
                have hcz48_2 : wc.cell? ⟨gb444, 2, none⟩ = some (.int .i64 a0_2) := (bkc BK444.out 2).trans rfl
                have hcz48_3 : wc.cell? ⟨gb444, 3, none⟩ = some (.slice A0_3 l0_3.length c0_3) := (bkc BK444.out 3).trans rfl
                have hfz48_0 := bkz BK444.out 0
                have hfz48_1 := bkz BK444.out 1
                have hfz48_2 := bkz BK444.out 2
                have hfz48_3 := bkz BK444.out 3
                have hnb49 := NB445_446.out
                have hnc49 := NB446_445.out
                have hcz50_0 : wc.cell? ⟨gb445, 0, none⟩ = some (.int .i64 a1_0) := (bkc BK445.out 0).trans rfl
                have hcz50_1 : wc.cell? ⟨gb445, 1, none⟩ = some (.int .i64 a1_1) := (bkc BK445.out 1).trans rfl
                have hcz50_2 : wc.cell? ⟨gb445, 2, none⟩ = some (.int .i64 a1_2) := (bkc BK445.out 2).trans rfl
                have hcz50_3 : wc.cell? ⟨gb445, 3, none⟩ = some (.slice A1_3 l1_3.length c1_3) := (bkc BK445.out 3).trans rfl
                have hfz50_0 := bkz BK445.out 0
                have hfz50_1 := bkz BK445.out 1
                have hfz50_2 := bkz BK445.out 2
                have hfz50_3 := bkz BK445.out 3
                have hcz51_0 : wc.cell? ⟨gb446, 0, none⟩ = some (.int .i64 0) := (bkc BK446.out 0).trans rfl
                have hcz51_1 : wc.cell? ⟨gb446, 1, none⟩ = some (.int .i64 0) := (bkc BK446.out 1).trans rfl
                have hcz51_2 : wc.cell? ⟨gb446, 2, none⟩ = some (.int .i64 0) := (bkc BK446.out 2).trans rfl
                have hcz51_3 : wc.cell? ⟨gb446, 3, none⟩ = some (.slice none 0 0) := (bkc BK446.out 3).trans rfl
                have hfz51_0 := bkz BK446.out 0
                have hfz51_1 := bkz BK446.out 1
                have hfz51_2 := bkz BK446.out 2
                have hfz51_3 := bkz BK446.out 3
                go_wp2
                refine bodyPost_ret (results_ct rfl _ _ gb446 24 #[.int .i64 0, .int .i64 0, .int .i64 0, .slice none 0 0] (0, 0) _ rfl (by (with_reducible repeat (first | refine bkN ?_ _ | refine bkd ?_ | refine bka ?_ _)); refine blk_put (cs := #[.int .i64 0, .int .i64 0, .int .i64 0, .slice none 0 0]) ?_ 3 _ rfl; (with_reducible repeat (first | refine bkN ?_ _ | refine bkd ?_ | refine bka ?_ _)); refine blk_put (cs := #[.int .i64 0, .int .i64 0, .int .i64 0, .slice none 0 0]) ?_ 2 _ rfl; (with_reducible repeat (first | refine bkN ?_ _ | refine bkd ?_ | refine bka ?_ _)); refine blk_put (cs := #[.int .i64 0, .int .i64 0, .int .i64 0, .slice none 0 0]) ?_ 1 _ rfl; (with_reducible repeat (first | refine bkN ?_ _ | refine bkd ?_ | refine bka ?_ _)); refine blk_put (cs := #[.int .i64 0, .int .i64 0, .int .i64 0, .slice none 0 0]) ?_ 0 _ rfl; (with_reducible repeat (first | refine bkN ?_ _ | refine bkd ?_ | refine bka ?_ _)); exact BK446.out) Tryz.underlying24 rfl (by kernel_rfl)) rfl ?_
                exact ⟨_, by first | rfl | (simp [errW_none, errW_some] <;> rfl) | (simp [*, errW_none, errW_some] <;> rfl), by first | exact Kd.S_nil _ _ _ _ _ | exact Kd.N_nil _ _ _ _ _ | exact Kd.V_nil _ _ _ _ _ | exact Kd.Q_nil _ _ _ _ _ | exact Kd.R_nil _ _ _ _ _, by repeat (first | (with_reducible first | exact HB.out | apply bwa | apply pwN | apply bwd | refine bws ?_ GE444.out | refine bws ?_ GE445.out | refine bws ?_ GE446.out) | exact HB.out)⟩
      · rw [if_neg c20] at H
        have c20b0 : (x10_5 == 0) = false := beq_eq_false_iff_ne.mpr c20
        have c20b1 : (x10_5 != 0) = true := bne_iff_ne.mpr c20
        simp only [Option.some.injEq, Prod.mk.injEq] at H
        obtain ⟨rfl, rfl, rfl, rfl, rfl⟩ := H
        have hnb52 := NB446_444.out
        have hnc52 := NB444_446.out
        have hnb53 := NB446_445.out
        have hnc53 := NB445_446.out
        have hcz54_0 : wc.cell? ⟨gb446, 0, none⟩ = some (.int .i64 0) := (bkc BK446.out 0).trans rfl
        have hcz54_1 : wc.cell? ⟨gb446, 1, none⟩ = some (.int .i64 0) := (bkc BK446.out 1).trans rfl
        have hcz54_2 : wc.cell? ⟨gb446, 2, none⟩ = some (.int .i64 0) := (bkc BK446.out 2).trans rfl
        have hcz54_3 : wc.cell? ⟨gb446, 3, none⟩ = some (.slice none 0 0) := (bkc BK446.out 3).trans rfl
        have hfz54_0 := bkz BK446.out 0
        have hfz54_1 := bkz BK446.out 1
        have hfz54_2 := bkz BK446.out 2
        have hfz54_3 := bkz BK446.out 3
        go_wp2
        refine bodyPost_ret (results_ct rfl _ _ gb446 24 #[.int .i64 0, .int .i64 0, .int .i64 0, .slice none 0 0] (0, 0) _ rfl (by (with_reducible repeat (first | refine bkN ?_ _ | refine bkd ?_ | refine bka ?_ _)); refine blk_put (cs := #[.int .i64 0, .int .i64 0, .int .i64 0, .slice none 0 0]) ?_ 3 _ rfl; (with_reducible repeat (first | refine bkN ?_ _ | refine bkd ?_ | refine bka ?_ _)); refine blk_put (cs := #[.int .i64 0, .int .i64 0, .int .i64 0, .slice none 0 0]) ?_ 2 _ rfl; (with_reducible repeat (first | refine bkN ?_ _ | refine bkd ?_ | refine bka ?_ _)); refine blk_put (cs := #[.int .i64 0, .int .i64 0, .int .i64 0, .slice none 0 0]) ?_ 1 _ rfl; (with_reducible repeat (first | refine bkN ?_ _ | refine bkd ?_ | refine bka ?_ _)); refine blk_put (cs := #[.int .i64 0, .int .i64 0, .int .i64 0, .slice none 0 0]) ?_ 0 _ rfl; (with_reducible repeat (first | refine bkN ?_ _ | refine bkd ?_ | refine bka ?_ _)); exact BK446.out) Tryz.underlying24 rfl (by kernel_rfl)) rfl ?_
        exact ⟨_, by first | rfl | (simp [errW_none, errW_some] <;> rfl) | (simp [*, errW_none, errW_some] <;> rfl), by first | exact Kd.S_nil _ _ _ _ _ | exact Kd.N_nil _ _ _ _ _ | exact Kd.V_nil _ _ _ _ _ | exact Kd.Q_nil _ _ _ _ _ | exact Kd.R_nil _ _ _ _ _, by repeat (first | (with_reducible first | exact HB.out | apply bwa | apply pwN | apply bwd | refine bws ?_ GE444.out | refine bws ?_ GE445.out | refine bws ?_ GE446.out) | exact HB.out)⟩
end Go.Proofs.YtphkionjjhhhlaaGreat.Q
end
