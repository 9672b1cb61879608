/- Lemmas and walks of this proof (part 3). -/
import Derived.Test.YtphkionjjhhhlaaGreatCParts2
set_option linter.unusedVariables false
set_option linter.unusedSimpArgs false
section
namespace Go.Proofs.YtphkionjjhhhlaaGreat.Q
open Go.RowKit Go.Proofs.YtphkionjjhhhlaaGreatW.PrintWords Go.Proofs.YtphkionjjhhhlaaGreatW.PrintLast Go.Proofs.YtphkionjjhhhlaaGreatW.PrintMore
def canvasP (x : S68) : List (List Int) := x.f9.map fun v => List.replicate (x.f7 * x.f8).toNat v
def draw_walk.T5 : Bool × List (List Nat × List Nat) := (true, [([], []), ([0], [0]), ([], []), ([2], [2]), ([], []), ([4], [4]), ([], []), ([6], [6]), ([5, 7], [5, 7]), ([3, 8], [3, 8]), ([9], [9]), ([1, 10, 9], [1, 10]), ([0, 1, 2, 3, 4, 5, 6, 7, 8, 9, 10, 11], []), ([12, 11, 11, 0, 1, 2, 3, 4, 5, 6, 7, 8, 9, 10, 11], [11, 12])])
def draw_walk.B5 : List Nat := [0, 1, 0, 4, 0, 16, 0, 64, 240, 508, 1020, 2047, 4095, 8191]
theorem draw_walk.tab5 : rtab .any (opsOf Tryz.f322 5) = draw_walk.T5 := by kernel_rfl
theorem draw_walk.bits5 : waitsOk draw_walk.T5.2 draw_walk.B5 = true := by kernel_rfl
theorem C_one (w : World) (v : Int) : Kd.C (Kd.int .i64) (w.alloc (.cells #[.int .i64 v] 3)) (some ⟨w.heap.size, 0, none⟩) [v].length [v] := by
 have h : (Kd.int .i64).R 3 (w.alloc (.cells #[.int .i64 v] 3)) w.heap.size (fun _ => True) (.slice (some ⟨w.heap.size, 0, none⟩) 1 1) [v] :=
  ⟨fun _ _ => trivial, OwnRow.lit w w.heap.size (inner := [.int .i64 v]) (ps := [v]) ⟨rfl, fun j p hj => by
   cases j with
   | zero => exact Option.some.inj hj ▸ rfl
   | succ j => simp at hj⟩ (Nat.le_refl _) (by simp)⟩
 exact (Kd.R_reads' h).2.2
set_option maxHeartbeats 16000000 in
set_option maxRecDepth 100000 in
theorem draw_canvas (x : S68) (A2 : Option Addr) (c2 : Nat) (A3 : Option Addr) (c3 : Nat) (A4 : Option Addr) (c4 : Nat) (A9 : Option Addr) (c9 : Nat) (A1 : Option Addr) (c1 : Nat) (w : World) (hr9 : Kd.C (Kd.int .i64) w A9 x.f9.length x.f9) (hx : 1 ≤ x.f7 ∧ x.f7 ≤ 1000 ∧ 1 ≤ x.f8 ∧ x.f8 ≤ 1000 ∧ x.f9.length ≤ 1000) :
  Calls Tryz.prog 322 #[.agg #[.int .i64 x.f0, .int .i64 x.f1, .slice A2 x.f2.length c2, .slice A3 x.f3.length c3, .slice A4 x.f4.length c4, .int .i64 x.f5, .int .i64 x.f6, .int .i64 x.f7, .int .i64 x.f8, .slice A9 x.f9.length c9, .int .i64 x.f10, .bool x.f11], .slice A1 0 c1] w fun e w' => ∃ v3_ : Value, e = .returned (.agg #[.int .i64 x.f7, .int .i64 x.f8, .int .i64 8, v3_]) ∧ Kd.S (Kd.slice 3 (Kd.int .i64)) 39 w' w.heap.size (fun _ => True) v3_ (canvasP x) ∧ Below w.heap.size w w' := by
 have HX := As0.mk hx
 have HR := As0.mk hr9
 clear hx hr9
 have hu24 := Tryz.underlying24
 have hu157 := Tryz.underlying157
 have hlen := As0.mk HR.out.2.1
 go_enter Tryz.func322, Tryz.ntmps322
 go_wp2_with (first | ((with_reducible refine gdt (N := 2) rfl ?_); refine bxe ?hg (N := 2) ?hd (cs := #[.int .i64 x.f0, .int .i64 x.f1, .slice A2 x.f2.length c2, .slice A3 x.f3.length c3, .slice A4 x.f4.length c4, .int .i64 x.f5, .int .i64 x.f6, .int .i64 x.f7, .int .i64 x.f8, .slice A9 x.f9.length c9, .int .i64 x.f10, .bool x.f11]) (t := 157) ?hr ?_; (case hd => rfl); (case hg => rfl); (case hr => first | (go_simp; done) | (go_simp; rfl)); intro g2 hgg2 w2 hboxg2 hbg2; have BKg2 := As0.mk hboxg2; have HB2 := As0.mk hbg2; clear hboxg2 hbg2 hgg2) | ((with_reducible refine gdt (N := 4) rfl ?_); refine bxe ?hg (N := 4) ?hd (cs := #[.int .i64 0, .int .i64 0, .int .i64 0, .slice none 0 0]) (t := 24) ?hr ?_; (case hd => rfl); (case hg => rfl); (case hr => first | (go_simp; done) | (go_simp; rfl)); intro g4 hgg4 w3 hboxg4 hbg4; have BKg4 := As0.mk hboxg4; have GE4 : As0 (w.heap.size ≤ g4) := ⟨by have := HB2.out.size; omega⟩; have HB3 := As0.mk (pwt HB2.out hbg4); replace BKg2 := As0.mk (bkb BKg2.out hbg4); have k7 : w3.cell? ⟨g2, 7, none⟩ = some (.int .i64 x.f7) := (bkc BKg2.out 7).trans rfl; have k8 : w3.cell? ⟨g2, 8, none⟩ = some (.int .i64 x.f8) := (bkc BKg2.out 8).trans rfl; clear hboxg4 hbg4 hgg4) | ((with_reducible refine gdt (N := 5) rfl ?_); refine bxe ?hg (N := 5) ?hd (cs := #[.int .i64 0, .int .i64 0, .int .i64 0, .slice none 0 0]) (t := 24) ?hr ?_; (case hd => rfl); (case hg => rfl); (case hr => first | (go_simp; done) | (go_simp; rfl)); intro g5 hgg5 w4 hboxg5 hbg5; have BKg5 := As0.mk hboxg5; have GE5 : As0 (w.heap.size ≤ g5) := ⟨by have := HB3.out.size; omega⟩; have NE45 : As0 (g4 ≠ g5) := ⟨by have := blk_lt BKg4.out; omega⟩; have NE25 : As0 (g2 ≠ g5) := ⟨by have := blk_lt BKg2.out; omega⟩; replace BKg4 := As0.mk (bkb BKg4.out hbg5); replace BKg2 := As0.mk (bkb BKg2.out hbg5); have HB4 := As0.mk (pwt HB3.out hbg5); clear k7 k8; have z0 : w4.cell? ⟨g5, 0, none⟩ = some (.int .i64 0) := (bkc BKg5.out 0).trans rfl; have z1 : w4.cell? ⟨g5, 1, none⟩ = some (.int .i64 0) := (bkc BKg5.out 1).trans rfl; have z2 : w4.cell? ⟨g5, 2, none⟩ = some (.int .i64 0) := (bkc BKg5.out 2).trans rfl; have z3 : w4.cell? ⟨g5, 3, none⟩ = some (.slice none 0 0) := (bkc BKg5.out 3).trans rfl; have fz0 := bkz BKg5.out 0; have fz1 := bkz BKg5.out 1; have fz2 := bkz BKg5.out 2; have fz3 := bkz BKg5.out 3; have m9 : ∀ v0 v1 v2 v3 : Value, ((((w4.setCell ⟨g5, 0, none⟩ v0).setCell ⟨g5, 1, none⟩ v1).setCell ⟨g5, 2, none⟩ v2).setCell ⟨g5, 3, none⟩ v3).cell? ⟨g2, 9, none⟩ = some (.slice A9 x.f9.length c9) := fun v0 v1 v2 v3 => (bkc (four_far BKg2.out NE25.out v0 v1 v2 v3) 9).trans rfl; clear hboxg5 hbg5 hgg5))
 clear z0 z1 z2 z3 fz0 fz1 fz2 fz3 m9
 go_loopg [18] x.f9.length (fun kq v18 w' => ∃ (i : Int) (u : Value), v18 = .int .i64 i ∧ As0 (0 ≤ i ∧ i + kq = x.f9.length) ∧ As0 (Kd.S (Kd.slice 3 (Kd.int .i64)) 39 w' w.heap.size (fun _ => True) u ((x.f9.take i.toNat).map fun v => List.replicate (x.f7 * x.f8).toNat v)) ∧ As0 (w'.heap[g2]? = some (.cells #[.int .i64 x.f0, .int .i64 x.f1, .slice A2 x.f2.length c2, .slice A3 x.f3.length c3, .slice A4 x.f4.length c4, .int .i64 x.f5, .int .i64 x.f6, .int .i64 x.f7, .int .i64 x.f8, .slice A9 x.f9.length c9, .int .i64 x.f10, .bool x.f11] 157 (0, 0))) ∧ As0 (w'.heap[g4]? = some (.cells #[.int .i64 0, .int .i64 0, .int .i64 0, .slice none 0 0] 24 (0, 0))) ∧ As0 (w'.heap[g5]? = some (.cells #[.int .i64 x.f7, .int .i64 x.f8, .int .i64 8, u] 24 (0, 0))) ∧ As0 (Below w.heap.size w w'))
 case atStart => exact ⟨0, .slice none 0 0, rfl, ⟨by omega, by omega⟩, ⟨Kd.S_nil _ _ _ _ _⟩, ⟨four_far BKg2.out NE25.out _ _ _ _⟩, ⟨four_far BKg4.out NE45.out _ _ _ _⟩, ⟨four_put BKg5.out _ _ _ _⟩, ⟨four_below HB4.out GE5.out _ _ _ _⟩⟩
 case round =>
  clear BKg2 BKg4 BKg5 HB4 HB3 HB2
  obtain ⟨i, u, rfl, HI, HS, BKg2, BKg4, BKg5, HB⟩ := hrel
  obtain ⟨Au, cu, rfl⟩ := Kd.S_slice HS.out
  cases gk with
  | zero =>
   have hge : decide (i < (x.f9.length : Int)) = false := by have := HI.out; simp; omega
   rw [List.take_of_length_le (by have := HI.out; omega)] at HS
   rw [List.take_of_length_le (by have := HI.out; omega)] at BKg5
   rw [List.length_map] at BKg5 HS
   go_wp2
   go_loopg [38] 0 (fun kq v38 w' => v38 = .int .i64 0 ∧ w' = wr)
   case atStart => exact ⟨rfl, rfl⟩
   case round =>
    obtain ⟨rfl, rfl⟩ := hrel
    have k0 : _root_.Go.World.cell? _ ⟨g5, 0, none⟩ = some (.int .i64 x.f7) := (bkc BKg5.out 0).trans rfl; have k1 : _root_.Go.World.cell? _ ⟨g5, 1, none⟩ = some (.int .i64 x.f8) := (bkc BKg5.out 1).trans rfl; have k2 : _root_.Go.World.cell? _ ⟨g5, 2, none⟩ = some (.int .i64 8) := (bkc BKg5.out 2).trans rfl; have k3 : _root_.Go.World.cell? _ ⟨g5, 3, none⟩ = some (.slice Au x.f9.length cu) := (bkc BKg5.out 3).trans rfl
    have z0 : _root_.Go.World.cell? _ ⟨g4, 0, none⟩ = some (.int .i64 0) := (bkc BKg4.out 0).trans rfl; have z1 : _root_.Go.World.cell? _ ⟨g4, 1, none⟩ = some (.int .i64 0) := (bkc BKg4.out 1).trans rfl; have z2 : _root_.Go.World.cell? _ ⟨g4, 2, none⟩ = some (.int .i64 0) := (bkc BKg4.out 2).trans rfl; have z3 : _root_.Go.World.cell? _ ⟨g4, 3, none⟩ = some (.slice none 0 0) := (bkc BKg4.out 3).trans rfl
    have fz0 := bkz BKg4.out 0; have fz1 := bkz BKg4.out 1; have fz2 := bkz BKg4.out 2; have fz3 := bkz BKg4.out 3
    go_wp2
    refine bodyPost_ret (results_cell_row rfl _ _ g4 24 #[.int .i64 x.f7, .int .i64 x.f8, .int .i64 8, .slice Au x.f9.length cu] (0, 0) _ rfl (four_put BKg4.out _ _ _ _) Tryz.underlying24 rfl (by kernel_rfl)) rfl ?_
    exact ⟨_, rfl, four_S HS.out BKg4.out (by decide) _ _ _ _, four_below HB.out GE4.out _ _ _ _⟩
  | succ kq1 =>
   have h0 : 0 ≤ i := by have := HI.out; omega
   have h1 : i < (x.f9.length : Int) := by have := HI.out; omega
   have hge : decide (i < (x.f9.length : Int)) = true := decide_eq_true h1
   have hg0 : decide (0 ≤ i) = true := decide_eq_true h0
   obtain ⟨ad, e0, hc⟩ := ReadsInt.at_ (Kd.reads_of_C (d := 0) HR.out : ReadsInt w .i64 A9 x.f9.length x.f9) i h0 h1
   cases e0
   replace hc := (HB.out.cell (World.block_lt_of_cell? w _ hc)).trans hc
   have hxx : x.f9[i.toNat]? = some (rd x.f9 i) := by
    have hl : i.toNat < x.f9.length := by omega
    simp [rd, List.getElem?_eq_getElem hl, List.getD_eq_getElem?_getD]
   have htk : (x.f9.take (i.toNat + 1)).map (fun v => List.replicate (x.f7 * x.f8).toNat v) = ((x.f9.take i.toNat).map fun v => List.replicate (x.f7 * x.f8).toNat v) ++ [List.replicate (x.f7 * x.f8).toNat (rd x.f9 i)] := by
    rw [List.take_add_one, hxx]
    simp
   have HTK := As0.mk htk
   clear hxx htk
   generalize rd x.f9 i = v9 at *
   have hm : 1 ≤ x.f7 * x.f8 ∧ x.f7 * x.f8 ≤ 1000000 := ⟨by have := Int.mul_le_mul HX.out.1 HX.out.2.2.1 (by omega) (by have := HX.out; omega); omega, by have := Int.mul_le_mul HX.out.2.1 HX.out.2.2.2.1 (by have := HX.out; omega) (by omega); omega⟩
   have hwm : wrap64 (x.f7 * x.f8) = x.f7 * x.f8 := by unfold wrap64; omega
   have HRP : As0 (slices_Repeat_int_int.f [v9] (x.f7 * x.f8) = some (List.replicate (x.f7 * x.f8).toNat v9)) := ⟨if_pos hm⟩
   have hw : As0 (wrap64 (i + 1) = i + 1 ∧ (i + 1).toNat = i.toNat + 1) := ⟨by have := HI.out; have := HX.out; unfold wrap64; omega, by omega⟩
   have hpl : As0 (((x.f9.take i.toNat).map fun v => List.replicate (x.f7 * x.f8).toNat v).length ≤ 1000) := ⟨by rw [List.length_map, List.length_take]; have := HX.out; omega⟩
   generalize ((x.f9.take i.toNat).map fun v => List.replicate (x.f7 * x.f8).toNat v) = pl at *
   clear hm
   replace h0 := eq_true h0
   replace h1 := eq_true h1
   go_wp2
   refine start_ (n := 14) (S := fun w' => w'.cell? ⟨g5, 3, none⟩ = some (.slice Au pl.length cu) ∧ w'.cell? ⟨g2, 7, none⟩ = some (.int .i64 x.f7) ∧ w'.cell? ⟨g2, 8, none⟩ = some (.int .i64 x.f8)) (ds := [13]) #[false, false, false, false, false, false, false, false, false, false, false, false, false, false] (by kernel_rfl) rfl rfl ⟨(bkc (bkd BKg5.out) 3).trans rfl, (bkc (bkd BKg2.out) 7).trans rfl, (bkc (bkd BKg2.out) 8).trans rfl⟩ (fun hHeld => ?_); refine with_tabW draw_walk.tab5 draw_walk.bits5 (fun HT_ HW_ => ?_)
   replace HS := As0.mk (Kd.S_drew HS.out)
   replace BKg2 := As0.mk (bkd BKg2.out)
   replace BKg4 := As0.mk (bkd BKg4.out)
   replace BKg5 := As0.mk (bkd BKg5.out)
   replace HB := As0.mk (bwd HB.out)
   generalize wr.drew = wd at *
   refine pure_ (i := 0) (N := some 22) (v := ?_) (a' := ?_) #[true, false, false, false, false, false, false, false, false, false, false, false, false, false] rfl rfl (any_of HT_.out (by kernel_rfl)) (fun _ _ _ h => h) (Or.inl ⟨by rfl, ?_⟩) ?_ ?_
   rotate_left
   ·intro w'
    go_simp
    with_reducible rfl
   rotate_left
   ·simp only [Act.put, List.setIfInBounds_toArray, List.set_cons_zero, List.set_cons_succ, i64_w, i32_w, hwm]
    rfl
   refine pure_ (i := 2) (N := some 24) (v := ?_) (a' := ?_) #[true, false, true, false, false, false, false, false, false, false, false, false, false, false] rfl rfl (any_of HT_.out (by kernel_rfl)) (fun _ _ _ h => h) (Or.inl ⟨by rfl, ?_⟩) ?_ ?_
   rotate_left
   ·intro w'
    go_simp
    with_reducible rfl
   rotate_left
   ·simp only [Act.put, List.setIfInBounds_toArray, List.set_cons_zero, List.set_cons_succ, i64_w, i32_w, hwm]
    rfl
   refine pure_ (i := 4) (N := some 26) (v := ?_) (a' := ?_) #[true, false, true, false, true, false, false, false, false, false, false, false, false, false] rfl rfl (any_of HT_.out (by kernel_rfl)) (fun _ _ _ h => h) (Or.inl ⟨by rfl, ?_⟩) ?_ ?_
   rotate_left
   ·intro w'
    go_simp
    with_reducible rfl
   rotate_left
   ·simp only [Act.put, List.setIfInBounds_toArray, List.set_cons_zero, List.set_cons_succ, i64_w, i32_w, hwm]
    rfl
   refine pure_ (i := 6) (N := some 28) (v := ?_) (a' := ?_) #[true, false, true, false, true, false, true, false, false, false, false, false, false, false] rfl rfl (any_of HT_.out (by kernel_rfl)) (fun _ _ _ h => h) (Or.inl ⟨by rfl, ?_⟩) ?_ ?_
   rotate_left
   ·intro w'
    go_simp
    with_reducible rfl
   rotate_left
   ·simp only [Act.put, List.setIfInBounds_toArray, List.set_cons_zero, List.set_cons_succ, i64_w, i32_w, hwm]
    rfl
   refine take_ (i := 1) (N := some 23) (v := ?_) (a' := ?_) #[true, true, true, false, true, false, true, false, false, false, false, false, false, false] rfl rfl (take_ofW HT_.out HW_.out (by kernel_rfl)) (fun _ _ _ h => h) (Or.inl ⟨by rfl, ?_⟩) hHeld ?_ ?_
   rotate_left
   ·rintro w' ⟨s0, s1, s2⟩
    go_simp
    with_reducible rfl
   rotate_left
   ·simp only [Act.put, List.setIfInBounds_toArray, List.set_cons_zero, List.set_cons_succ, i64_w, i32_w, hwm]
    rfl
   refine take_ (i := 5) (N := some 27) (v := ?_) (a' := ?_) #[true, true, true, false, true, true, true, false, false, false, false, false, false, false] rfl rfl (take_ofW HT_.out HW_.out (by kernel_rfl)) (fun _ _ _ h => h) (Or.inl ⟨by rfl, ?_⟩) hHeld ?_ ?_
   rotate_left
   ·rintro w' ⟨s0, s1, s2⟩
    go_simp
    with_reducible rfl
   rotate_left
   ·simp only [Act.put, List.setIfInBounds_toArray, List.set_cons_zero, List.set_cons_succ, i64_w, i32_w, hwm]
    rfl
   refine take_ (i := 7) (N := some 29) (v := ?_) (a' := ?_) #[true, true, true, false, true, true, true, true, false, false, false, false, false, false] rfl rfl (take_ofW HT_.out HW_.out (by kernel_rfl)) (fun _ _ _ h => h) (Or.inl ⟨by rfl, ?_⟩) hHeld ?_ ?_
   rotate_left
   ·rintro w' ⟨s0, s1, s2⟩
    go_simp
    with_reducible rfl
   rotate_left
   ·simp only [Act.put, List.setIfInBounds_toArray, List.set_cons_zero, List.set_cons_succ, i64_w, i32_w, hwm]
    rfl
   refine pure_ (i := 8) (N := some 30) (v := ?_) (a' := ?_) #[true, true, true, false, true, true, true, true, true, false, false, false, false, false] rfl rfl (any_of HT_.out (by kernel_rfl)) (fun _ _ _ h => h) (Or.inl ⟨by rfl, ?_⟩) ?_ ?_
   rotate_left
   ·intro w'
    go_simp
    with_reducible rfl
   rotate_left
   ·simp only [Act.put, List.setIfInBounds_toArray, List.set_cons_zero, List.set_cons_succ, i64_w, i32_w, hwm]
    rfl
   refine one_ (i := 3) (N := some 25) #[true, true, true, true, true, true, true, true, true, false, false, false, false, false] rfl rfl (one_of HT_.out (by kernel_rfl)) (by decide) (fun K hK => ?_)
   refine value_ (w1 := ?_) (v := ?_) (by rfl) rfl ?_ ?_
   rotate_left 2
   ·go_simp
    constructor
    ·rfl
    ·rfl
   refine hK.out _ _ ⟨(bkc (bka BKg5.out _) 3).trans rfl, (bkc (bka BKg2.out _) 7).trans rfl, (bkc (bka BKg2.out _) 8).trans rfl⟩ (fun hHeld => ?_)
   clear hK K
   refine norm_ (a' := ?_) ?_ ?_
   rotate_left
   ·show Act.put _ (some 25) _ = _
    simp only [Act.put, List.setIfInBounds_toArray, List.set_cons_zero, List.set_cons_succ, i64_w, i32_w]
    rfl
   refine one_ (i := 9) (N := some 31) #[true, true, true, true, true, true, true, true, true, true, false, false, false, false] rfl rfl (one_of HT_.out (by kernel_rfl)) (by decide) (fun K hK => ?_)
   refine goes_ Tryz.func260 (by kernel_rfl) rfl #[.slice (some ⟨wd.heap.size, 0, none⟩) 1 1, .int .i64 (x.f7 * x.f8)] (by rfl) rfl rfl (by (try simp only [List.map_toArray, List.map_cons, List.map_nil]); first | done | rfl) ?_
   refine (slices_Repeat_int_int.calls (some ⟨wd.heap.size, 0, none⟩) 1 [v9] (x.f7 * x.f8) _ _ ?s1 (Nat.le_refl _) HRP.out).mono ?_
   (case s1 => exact C_one wd v9)
   rintro e w9 ⟨vr, rfl, hr9, hb9⟩
   refine ⟨_, rfl, ?_⟩
   obtain ⟨Ar, cr, rfl⟩ := Kd.R_slice hr9
   rw [List.length_replicate] at hr9
   rw [List.length_replicate]
   have HR9 := As0.mk hr9
   have BKg2a := As0.mk (bkb (bka BKg2.out _) hb9)
   have BKg4a := As0.mk (bkb (bka BKg4.out _) hb9)
   have BKg5a := As0.mk (bkb (bka BKg5.out _) hb9)
   have HBa := As0.mk (pwt (bwa HB.out _) hb9)
   have HSa := As0.mk (Kd.S_below (Kd.S_alloc HS.out _) hb9)
   have HSb := As0.mk (Kd.S_old (Kd.S_alloc HS.out _) hb9)
   obtain ⟨NB, hNB⟩ : ∃ b, b = (wd.alloc (.cells #[.int .i64 v9] 3)).heap.size := ⟨_, rfl⟩
   have hNBw : w.heap.size ≤ NB := (by rw [hNB]; exact (bwa HB.out _).size)
   rw [← hNB] at HR9 HSb
   clear hr9 hb9
   refine hK.out _ _ ⟨(bkc BKg5a.out 3).trans rfl, (bkc BKg2a.out 7).trans rfl, (bkc BKg2a.out 8).trans rfl⟩ (fun hHeld => ?_)
   clear hK K
   refine norm_ (a' := ?_) ?_ ?_
   rotate_left
   ·show Act.put _ (some 31) _ = _
    simp only [Act.put, List.setIfInBounds_toArray, List.set_cons_zero, List.set_cons_succ, i64_w, i32_w]
    rfl
   refine one_ (i := 10) (N := some 32) #[true, true, true, true, true, true, true, true, true, true, true, false, false, false] rfl rfl (one_of HT_.out (by kernel_rfl)) (by decide) (fun K hK => ?_)
   refine value_ (w1 := ?_) (v := ?_) (by rfl) rfl ?_ ?_
   rotate_left 2
   ·go_simp
    constructor
    ·rfl
    ·rfl
   refine hK.out _ _ ⟨(bkc (bka BKg5a.out _) 3).trans rfl, (bkc (bka BKg2a.out _) 7).trans rfl, (bkc (bka BKg2a.out _) 8).trans rfl⟩ (fun hHeld => ?_)
   clear hK K
   refine norm_ (a' := ?_) ?_ ?_
   rotate_left
   ·show Act.put _ (some 32) _ = _
    simp only [Act.put, List.setIfInBounds_toArray, List.set_cons_zero, List.set_cons_succ, i64_w, i32_w]
    rfl
   refine one_ (i := 11) (N := some 33) #[true, true, true, true, true, true, true, true, true, true, true, true, false, false] rfl rfl (one_of HT_.out (by kernel_rfl)) (by decide) (fun K hK => ?_)
   refine Kd.S_append_step (Kd.slice 3 (Kd.int .i64)) (w0 := w) w.heap.size (by rfl) (.tmp 23) (.tmp 32) 22 39 (.slice none 0 0) 24 rfl Tryz.underlying22 info39 rfl (by decide) (by omega) (.slice Au pl.length cu) pl (List.replicate (x.f7 * x.f8).toNat v9) [.slice Ar (x.f7 * x.f8).toNat cr] (fun _ => True) (fun k => NB ≤ k) rfl rfl ?aP ?aK (fun _ _ => trivial) ?aO HBa.out HBa.out.size (by have := hpl.out; omega) ?_
   (case aP => exact ⟨_, rfl, Kd.R_lower (Kd.R_mono (Kd.R_bound HR9.out) (fun k hk => by have := hk.2.1; omega)) (by omega)⟩)
   (case aK => intro k hk; exact ⟨trivial, fun he => by have := Kd.S_lt (Kd.S_alloc HS.out (.cells #[.int .i64 v9] 3)) k he.symm; omega⟩)
   (case aO => exact Kd.S_mono HSb.out (fun k hk => ⟨trivial, by have := hk.2; omega⟩))
   intro v1 w1 hs1 hb1 hg1 _
   have HB1 := As0.mk hb1
   have BKg2b := As0.mk (blk_grown BKg2a.out hg1 (Kd.S_ne HSa.out BKg2a.out (by decide)))
   have BKg4b := As0.mk (blk_grown BKg4a.out hg1 (Kd.S_ne HSa.out BKg4a.out (by decide)))
   have BKg5b := As0.mk (blk_grown BKg5a.out hg1 (Kd.S_ne HSa.out BKg5a.out (by decide)))
   obtain ⟨A1_, c1_, rfl⟩ := Kd.S_slice hs1
   rw [List.length_append, List.length_singleton] at hs1
   have HS1 := As0.mk hs1
   rw [List.length_append, List.length_singleton]
   clear hs1 hb1 hg1
   refine hK.out _ _ ⟨(bkc BKg5b.out 3).trans rfl, (bkc BKg2b.out 7).trans rfl, (bkc BKg2b.out 8).trans rfl⟩ (fun hHeld => ?_)
   clear hK K
   refine norm_ (a' := ?_) ?_ ?_
   rotate_left
   ·show Act.put _ (some 33) _ = _
    simp only [Act.put, List.setIfInBounds_toArray, List.set_cons_zero, List.set_cons_succ, i64_w, i32_w]
    rfl
   refine pure_ (i := 12) (N := some 34) (v := ?_) (a' := ?_) #[true, true, true, true, true, true, true, true, true, true, true, true, true, false] rfl rfl (any_of HT_.out (by kernel_rfl)) (fun _ _ _ h => h) (Or.inl ⟨by rfl, ?_⟩) ?_ ?_
   rotate_left
   ·intro w'
    go_simp
    with_reducible rfl
   rotate_left
   ·simp only [Act.put, List.setIfInBounds_toArray, List.set_cons_zero, List.set_cons_succ, i64_w, i32_w, hwm]
    rfl
   refine last_ (i := 13) (N := none) #[true, true, true, true, true, true, true, true, true, true, true, true, true, true] rfl rfl (one_of HT_.out (by kernel_rfl)) (by decide) (fun K hK => ?_)
   have k9 : w1.cell? ⟨g5, 3, none⟩ = some (.slice Au pl.length cu) := (bkc BKg5b.out 3).trans rfl
   have f9 := bkz BKg5b.out 3
   refine skip_ (w1 := ?_) (by rfl) rfl ?_ ?_
   rotate_left
   ·go_simp
    rfl
   refine hK.out _ _ ?_
   clear hK K
   refine done_ (done_of HT_.out (by kernel_rfl)) ?_
   go_wp2
   go_roundg kq1
   case measure => omega
   case rel => exact ⟨i + 1, _, congrArg _ hw.out.1, ⟨by have := HI.out; omega, by have := HI.out; omega⟩, ⟨by rw [hw.out.2, HTK.out]; exact Kd.S_set HS1.out BKg5b.out (by decide) 3 _⟩, ⟨bkf BKg2b.out (ne_types BKg2b.out BKg5b.out (by decide)) _⟩, ⟨bkf BKg4b.out NE45.out _⟩, ⟨blk_put BKg5b.out 3 _ rfl⟩, ⟨bws HB1.out GE5.out⟩⟩
theorem enters_324 : ∀ (args : Array Value) (W : World), (callFunc 324 args).run Tryz.prog W = .ok (.enter 324 args) W := enters_of Tryz.func324 (by kernel_rfl) rfl
set_option maxHeartbeats 8000000 in
set_option maxRecDepth 100000 in
theorem pred_324 (a b n : Int) (gb : Nat) (w : World) (hb : w.heap[gb]? = some (.cells #[.int .i64 a, .int .i64 b, .int .i64 8, .int .i64 n] 104 (0, 0))) : PredIn Tryz.prog 324 #[.pointer (some ⟨gb, 0, none⟩)] (fun _ (x : Int) v => v = .int .i64 x) (fun id => decide (256 ≤ id)) w := ⟨enters_324, fun W x v hW he => by
 subst he
 have hu104 := Tryz.underlying104
 have k2 : W.cell? ⟨gb, 2, none⟩ = some (.int .i64 8) := (bkc ((hW.block gb (blk_lt hb)).trans hb) 2).trans rfl
 clear hb hW
 simp only [List.append_toArray, List.cons_append, List.nil_append]
 go_enter Tryz.func324, Tryz.ntmps324
 go_wp2
 go_ret
 exact ⟨rfl, Below.refl _ _⟩⟩
set_option maxHeartbeats 16000000 in
set_option maxRecDepth 100000 in
theorem shape_canvas (x : S68) (A2 : Option Addr) (c2 : Nat) (A3 : Option Addr) (c3 : Nat) (A4 : Option Addr) (c4 : Nat) (A9 : Option Addr) (c9 : Nat) (A1 : Option Addr) (c1 : Nat) (w : World) (hr9 : Kd.C (Kd.int .i64) w A9 x.f9.length x.f9) (hx : (x.f9.any fun v => decide (256 ≤ v)) = false) :
  Calls Tryz.prog 323 #[.agg #[.int .i64 x.f0, .int .i64 x.f1, .slice A2 x.f2.length c2, .slice A3 x.f3.length c3, .slice A4 x.f4.length c4, .int .i64 x.f5, .int .i64 x.f6, .int .i64 x.f7, .int .i64 x.f8, .slice A9 x.f9.length c9, .int .i64 x.f10, .bool x.f11], .slice A1 0 c1] w fun e w' => e = .returned (.tuple #[.agg #[.int .i64 x.f7, .int .i64 x.f8, .int .i64 8, .int .i64 (x.f9.length : Int)], .int .i64 0]) ∧ Below w.heap.size w w' := by
 have HX := As0.mk hx
 have HR := As0.mk hr9
 clear hx hr9
 have hu104 := Tryz.underlying104
 have hu157 := Tryz.underlying157
 have hmf := makeFunc_run
 go_enter Tryz.func323, Tryz.ntmps323
 go_wp2_with (first | ((with_reducible refine gdt (N := 2) rfl ?_); refine bxe ?hg (N := 2) ?hd (cs := #[.int .i64 x.f0, .int .i64 x.f1, .slice A2 x.f2.length c2, .slice A3 x.f3.length c3, .slice A4 x.f4.length c4, .int .i64 x.f5, .int .i64 x.f6, .int .i64 x.f7, .int .i64 x.f8, .slice A9 x.f9.length c9, .int .i64 x.f10, .bool x.f11]) (t := 157) ?hr ?_; (case hd => rfl); (case hg => rfl); (case hr => first | (go_simp; done) | (go_simp; rfl)); intro g2 hgg2 w2 hboxg2 hbg2; have BKg2 := As0.mk hboxg2; have HB2 := As0.mk hbg2; clear hboxg2 hbg2 hgg2) | ((with_reducible refine gdt (N := 4) rfl ?_); refine bxe ?hg (N := 4) ?hd (cs := #[.int .i64 0, .int .i64 0, .int .i64 0, .int .i64 0]) (t := 104) ?hr ?_; (case hd => rfl); (case hg => rfl); (case hr => first | (go_simp; done) | (go_simp; rfl)); intro g4 hgg4 w3 hboxg4 hbg4; have BKg4 := As0.mk hboxg4; have GE4 : As0 (w.heap.size ≤ g4) := ⟨by have := HB2.out.size; omega⟩; have HB3 := As0.mk (pwt HB2.out hbg4); replace BKg2 := As0.mk (bkb BKg2.out hbg4); have k7 : w3.cell? ⟨g2, 7, none⟩ = some (.int .i64 x.f7) := (bkc BKg2.out 7).trans rfl; have k8 : w3.cell? ⟨g2, 8, none⟩ = some (.int .i64 x.f8) := (bkc BKg2.out 8).trans rfl; have k9 : w3.cell? ⟨g2, 9, none⟩ = some (.slice A9 x.f9.length c9) := (bkc BKg2.out 9).trans rfl; clear hboxg4 hbg4 hgg4) | ((with_reducible refine gdt (N := 6) rfl ?_); refine bxe ?hg (N := 6) ?hd (cs := #[.int .i64 0, .int .i64 0, .int .i64 0, .int .i64 0]) (t := 104) ?hr ?_; (case hd => rfl); (case hg => rfl); (case hr => first | (go_simp; done) | (go_simp; rfl)); intro g6 hgg6 w4 hboxg6 hbg6; have BKg6 := As0.mk hboxg6; have GE6 : As0 (w.heap.size ≤ g6) := ⟨by have := HB3.out.size; omega⟩; have NE46 : As0 (g4 ≠ g6) := ⟨by have := blk_lt BKg4.out; omega⟩; have NE26 : As0 (g2 ≠ g6) := ⟨by have := blk_lt BKg2.out; omega⟩; replace BKg4 := As0.mk (bkb BKg4.out hbg6); replace BKg2 := As0.mk (bkb BKg2.out hbg6); have HB4 := As0.mk (pwt HB3.out hbg6); clear k7 k8 k9; have z0 : w4.cell? ⟨g6, 0, none⟩ = some (.int .i64 0) := (bkc BKg6.out 0).trans rfl; have z1 : w4.cell? ⟨g6, 1, none⟩ = some (.int .i64 0) := (bkc BKg6.out 1).trans rfl; have z2 : w4.cell? ⟨g6, 2, none⟩ = some (.int .i64 0) := (bkc BKg6.out 2).trans rfl; have z3 : w4.cell? ⟨g6, 3, none⟩ = some (.int .i64 0) := (bkc BKg6.out 3).trans rfl; have fz0 := bkz BKg6.out 0; have fz1 := bkz BKg6.out 1; have fz2 := bkz BKg6.out 2; have fz3 := bkz BKg6.out 3; clear hboxg6 hbg6 hgg6))
 clear z0 z1 z2 z3 fz0 fz1 fz2 fz3
 go_loopg [19] 0 (fun kq v19 w' => v19 = .int .i64 0 ∧ As0 (w'.heap[g2]? = some (.cells #[.int .i64 x.f0, .int .i64 x.f1, .slice A2 x.f2.length c2, .slice A3 x.f3.length c3, .slice A4 x.f4.length c4, .int .i64 x.f5, .int .i64 x.f6, .int .i64 x.f7, .int .i64 x.f8, .slice A9 x.f9.length c9, .int .i64 x.f10, .bool x.f11] 157 (0, 0))) ∧ As0 (w'.heap[g4]? = some (.cells #[.int .i64 0, .int .i64 0, .int .i64 0, .int .i64 0] 104 (0, 0))) ∧ As0 (w'.heap[g6]? = some (.cells #[.int .i64 x.f7, .int .i64 x.f8, .int .i64 8, .int .i64 (x.f9.length : Int)] 104 (0, 0))) ∧ As0 (Below w.heap.size w w'))
 case atStart => exact ⟨rfl, ⟨four_far BKg2.out NE26.out _ _ _ _⟩, ⟨four_far BKg4.out NE46.out _ _ _ _⟩, ⟨four_put BKg6.out _ _ _ _⟩, ⟨four_below HB4.out GE6.out _ _ _ _⟩⟩
 case round =>
  clear BKg2 BKg4 BKg6 HB4 HB3 HB2
  obtain ⟨rfl, BKg2, BKg4, BKg6, HB⟩ := hrel
  have k9 : wr.cell? ⟨g2, 9, none⟩ = some (.slice A9 x.f9.length c9) := (bkc BKg2.out 9).trans rfl
  go_wp2_with (go_at_call 56; (with_reducible refine (ContainsFunc_int.calls 324 #[.pointer (some ⟨g6, 0, none⟩)] (fun id => decide (256 ≤ id)) A9 c9 x.f9 _ (Kd.C_below HR.out HB.out) (pred_324 _ _ _ g6 _ BKg6.out)).mono ?_); rintro e w6 ⟨rfl, hb⟩; rw [HX.out]; have BKg4a := As0.mk (bkb BKg4.out hb); have BKg6a := As0.mk (bkb BKg6.out hb); have HB6 := As0.mk (pwt HB.out hb); clear hb; have k0 : w6.cell? ⟨g6, 0, none⟩ = some (.int .i64 x.f7) := (bkc BKg6a.out 0).trans rfl; have k1 : w6.cell? ⟨g6, 1, none⟩ = some (.int .i64 x.f8) := (bkc BKg6a.out 1).trans rfl; have k2 : w6.cell? ⟨g6, 2, none⟩ = some (.int .i64 8) := (bkc BKg6a.out 2).trans rfl; have k3 : w6.cell? ⟨g6, 3, none⟩ = some (.int .i64 (x.f9.length : Int)) := (bkc BKg6a.out 3).trans rfl; have z0 : w6.cell? ⟨g4, 0, none⟩ = some (.int .i64 0) := (bkc BKg4a.out 0).trans rfl; have z1 : w6.cell? ⟨g4, 1, none⟩ = some (.int .i64 0) := (bkc BKg4a.out 1).trans rfl; have z2 : w6.cell? ⟨g4, 2, none⟩ = some (.int .i64 0) := (bkc BKg4a.out 2).trans rfl; have z3 : w6.cell? ⟨g4, 3, none⟩ = some (.int .i64 0) := (bkc BKg4a.out 3).trans rfl; have fz0 := bkz BKg4a.out 0; have fz1 := bkz BKg4a.out 1; have fz2 := bkz BKg4a.out 2; have fz3 := bkz BKg4a.out 3)
  go_wp2
  refine bodyPost_ret (results_ct rfl _ _ g4 104 #[.int .i64 x.f7, .int .i64 x.f8, .int .i64 8, .int .i64 (x.f9.length : Int)] (0, 0) _ rfl (four_put BKg4a.out _ _ _ _) Tryz.underlying104 rfl (by kernel_rfl)) rfl ?_
  exact ⟨rfl, four_below HB6.out GE4.out _ _ _ _⟩
theorem info24' : (Tryz.prog.info? 24).map (fun i => (i.zero, i.size, i.bytes)) = some (some (.agg #[.int .i64 0, .int .i64 0, .int .i64 0, .slice none 0 0]), 4, 48) := by kernel_rfl
def Row4 (w : World) (g : Nat) (a b c d : Value) : Prop := ∃ cur : Array Value, w.heap[g]? = some (.cells cur 24 (0, 0)) ∧ cur[0]? = some a ∧ cur[1]? = some b ∧ cur[2]? = some c ∧ cur[3]? = some d
theorem Row4.of {w : World} {base : Nat} {v : Value} {a b c d : Value} (h : (Kd.raw 4).R 24 w base (fun _ => True) v (List.replicate (1 : Int).toNat [a, b, c, d])) : ∃ g cap, v = .slice (some ⟨g, 0, none⟩) 1 cap ∧ base ≤ g ∧ Row4 w g a b c d := by
 obtain ⟨_, inner, ho, hr⟩ := h
 have h0 := (hr.2 0 _ rfl).1
 rcases ho.2 with ⟨_, h1⟩ | ⟨g, cap, cur, hv, hb, hh, hn, hm, hs, ht⟩
 ·cases h1
 ·refine ⟨g, cap, hv, hb, cur, hh, ?_⟩
  have hsz : (List.replicate (1 : Int).toNat [a, b, c, d]).length * (Kd.raw 4).sz = 4 := rfl
  rw [hsz] at ht
  have hz : inner.take 4 = [a, b, c, d] := by simpa [Kd.raw] using h0
  rw [← ht, List.take_take] at hz
  simp only [Nat.min_self] at hz
  have k : ∀ j, j < 4 → cur[j]? = [a, b, c, d][j]? := fun j hj => by
   rw [← hz, List.getElem?_take, if_pos hj, Array.getElem?_toList]
  exact ⟨k 0 (by decide), k 1 (by decide), k 2 (by decide), k 3 (by decide)⟩
theorem Row4.below {w w1 : World} {g : Nat} {a b c d : Value} (h : Row4 w g a b c d) (hb : Below w.heap.size w w1) : Row4 w1 g a b c d := by
 obtain ⟨cur, h0, h1⟩ := h
 exact ⟨cur, bkb h0 hb, h1⟩
theorem Row4.cell {w : World} {g : Nat} {a b c d : Value} (h : Row4 w g a b c d) : w.cell? ⟨g, 0, none⟩ = some a ∧ w.cell? ⟨g, 1, none⟩ = some b ∧ w.cell? ⟨g, 2, none⟩ = some c ∧ w.cell? ⟨g, 3, none⟩ = some d ∧ w.frozen? ⟨g, 0, none⟩ = false ∧ w.frozen? ⟨g, 1, none⟩ = false ∧ w.frozen? ⟨g, 2, none⟩ = false ∧ w.frozen? ⟨g, 3, none⟩ = false := by
 obtain ⟨cur, h0, h1, h2, h3, h4⟩ := h
 exact ⟨(bkc h0 0).trans h1, (bkc h0 1).trans h2, (bkc h0 2).trans h3, (bkc h0 3).trans h4, bkz h0 0, bkz h0 1, bkz h0 2, bkz h0 3⟩
theorem Row4.put {w : World} {g : Nat} {a b c d : Value} (h : Row4 w g a b c d) (v0 v1 v2 v3 : Value) : Row4 ((((w.setCell ⟨g, 0, none⟩ v0).setCell ⟨g, 1, none⟩ v1).setCell ⟨g, 2, none⟩ v2).setCell ⟨g, 3, none⟩ v3) g v0 v1 v2 v3 := by
 obtain ⟨cur, h0, h1, h2, h3, h4⟩ := h
 have l0 := (Array.getElem?_eq_some_iff.1 h1).1
 have l1 := (Array.getElem?_eq_some_iff.1 h2).1
 have l2 := (Array.getElem?_eq_some_iff.1 h3).1
 have l3 := (Array.getElem?_eq_some_iff.1 h4).1
 refine ⟨_, blk_put (blk_put (blk_put (blk_put h0 0 v0 rfl) 1 v1 rfl) 2 v2 rfl) 3 v3 rfl, ?_, ?_, ?_, ?_⟩ <;> simp [Array.getElem?_setIfInBounds, l0, l1, l2, l3]
def canX : S68 := ⟨4, 2, [], [], [], 0, 0, 2, 1, [9], 0, false⟩
theorem Row4.S {α : Type} {d : Kd α} {e base : Nat} {w : World} {ok : Nat → Prop} {v : Value} {xs : List α} {g : Nat} {a b c dd : Value} (h : Kd.S d e w base ok v xs) (hb : Row4 w g a b c dd) (ht : ∀ q, q ∈ e :: d.E → q ≠ 24) (v0 v1 v2 v3 : Value) :
  Kd.S d e ((((w.setCell ⟨g, 0, none⟩ v0).setCell ⟨g, 1, none⟩ v1).setCell ⟨g, 2, none⟩ v2).setCell ⟨g, 3, none⟩ v3) base ok v xs := by
 obtain ⟨cur, h0, _⟩ := hb
 exact Kd.S_set (Kd.S_set (Kd.S_set (Kd.S_set h h0 ht 0 v0) (blk_put h0 0 v0 rfl) ht 1 v1) (blk_put (blk_put h0 0 v0 rfl) 1 v1 rfl) ht 2 v2) (blk_put (blk_put (blk_put h0 0 v0 rfl) 1 v1 rfl) 2 v2 rfl) ht 3 v3
theorem ta_over (x : Value) (w : World) : (Instr.typeAssert (.iface 157 x) 117 120 true).run Tryz.prog w = .ok (.tuple #[.agg #[.int .i64 0, .int .i64 0, .slice none 0 0, .slice none 0 0, .slice none 0 0, .int .i64 0, .int .i64 0, .int .i64 0, .int .i64 0, .slice none 0 0, .int .i64 0, .bool false], .bool false]) w := by kernel_rfl
theorem met_shape (x : Value) (w : World) : (method 455 157 x "diorama/item.shape").run Tryz.prog w = .ok (323, x) w := by kernel_rfl
theorem met_draw (x : Value) (w : World) : (method 455 157 x "diorama/item.draw").run Tryz.prog w = .ok (322, x) w := by kernel_rfl
theorem enters_323 : ∀ (args : Array Value) (W : World), (callFunc 323 args).run Tryz.prog W = .ok (.enter 323 args) W := enters_of Tryz.func323 (by kernel_rfl) rfl
theorem enters_322 : ∀ (args : Array Value) (W : World), (callFunc 322 args).run Tryz.prog W = .ok (.enter 322 args) W := enters_of Tryz.func322 (by kernel_rfl) rfl
theorem canReady : item_ready.f [canX] 4 = some (0, 0) := by decide +kernel
theorem canOrder : item_order.f [canX] 0 = some [0] := by decide +kernel
theorem canTurned : item_turned.f 2 1 8 [[9, 9]] 0 false = some (2, 1, 8, [[9, 9]]) := by decide +kernel
def render_walk.T26 : Bool × List (List Nat × List Nat) := (true, [([], []), ([], []), ([], []), ([], []), ([2, 3], [2, 3]), ([], []), ([5], [5]), ([], []), ([7], [7]), ([4, 6, 8, 4], [4, 6, 8]), ([0, 1, 0, 1, 2, 3, 4, 5, 6, 7, 8, 9], [0, 1]), ([10, 9, 9, 0, 1, 2, 3, 4, 5, 6, 7, 8, 9], [9, 10])])
def render_walk.B26 : List Nat := [0, 0, 0, 0, 12, 0, 32, 0, 128, 508, 1023, 2047]
theorem render_walk.tab26 : rtab .any (opsOf Tryz.f32 26) = render_walk.T26 := by kernel_rfl
theorem render_walk.bits26 : waitsOk render_walk.T26.2 render_walk.B26 = true := by kernel_rfl
set_option maxHeartbeats 16000000 in
set_option maxRecDepth 100000 in
theorem render_canvas (A0 : Option Addr) (c0 : Nat) (w : World) (hr0 : Kd.C k68 w A0 [canX].length [canX]) (hc0 : [canX].length ≤ c0) :
  Calls Tryz.prog 32 #[.slice A0 1 c0, .int .i64 4] w fun e w' => ∃ v3_ : Value, e = .returned (.tuple #[.agg #[.int .i64 2, .int .i64 1, .int .i64 8, v3_], .int .i64 0]) ∧ Kd.S (Kd.slice 3 (Kd.int .i64)) 39 w' w.heap.size (fun _ => True) v3_ [[9, 9]] ∧ Below w.heap.size w w' := by
 have HR := As0.mk hr0
 have HC := As0.mk hc0
 clear hr0 hc0
 have hu24 := Tryz.underlying24
 have hu68 := Tryz.underlying68
 have hu104 := Tryz.underlying104
 go_enter Tryz.func32, Tryz.ntmps32
 go_wp2_with (first | ((with_reducible refine gdt (N := 4) rfl ?_); refine bxe ?hg (N := 4) ?hd (cs := #[.int .i64 0, .int .i64 0, .int .i64 0, .slice none 0 0]) (t := 24) ?hr ?_; (case hd => rfl); (case hg => rfl); (case hr => first | (go_simp; done) | (go_simp; rfl)); intro g4 hgg4 w1 hboxg4 hbg4; have BKg4 := As0.mk hboxg4; have GE4 : As0 (w.heap.size ≤ g4) := ⟨by omega⟩; have HB1 := As0.mk hbg4; clear hboxg4 hbg4 hgg4) | (go_at_call 63; (refine (item_ready.calls A0 c0 [canX] 4 0 0 _ (Kd.C_below HR.out HB1.out) HC.out canReady).mono ?_); rintro e w2 ⟨rfl, hb⟩; have HB2 := As0.mk (pwt HB1.out hb); replace BKg4 := As0.mk (bkb BKg4.out hb); clear hb) | ((with_reducible refine gdt (N := 33) rfl ?_); refine Kd.R_make (Kd.raw 4) (w0 := w) w.heap.size 24 rfl (N := 33) rfl 49 _ _ rfl (1 : Int) rfl rfl Tryz.underlying49 (.agg #[.int .i64 0, .int .i64 0, .int .i64 0, .slice none 0 0]) 48 info24' rfl (by decide) (by decide) [.int .i64 0, .int .i64 0, .int .i64 0, .slice none 0 0] (ok := fun _ => True) (okp := fun _ => True) ⟨rfl, rfl, by decide⟩ (fun _ hk => hk) trivial (by decide) (by decide) HB2.out HB2.out.size ?_; intro v3 w3 hv3 hb3 hg3 hat; obtain ⟨gh, ch, rfl, hgh, hr4⟩ := Row4.of hv3; have NE4 : As0 (g4 ≠ gh) := ⟨by obtain ⟨b, hb1, hb2⟩ := hat; simp [Value.ownBlock] at hb1; have := blk_lt BKg4.out; omega⟩; have HRW := As0.mk hr4; have GEH : As0 (w.heap.size ≤ gh) := ⟨hgh⟩; have HB3 := As0.mk hb3; replace BKg4 := As0.mk (blk_grown BKg4.out hg3 (by simp)); clear hv3 hb3 hg3 hr4 hgh hat) | (go_at_call 64; (refine (item_order.calls A0 c0 [canX] 0 [0] _ (Kd.C_below HR.out HB3.out) HC.out canOrder).mono ?_); rintro e w5 ⟨vo, rfl, hvo, hb⟩; obtain ⟨Ao, co, rfl, _, hco⟩ := Kd.R_reads hvo; have HCO := As0.mk hco; have HB5 := As0.mk (pwt HB3.out hb); replace BKg4 := As0.mk (bkb BKg4.out hb); replace HRW := As0.mk (HRW.out.below hb); clear hvo hb hco))
 go_loopg [38] 1 (fun kq v38 w' => ∃ (i : Int), v38 = .int .i64 i ∧ As0 (0 ≤ i ∧ i + kq = 1) ∧ As0 (Below w.heap.size w w') ∧ As0 (Below w5.heap.size w5 w' ∨ True) ∧ As0 (w'.heap[g4]? = some (.cells #[.int .i64 0, .int .i64 0, .int .i64 0, .slice none 0 0] 24 (0, 0))) ∧ As0 (kq = 1 → w' = w5) ∧ As0 (kq = 0 → ∃ v3 : Value, Row4 w' gh (.int .i64 2) (.int .i64 1) (.int .i64 8) v3 ∧ Kd.S (Kd.slice 3 (Kd.int .i64)) 39 w' w.heap.size (fun _ => True) v3 [[9, 9]]))
 case atStart => exact ⟨0, rfl, ⟨by omega, by omega⟩, HB5, ⟨.inr trivial⟩, BKg4, ⟨fun _ => rfl⟩, ⟨fun h => by omega⟩⟩
 case round =>
  obtain ⟨i, rfl, HI, HB, _, BKg4, HS1, HS0⟩ := hrel
  cases gk with
  | zero =>
   have hge : decide (i < 1) = false := by have := HI.out; simp; omega
   obtain ⟨v3, hrw, hs⟩ := HS0.out rfl
   obtain ⟨A3_, c3_, rfl⟩ := Kd.S_slice hs
   obtain ⟨q0, q1, q2, q3, _⟩ := hrw.cell
   have HS := As0.mk hs
   clear hs hrw HS0 HS1
   have z0 : wr.cell? ⟨g4, 0, none⟩ = some (.int .i64 0) := (bkc BKg4.out 0).trans rfl; have z1 : wr.cell? ⟨g4, 1, none⟩ = some (.int .i64 0) := (bkc BKg4.out 1).trans rfl; have z2 : wr.cell? ⟨g4, 2, none⟩ = some (.int .i64 0) := (bkc BKg4.out 2).trans rfl; have z3 : wr.cell? ⟨g4, 3, none⟩ = some (.slice none 0 0) := (bkc BKg4.out 3).trans rfl
   have fz0 := bkz BKg4.out 0; have fz1 := bkz BKg4.out 1; have fz2 := bkz BKg4.out 2; have fz3 := bkz BKg4.out 3
   go_wp2
   refine bodyPost_ret (results_ct rfl _ _ g4 24 #[.int .i64 2, .int .i64 1, .int .i64 8, .slice A3_ [[9, 9]].length c3_] (0, 0) _ rfl (four_put BKg4.out _ _ _ _) Tryz.underlying24 rfl (by kernel_rfl)) rfl ?_
   exact ⟨_, rfl, four_S HS.out BKg4.out (by decide) _ _ _ _, four_below HB.out GE4.out _ _ _ _⟩
  | succ kq1 =>
   have hk1 : kq1 = 0 := by have := HI.out; omega
   subst hk1
   have hi : i = 0 := by have := HI.out; omega
   subst hi
   have hwr := HS1.out rfl
   subst hwr
   clear HS1 HS0 HI
   obtain ⟨ado, e1, hco⟩ := ReadsInt.at_ (Kd.reads_of_C (d := 0) HCO.out : ReadsInt _ .i64 Ao 1 [0]) 0 (by decide) (by decide)
   cases e1
   obtain ⟨ad, A2, c2, A3, c3, A4, c4, A9, c9, e0, hx0, hx1, hx2, hx3, hx4, hx5, hx6, hx7, hx8, hx9, hx10, hx11, g1, g2, g3, g4_, g5, g6, g7, g8⟩ := at_T68 (Kd.C_below HR.out HB.out) 0 (by decide) (by decide)
   cases e0
   have HX := As0.mk g8
   have e12 : ad.add ((0 : Int).toNat * 12) = ad := Addr.add_zero' ad
   rw [e12] at hx0 hx1 hx2 hx3 hx4 hx5 hx6 hx7 hx8 hx9 hx10 hx11
   have e13 : ado.add (Int.toNat 0) = ado := Addr.add_zero' ado
   rw [e13] at hco
   clear e12 e13
   change _ = some (Value.int .i64 0) at hco
   clear g1 g2 g3 g4_ g5 g6 g7 g8
   change _ = some (Value.int .i64 4) at hx0
   change _ = some (Value.int .i64 2) at hx1
   change _ = some (Value.slice A2 0 c2) at hx2
   change _ = some (Value.slice A3 0 c3) at hx3
   change _ = some (Value.slice A4 0 c4) at hx4
   change _ = some (Value.int .i64 0) at hx5
   change _ = some (Value.int .i64 0) at hx6
   change _ = some (Value.int .i64 2) at hx7
   change _ = some (Value.int .i64 1) at hx8
   change _ = some (Value.slice A9 1 c9) at hx9
   change _ = some (Value.int .i64 0) at hx10
   change _ = some (Value.bool false) at hx11
   obtain ⟨wz, hwz⟩ : ∃ z, z = wr := ⟨_, rfl⟩
   subst hwz
   go_wp2
   go_loopg [12, 13, 49] 0 (fun kq v12 v13 v49 w' => v12 = .slice none 0 0 ∧ v13 = .slice none 0 0 ∧ v49 = .int .i64 0 ∧ w' = wz.alloc (.cells #[.int .i64 4, .int .i64 2, .slice A2 0 c2, .slice A3 0 c3, .slice A4 0 c4, .int .i64 0, .int .i64 0, .int .i64 2, .int .i64 1, .slice A9 1 c9, .int .i64 0, .bool false] 68))
   case atStart => exact ⟨rfl, rfl, rfl, rfl⟩
   case round =>
    obtain ⟨rfl, rfl, rfl, hwr⟩ := hrel
    subst hwr
    have hin1 := met_shape
    have hin3 := enters_323
    have hta := ta_over
    have hin2 := met_draw
    have hin4 := enters_322
    go_wp2_with (first | (go_at_call 79; (refine (made_over canX rfl A2 c2 A3 c3 A4 c4 A9 c9 _).mono ?_); rintro e w6 ⟨rfl, hb⟩; have BK6 := As0.mk (bkb (heap_alloc_new wz (.cells #[.int .i64 4, .int .i64 2, .slice A2 0 c2, .slice A3 0 c3, .slice A4 0 c4, .int .i64 0, .int .i64 0, .int .i64 2, .int .i64 1, .slice A9 1 c9, .int .i64 0, .bool false] 68)) hb); have HB6 := As0.mk (pwt (bwa (Below.refl _ _) _) hb); clear hb) | (go_at_call 323; (refine (shape_canvas canX A2 c2 A3 c3 A4 c4 A9 c9 none 0 _ (Kd.C_below HX.out HB6.out) (by decide)).mono ?_); rintro e w7 ⟨rfl, hb⟩; have BK7 := As0.mk (bkb BK6.out hb); have HB7 := As0.mk (pwt HB6.out hb); clear hb))
    have BKx := As0.mk (bkd (bka BK7.out (.cells #[.int .i64 canX.f7, .int .i64 canX.f8, .int .i64 8, .int .i64 (canX.f9.length : Int)] 104)))
    have HWx := As0.mk (bwd (bwa HB7.out (.cells #[.int .i64 canX.f7, .int .i64 canX.f8, .int .i64 8, .int .i64 (canX.f9.length : Int)] 104)))
    have HBx := As0.mk (pwt HB.out HWx.out)
    have BKg4x := As0.mk (bkb BKg4.out HWx.out)
    have HRWx := As0.mk (HRW.out.below HWx.out)
    have HCx := As0.mk (Kd.C_below HX.out HWx.out)
    refine start_ (n := 12) (S := fun w' => w'.cell? ⟨wz.heap.size, 10, none⟩ = some (.int .i64 0) ∧ w'.cell? ⟨wz.heap.size, 11, none⟩ = some (.bool false)) (ds := [11]) #[false, false, false, false, false, false, false, false, false, false, false, false] (by kernel_rfl) rfl rfl ⟨(bkc BKx.out 10).trans rfl, (bkc BKx.out 11).trans rfl⟩ (fun hHeld => ?_); refine with_tabW render_walk.tab26 render_walk.bits26 (fun HT_ HW_ => ?_)
    generalize ((w7.alloc (.cells #[.int .i64 canX.f7, .int .i64 canX.f8, .int .i64 8, .int .i64 (canX.f9.length : Int)] 104)).drew) = wd at *
    refine pure_ (i := 0) (N := some 89) (v := ?_) (a' := ?_) #[true, false, false, false, false, false, false, false, false, false, false, false] rfl rfl (any_of HT_.out (by kernel_rfl)) (fun _ _ _ h => h) (Or.inl ⟨by rfl, ?_⟩) ?_ ?_
    rotate_left
    ·intro w'
     go_simp
     with_reducible rfl
    rotate_left
    ·simp only [Act.put, List.setIfInBounds_toArray, List.set_cons_zero, List.set_cons_succ, i64_w, i32_w]
     rfl
    refine pure_ (i := 1) (N := some 90) (v := ?_) (a' := ?_) #[true, true, false, false, false, false, false, false, false, false, false, false] rfl rfl (any_of HT_.out (by kernel_rfl)) (fun _ _ _ h => h) (Or.inl ⟨by rfl, ?_⟩) ?_ ?_
    rotate_left
    ·intro w'
     go_simp
     with_reducible rfl
    rotate_left
    ·simp only [Act.put, List.setIfInBounds_toArray, List.set_cons_zero, List.set_cons_succ, i64_w, i32_w]
     rfl
    refine pure_ (i := 2) (N := some 91) (v := ?_) (a' := ?_) #[true, true, true, false, false, false, false, false, false, false, false, false] rfl rfl (any_of HT_.out (by kernel_rfl)) (fun _ _ _ h => h) (Or.inl ⟨by rfl, ?_⟩) ?_ ?_
    rotate_left
    ·intro w'
     go_simp
     with_reducible rfl
    rotate_left
    ·simp only [Act.put, List.setIfInBounds_toArray, List.set_cons_zero, List.set_cons_succ, i64_w, i32_w]
     rfl
    refine pure_ (i := 3) (N := some 92) (v := ?_) (a' := ?_) #[true, true, true, true, false, false, false, false, false, false, false, false] rfl rfl (any_of HT_.out (by kernel_rfl)) (fun _ _ _ h => h) (Or.inl ⟨by rfl, ?_⟩) ?_ ?_
    rotate_left
    ·intro w'
     go_simp
     with_reducible rfl
    rotate_left
    ·simp only [Act.put, List.setIfInBounds_toArray, List.set_cons_zero, List.set_cons_succ, i64_w, i32_w]
     rfl
    refine pure_ (i := 5) (N := some 94) (v := ?_) (a' := ?_) #[true, true, true, true, false, true, false, false, false, false, false, false] rfl rfl (any_of HT_.out (by kernel_rfl)) (fun _ _ _ h => h) (Or.inl ⟨by rfl, ?_⟩) ?_ ?_
    rotate_left
    ·intro w'
     go_simp
     with_reducible rfl
    rotate_left
    ·simp only [Act.put, List.setIfInBounds_toArray, List.set_cons_zero, List.set_cons_succ, i64_w, i32_w]
     rfl
    refine pure_ (i := 7) (N := some 96) (v := ?_) (a' := ?_) #[true, true, true, true, false, true, false, true, false, false, false, false] rfl rfl (any_of HT_.out (by kernel_rfl)) (fun _ _ _ h => h) (Or.inl ⟨by rfl, ?_⟩) ?_ ?_
    rotate_left
    ·intro w'
     go_simp
     with_reducible rfl
    rotate_left
    ·simp only [Act.put, List.setIfInBounds_toArray, List.set_cons_zero, List.set_cons_succ, i64_w, i32_w]
     rfl
    refine take_ (i := 6) (N := some 95) (v := ?_) (a' := ?_) #[true, true, true, true, false, true, true, true, false, false, false, false] rfl rfl (take_ofW HT_.out HW_.out (by kernel_rfl)) (fun _ _ _ h => h) (Or.inl ⟨by rfl, ?_⟩) hHeld ?_ ?_
    rotate_left
    ·rintro w' ⟨s0, s1⟩
     go_simp
     with_reducible rfl
    rotate_left
    ·simp only [Act.put, List.setIfInBounds_toArray, List.set_cons_zero, List.set_cons_succ, i64_w, i32_w]
     rfl
    refine take_ (i := 8) (N := some 97) (v := ?_) (a' := ?_) #[true, true, true, true, false, true, true, true, true, false, false, false] rfl rfl (take_ofW HT_.out HW_.out (by kernel_rfl)) (fun _ _ _ h => h) (Or.inl ⟨by rfl, ?_⟩) hHeld ?_ ?_
    rotate_left
    ·rintro w' ⟨s0, s1⟩
     go_simp
     with_reducible rfl
    rotate_left
    ·simp only [Act.put, List.setIfInBounds_toArray, List.set_cons_zero, List.set_cons_succ, i64_w, i32_w]
     rfl
    refine one_ (i := 4) (N := some 93) #[true, true, true, true, true, true, true, true, true, false, false, false] rfl rfl (one_of HT_.out (by kernel_rfl)) (by decide) (fun K hK => ?_)
    refine call_ 322 #[.agg #[.int .i64 canX.f0, .int .i64 canX.f1, .slice A2 canX.f2.length c2, .slice A3 canX.f3.length c3, .slice A4 canX.f4.length c4, .int .i64 canX.f5, .int .i64 canX.f6, .int .i64 canX.f7, .int .i64 canX.f8, .slice A9 canX.f9.length c9, .int .i64 canX.f10, .bool canX.f11], .slice none 0 0] (by rfl) rfl (by go_simp) ?_
    refine (draw_canvas canX A2 c2 A3 c3 A4 c4 A9 c9 none 0 _ HCx.out (by decide)).mono ?_
    rintro e w8 ⟨v8, rfl, hs8, hb8⟩
    refine ⟨_, rfl, ?_⟩
    have hcp : canvasP canX = [[9, 9]] := by decide +kernel
    rw [hcp] at hs8
    obtain ⟨A8, c8, rfl, hl8, hc8⟩ := Kd.S_reads hs8
    have HC8 := As0.mk (And.intro hl8 hc8)
    have BK8 := As0.mk (bkb BKx.out hb8)
    have BKg48 := As0.mk (bkb BKg4x.out hb8)
    have HRW8 := As0.mk (HRWx.out.below hb8)
    have HB8 := As0.mk (pwt HBx.out hb8)
    clear hs8 hb8 hl8 hc8 hcp
    refine hK.out _ _ ⟨(bkc BK8.out 10).trans rfl, (bkc BK8.out 11).trans rfl⟩ (fun hHeld => ?_)
    clear hK K
    refine norm_ (a' := ?_) ?_ ?_
    rotate_left
    ·show Act.put _ (some 93) _ = _
     simp only [Act.put, List.setIfInBounds_toArray, List.set_cons_zero, List.set_cons_succ, i64_w, i32_w]
     rfl
    refine one_ (i := 9) (N := some 98) #[true, true, true, true, true, true, true, true, true, true, false, false] rfl rfl (one_of HT_.out (by kernel_rfl)) (by decide) (fun K hK => ?_)
    refine goes_ Tryz.func49 (by kernel_rfl) rfl #[.agg #[.int .i64 2, .int .i64 1, .int .i64 8, .slice A8 1 c8], .int .i64 0, .bool false] (by rfl) rfl rfl (by (try simp only [List.map_toArray, List.map_cons, List.map_nil]); first | done | rfl) ?_
    refine (item_turned.calls 2 1 8 A8 c8 [[9, 9]] 0 false 2 1 8 [[9, 9]] _ HC8.out.2 HC8.out.1 canTurned).mono ?_
    rintro e w9 ⟨v9, rfl, hs9, hb9⟩
    refine ⟨_, rfl, ?_⟩
    obtain ⟨A9_, c9_, rfl⟩ := Kd.S_slice hs9
    have HS9 := As0.mk (Kd.S_lower hs9 HB8.out.size)
    have BK9 := As0.mk (bkb BK8.out hb9)
    have BKg49 := As0.mk (bkb BKg48.out hb9)
    have HRW9 := As0.mk (HRW8.out.below hb9)
    have HB9 := As0.mk (pwt HB8.out hb9)
    clear hs9 hb9
    refine hK.out _ _ ⟨(bkc BK9.out 10).trans rfl, (bkc BK9.out 11).trans rfl⟩ (fun hHeld => ?_)
    clear hK K
    refine norm_ (a' := ?_) ?_ ?_
    rotate_left
    ·show Act.put _ (some 98) _ = _
     simp only [Act.put, List.setIfInBounds_toArray, List.set_cons_zero, List.set_cons_succ, i64_w, i32_w]
     rfl
    refine pure_ (i := 10) (N := some 99) (v := ?_) (a' := ?_) #[true, true, true, true, true, true, true, true, true, true, true, false] rfl rfl (any_of HT_.out (by kernel_rfl)) (fun _ _ _ h => h) (Or.inl ⟨by rfl, ?_⟩) ?_ ?_
    rotate_left
    ·intro w'
     go_simp
     with_reducible rfl
    rotate_left
    ·simp only [Act.put, List.setIfInBounds_toArray, List.set_cons_zero, List.set_cons_succ, i64_w, i32_w]
     rfl
    refine last_ (i := 11) (N := none) #[true, true, true, true, true, true, true, true, true, true, true, true] rfl rfl (one_of HT_.out (by kernel_rfl)) (by decide) (fun K hK => ?_)
    obtain ⟨p0, p1, p2, p3, f0, f1, f2, f3⟩ := HRW9.out.cell
    refine skip_ (w1 := ?_) (by rfl) rfl ?_ ?_
    rotate_left
    ·go_simp
     rfl
    refine hK.out _ _ ?_
    clear hK K
    refine done_ (done_of HT_.out (by kernel_rfl)) ?_
    go_wp2
    go_roundg 0
    case measure => omega
    case rel => exact ⟨1, rfl, ⟨by omega, by omega⟩, ⟨four_below HB9.out GEH.out _ _ _ _⟩, ⟨.inr trivial⟩, ⟨four_far BKg49.out NE4.out _ _ _ _⟩, ⟨fun h => by omega⟩, ⟨fun _ => ⟨_, HRW9.out.put _ _ _ _, Row4.S HS9.out HRW9.out (by decide) _ _ _ _⟩⟩⟩
theorem R_row2 {W : World} {h1 : Nat} {xs : List Int} (hb : W.heap[h1]? = some (.cells (xs.map (Value.int .i64)).toArray 3 (0, 0))) (hn : xs.length ≤ 1000) : Kd.C (Kd.int .i64) W (some ⟨h1, 0, none⟩) xs.length xs := by
 refine ⟨rfl, by omega, fun _ => ⟨_, rfl, fun j p hj => ⟨[.int .i64 p], rfl, rfl, fun i u hu => ?_⟩⟩⟩
 cases i with
 | succ i => simp at hu
 | zero =>
  have hu : u = .int .i64 p := by simpa using hu.symm
  subst hu
  rw [add_plain]
  refine (bkc hb _).trans ?_
  simp [Kd.int, Kd.scalar, hj]
theorem C_img {W : World} {h1 h2 : Nat} {xs : List Int} (hb1 : W.heap[h1]? = some (.cells (xs.map (Value.int .i64)).toArray 3 (0, 0))) (hn : xs.length ≤ 1000) (hb2 : W.heap[h2]? = some (.cells #[.slice (some ⟨h1, 0, none⟩) xs.length xs.length] 39 (0, 0))) :
  Kd.C (Kd.slice 3 (Kd.int .i64)) W (some ⟨h2, 0, none⟩) 1 [xs] := by
 refine ⟨rfl, by decide, fun _ => ⟨_, rfl, fun j p hj => ?_⟩⟩
 cases j with
 | succ j => simp at hj
 | zero =>
  have hj : p = xs := by simpa using hj.symm
  subst hj
  refine ⟨[.slice (some ⟨h1, 0, none⟩) p.length p.length], rfl, ⟨some ⟨h1, 0, none⟩, p.length, rfl, Nat.le_refl _, R_row2 hb1 hn⟩, fun i u hu => ?_⟩
  cases i with
  | succ i => simp at hu
  | zero =>
   have hu : u = .slice (some ⟨h1, 0, none⟩) p.length p.length := by simpa using hu.symm
   subst hu
   rw [add_plain]
   exact (bkc hb2 0).trans rfl
theorem C_can {W : World} {h0 h1 : Nat} (hb0 : W.heap[h0]? = some (.cells #[.int .i64 9] 3 (0, 0))) (hb1 : W.heap[h1]? = some (.cells #[.int .i64 4, .int .i64 2, .slice none 0 0, .slice none 0 0, .slice none 0 0, .int .i64 0, .int .i64 0, .int .i64 2, .int .i64 1, .slice (some ⟨h0, 0, none⟩) 1 1, .int .i64 0, .bool false] 68 (0, 0))) :
  Kd.C k68 W (some ⟨h1, 0, none⟩) [canX].length [canX] := by
 refine ⟨rfl, by decide, fun _ => ⟨_, rfl, fun j p hj => ?_⟩⟩
 cases j with
 | succ j => simp at hj
 | zero =>
  have hj : p = canX := by simpa using hj.symm
  subst hj
  have hnil : ∀ k : IntKind, (Kd.int k).C W none 0 [] := fun k => ⟨rfl, by decide, fun h => by omega⟩
  refine ⟨_, rfl, k68_mk W canX (A2 := none) (c2 := 0) (Nat.le_refl _) (hnil _) (A3 := none) (c3 := 0) (Nat.le_refl _) (hnil _) (A4 := none) (c4 := 0) (Nat.le_refl _) (hnil _) (A9 := some ⟨h0, 0, none⟩) (c9 := 1) (Nat.le_refl _) (R_row2 (xs := [9]) hb0 (by decide)), fun i u hu => ?_⟩
  rw [add_plain]
  refine (bkc hb1 _).trans ?_
  rw [show (0 * k68.sz + i) = i by omega]
  rw [← hu, ← List.getElem?_toArray]
  rfl
set_option maxHeartbeats 16000000 in
set_option maxRecDepth 100000 in
theorem awake_true (w : World) : Calls Tryz.prog 16 #[] w fun e w' => e = .returned (.bool true) ∧ Below w.heap.size w w' := by
 have hu24 := Tryz.underlying24
 go_enter Tryz.func16, Tryz.ntmps16
 go_upto_region 5 with (first | (go_at_call 32; ((refine (render_canvas (some ⟨w.heap.size + 1, 0, none⟩) 1 _ (C_can (h0 := w.heap.size) (h1 := w.heap.size + 1) (bka (heap_alloc_new w _) _) (by (have := heap_alloc_new (w.alloc (.cells #[.int .i64 9] 3)) (.cells #[.int .i64 4, .int .i64 2, .slice none 0 0, .slice none 0 0, .slice none 0 0, .int .i64 0, .int .i64 0, .int .i64 2, .int .i64 1, .slice (some ⟨w.heap.size, 0, none⟩) 1 1, .int .i64 0, .bool false] 68); simpa [World.size_alloc] using this))) (Nat.le_refl _)).mono ?_); rintro e w1 ⟨v1, rfl, hs, hb⟩; obtain ⟨A1, c1, rfl, hl, hcc⟩ := Kd.S_reads hs; have HC1 := As0.mk (And.intro hl hcc); have HB1 := As0.mk (pwt (bwa (bwa (Below.refl _ _) _) _) hb); clear hs hb hl hcc)) | (go_at_call 15; ((refine (r00_EqImage.calls 10 2 1 8 A1 c1 [[9, 9]] 2 1 8 (some ⟨w1.heap.size + 2, 0, none⟩) 1 [[9, 9]] true _ ?c1 HC1.out.1 ?c2 (Nat.le_refl _) (by decide +kernel)).mono ?_); (case c1 => exact Kd.C_alloc (Kd.C_alloc (Kd.C_alloc HC1.out.2 _) _) _); (case c2 => exact C_img (xs := [9, 9]) (h1 := w1.heap.size + 1) (h2 := w1.heap.size + 2) (by (have := bka (heap_alloc_new (w1.alloc (.cells #[.int .i64 2, .int .i64 1, .int .i64 8, .slice A1 [[9, 9]].length c1] 24)) (.cells #[.int .i64 9, .int .i64 9] 3)) (.cells #[.slice (some ⟨w1.heap.size + 1, 0, none⟩) 2 2] 39); simpa [World.size_alloc] using this)) (by decide) (by (have := heap_alloc_new ((w1.alloc (.cells #[.int .i64 2, .int .i64 1, .int .i64 8, .slice A1 [[9, 9]].length c1] 24)).alloc (.cells #[.int .i64 9, .int .i64 9] 3)) (.cells #[.slice (some ⟨w1.heap.size + 1, 0, none⟩) 2 2] 39); simpa [World.size_alloc] using this))); rintro e w2 ⟨rfl, hb⟩; have HB2 := As0.mk (pwt HB1.out (pwt (bwa (bwa (bwa (Below.refl _ _) _) _) _) hb)); clear hb)) | (go_at_call 13; ((refine (item_Turn.calls 2 1 8 (some ⟨w2.heap.size + 1, 0, none⟩) 1 [[1, 2]] 0 true 2 1 8 [[2, 1]] 0 _ ?d1 (Nat.le_refl _) (by decide +kernel)).mono ?_); (case d1 => exact C_img (xs := [1, 2]) (h1 := w2.heap.size) (h2 := w2.heap.size + 1) (by (have := bka (heap_alloc_new w2 (.cells #[.int .i64 1, .int .i64 2] 3)) (.cells #[.slice (some ⟨w2.heap.size, 0, none⟩) 2 2] 39); simpa [World.size_alloc] using this)) (by decide) (by (have := heap_alloc_new (w2.alloc (.cells #[.int .i64 1, .int .i64 2] 3)) (.cells #[.slice (some ⟨w2.heap.size, 0, none⟩) 2 2] 39); simpa [World.size_alloc] using this))); rintro e w3 ⟨v3, rfl, hs, hb⟩; obtain ⟨A3, c3, rfl, hl, hcc⟩ := Kd.S_reads hs; have HC3 := As0.mk (And.intro hl hcc); have HB3 := As0.mk (pwt HB2.out (pwt (bwa (bwa (Below.refl _ _) _) _) hb)); clear hs hb hl hcc)))
 go_wp2_with (first | (go_at_call 15; ((refine (r00_EqImage.calls 10 2 1 8 A3 c3 [[2, 1]] 2 1 8 (some ⟨w3.heap.size + 2, 0, none⟩) 1 [[2, 1]] true _ ?e1 HC3.out.1 ?e2 (Nat.le_refl _) (by decide +kernel)).mono ?_); (case e1 => exact Kd.C_alloc (Kd.C_alloc (Kd.C_alloc HC3.out.2 _) _) _); (case e2 => exact C_img (xs := [2, 1]) (h1 := w3.heap.size + 1) (h2 := w3.heap.size + 2) (by (have := bka (heap_alloc_new (w3.alloc (.cells #[.int .i64 2, .int .i64 1, .int .i64 8, .slice A3 [[2, 1]].length c3] 24)) (.cells #[.int .i64 2, .int .i64 1] 3)) (.cells #[.slice (some ⟨w3.heap.size + 1, 0, none⟩) 2 2] 39); simpa [World.size_alloc] using this)) (by decide) (by (have := heap_alloc_new ((w3.alloc (.cells #[.int .i64 2, .int .i64 1, .int .i64 8, .slice A3 [[2, 1]].length c3] 24)).alloc (.cells #[.int .i64 2, .int .i64 1] 3)) (.cells #[.slice (some ⟨w3.heap.size + 1, 0, none⟩) 2 2] 39); simpa [World.size_alloc] using this))); rintro e w4 ⟨rfl, hb⟩; have HB4 := As0.mk (pwt HB3.out (pwt (bwa (bwa (bwa (Below.refl _ _) _) _) _) hb)); clear hb)))
 go_ret
 exact ⟨rfl, HB4.out⟩
def l15_awake.f (_ : Nat) : Option Bool := some true
theorem l15_awake.calls (k : Nat) (r : Bool) (w : World) (h : l15_awake.f k = some r) : Calls Tryz.prog 16 #[] w fun e w' => e = .returned (.bool r) ∧ Below w.heap.size w w' := by
 injection h with h
 subst h
 exact awake_true w
theorem plain_l0 (a b c : Int) (l : List (List Int)) (hl : l.length ≤ 9223372036854775807) : ∀ (n j : Nat), j + n = l.length → ∃ r, (Ev fun k => l15_plain.l0 k j a b c l = some r) ∧ (r = true → l.length ≤ 8 ∧ ∀ x ∈ l.drop j, x.length ≤ 5000) := by
 intro n
 induction n with
 | zero =>
  intro j hj
  refine ⟨decide ((l.length : Int) ≤ 8), Ev.const (fun k => ?_), fun h => ⟨by have := of_decide_eq_true h; omega, ?_⟩⟩
  ·rw [l15_plain.l0, if_neg (by omega)]
  ·rw [List.drop_eq_nil_of_le (by omega)]
   intro x hx
   cases hx
 | succ n ih =>
  intro j hj
  have hjl : j < l.length := by omega
  have hx : l[j]? = some l[j] := List.getElem?_eq_getElem hjl
  have hw : wrap64 ((j : Int) + 1) = ((j + 1 : Nat) : Int) := by unfold wrap64; omega
  by_cases h5 : (l[j].length : Int) > 5000
  ·refine ⟨false, Ev.const (fun k => ?_), fun h => by cases h⟩
   rw [l15_plain.l0, if_pos (by omega), if_pos (by omega), rdL1_at l j _ hx, if_pos h5]
  ·obtain ⟨r, hr, hr2⟩ := ih (j + 1) (by omega)
   refine ⟨r, Ev.step (fun k => ?_) hr, fun h => ⟨(hr2 h).1, ?_⟩⟩
   ·rw [l15_plain.l0, if_pos (by omega), if_pos (by omega), rdL1_at l j _ hx, if_neg h5, hw]
   ·rw [drop_at l j _ hx]
    intro x hx
    rcases List.mem_cons.1 hx with rfl | hx
    ·omega
    ·exact (hr2 h).2 x hx
def pixOk (cw ch x y : Int) (mw t : Nat) : Bool := btw (x + ((t % mw : Nat) : Int)) 0 (cw - 1) && btw (y + ((t / mw : Nat) : Int)) 0 (ch - 1)
def pixAt (cw x y : Int) (mw t : Nat) : Nat := ((y + ((t / mw : Nat) : Int)) * cw + x + ((t % mw : Nat) : Int)).toNat
def pt (cw ch x y : Int) (mw : Nat) (row mrow : List Int) : Nat → List Int
 | 0 => row
 | t + 1 => if pixOk cw ch x y mw t = true then (pt cw ch x y mw row mrow t).set (pixAt cw x y mw t) (mrow.getD t 0) else pt cw ch x y mw row mrow t
theorem pt_length (cw ch x y : Int) (mw : Nat) (row mrow : List Int) (t : Nat) : (pt cw ch x y mw row mrow t).length = row.length := by
 induction t with
 | zero => rfl
 | succ t ih => unfold pt; split <;> simp [ih]
def pg (cw ch x y : Int) (mw N : Nat) (ps ms : List (List Int)) (p t : Nat) : List (List Int) :=
 (List.range ps.length).map fun j => if j < p then pt cw ch x y mw (ps.getD j []) (ms.getD j []) N else if j = p then pt cw ch x y mw (ps.getD j []) (ms.getD j []) t else ps.getD j []
section
variable (cw ch x y : Int) (mw N : Nat) (ps ms : List (List Int))
theorem pg_length (p t : Nat) : (pg cw ch x y mw N ps ms p t).length = ps.length := by simp [pg]
theorem pg_get (p t j : Nat) (h : j < ps.length) : (pg cw ch x y mw N ps ms p t)[j]? = some (if j < p then pt cw ch x y mw (ps.getD j []) (ms.getD j []) N else if j = p then pt cw ch x y mw (ps.getD j []) (ms.getD j []) t else ps.getD j []) := by
 simp [pg, h]
theorem pg_zero : pg cw ch x y mw N ps ms 0 0 = ps := by
 apply List.ext_getElem?
 intro j
 by_cases h : j < ps.length
 ·rw [pg_get _ _ _ _ _ _ _ _ _ _ _ h, if_neg (by omega)]
  by_cases hj : j = 0 <;> simp [hj, pt, List.getD_eq_getElem?_getD] <;> simp_all
 ·rw [List.getElem?_eq_none (by rw [pg_length]; omega), List.getElem?_eq_none (by omega)]
theorem pg_next (p : Nat) : pg cw ch x y mw N ps ms p N = pg cw ch x y mw N ps ms (p + 1) 0 := by
 apply List.ext_getElem?
 intro j
 by_cases h : j < ps.length
 ·rw [pg_get _ _ _ _ _ _ _ _ _ _ _ h, pg_get _ _ _ _ _ _ _ _ _ _ _ h]
  rcases Nat.lt_trichotomy j p with hj | hj | hj
  ·rw [if_pos hj, if_pos (by omega)]
  ·subst hj
   rw [if_neg (by omega), if_pos rfl, if_pos (by omega)]
  ·rw [if_neg (by omega), if_neg (by omega), if_neg (by omega)]
   by_cases hj' : j = p + 1 <;> simp [hj', pt]
 ·rw [List.getElem?_eq_none (by rw [pg_length]; omega), List.getElem?_eq_none (by rw [pg_length]; omega)]
def putP : List (List Int) := (List.range ps.length).map fun j => pt cw ch x y mw (ps.getD j []) (ms.getD j []) N
theorem pg_last (p : Nat) (h : p = ps.length) : pg cw ch x y mw N ps ms p 0 = putP cw ch x y mw N ps ms := by
 subst h
 unfold pg putP
 refine List.map_congr_left fun j hj => ?_
 rw [if_pos (List.mem_range.1 hj)]
theorem pg_row (p t : Nat) (l m : List Int) (h : ps[p]? = some l) (hm : ms[p]? = some m) : (pg cw ch x y mw N ps ms p t)[p]? = some (pt cw ch x y mw l m t) := by
 have hl := (List.getElem?_eq_some_iff.1 h).1
 rw [pg_get _ _ _ _ _ _ _ _ _ _ _ hl, if_neg (by omega), if_pos rfl]
 simp [List.getD_eq_getElem?_getD, h, hm]
theorem pg_set (p t : Nat) (l m : List Int) (h : ps[p]? = some l) (hm : ms[p]? = some m) (r : List Int) (hr : r = pt cw ch x y mw l m (t + 1)) :
  (pg cw ch x y mw N ps ms p t).set p r = pg cw ch x y mw N ps ms p (t + 1) := by
 have hl := (List.getElem?_eq_some_iff.1 h).1
 apply List.ext_getElem?
 intro j
 by_cases hj : p = j
 ·subst hj
  rw [List.getElem?_set_self (by rw [pg_length]; exact hl), pg_row _ _ _ _ _ _ _ _ p (t + 1) l m h hm, hr]
 ·rw [List.getElem?_set_ne hj]
  by_cases hjl : j < ps.length
  ·rw [pg_get _ _ _ _ _ _ _ _ _ _ _ hjl, pg_get _ _ _ _ _ _ _ _ _ _ _ hjl]
   by_cases h3 : j < p
   ·rw [if_pos h3, if_pos h3]
   ·rw [if_neg h3, if_neg h3, if_neg (by omega), if_neg (by omega)]
  ·rw [List.getElem?_eq_none (by rw [pg_length]; omega), List.getElem?_eq_none (by rw [pg_length]; omega)]
theorem pg_skip (p t : Nat) (h : pixOk cw ch x y mw t = false) : pg cw ch x y mw N ps ms p t = pg cw ch x y mw N ps ms p (t + 1) := by
 unfold pg
 refine List.map_congr_left fun j _ => ?_
 by_cases h1 : j < p
 ·rw [if_pos h1, if_pos h1]
 ·rw [if_neg h1, if_neg h1]
  by_cases h2 : j = p
  ·rw [if_pos h2, if_pos h2]
   conv => rhs; unfold pt
   rw [if_neg (by rw [h]; decide)]
  ·rw [if_neg h2, if_neg h2]
end
def KeepTy (w w' : World) : Prop := ∀ (k : Nat) (cells : Array Value) (t : TypeId), t ≠ 3 → w.heap[k]? = some (.cells cells t (0, 0)) → w'.heap[k]? = some (.cells cells t (0, 0))
theorem KeepTy.refl (w : World) : KeepTy w w := fun _ _ _ _ h => h
theorem KeepTy.below {w w1 w2 : World} (h : KeepTy w w1) (hb : Below w1.heap.size w1 w2) : KeepTy w w2 := fun k cells t ht hk => bkb (h k cells t ht hk) hb
theorem KeepTy.drewN {w w1 : World} (h : KeepTy w w1) (n : Nat) : KeepTy w (w1.drewN n) := fun k cells t ht hk => h k cells t ht hk
theorem KeepTy.drew {w w1 : World} (h : KeepTy w w1) : KeepTy w w1.drew := fun k cells t ht hk => h k cells t ht hk
theorem KeepTy.set {w w1 : World} (h : KeepTy w w1) {g : Nat} {c : Array Value} (hc : w1.heap[g]? = some (.cells c 3 (0, 0))) (j : Nat) (v : Value) : KeepTy w (w1.setCell ⟨g, j, none⟩ v) := fun k cells t ht hk =>
 bkf (h k cells t ht hk) (ne_types (h k cells t ht hk) hc ht) v
theorem Below.drewN_ {B : Nat} {w w' : World} (h : Below B w w') (n : Nat) : Below B w (w'.drewN n) := pwN h n
theorem Below.drew_ {B : Nat} {w w' : World} (h : Below B w w') : Below B w w'.drew := h.drew
theorem Below.mono_ {B : Nat} {w w' : World} (h : B ≤ w.heap.size) (hb : Below w.heap.size w w') : Below B w w' := hb.mono h
theorem below_then' {B : Nat} {w w1 w2 : World} (h : Below B w w1) (hb : Below w1.heap.size w1 w2) (hB : B ≤ w1.heap.size) : Below B w w2 := h.trans (hb.mono hB)
def item_put.T11 : Bool × List (List Nat × List Nat) := (true, [([], []), ([0], [0]), ([], []), ([1, 2], [1, 2]), ([3], [3]), ([], []), ([], []), ([5, 6], [5, 6]), ([], []), ([8], [8]), ([7, 9], [7, 9]), ([], []), ([10, 11], [10, 11]), ([], []), ([12, 13], [12, 13]), ([], []), ([15], [15]), ([], []), ([16, 17], [16, 17]), ([18], [18]), ([], []), ([], []), ([21], [21]), ([20, 22], [20, 22]), ([], []), ([23, 24], [23, 24]), ([19, 25], [19, 25]), ([26], [26]), ([4, 14, 0, 1, 2, 3, 4, 5, 6, 7, 8, 9, 10, 11, 12, 13, 14, 15, 16, 17, 18, 19, 20, 21, 22, 23, 24, 25, 26, 27], [4, 14]), ([28, 27, 0, 1, 2, 3, 4, 5, 6, 7, 8, 9, 10, 11, 12, 13, 14, 15, 16, 17, 18, 19, 20, 21, 22, 23, 24, 25, 26, 27], [27, 28])])
def item_put.B11 : List Nat := [0, 1, 0, 7, 15, 0, 0, 96, 0, 256, 992, 0, 4064, 0, 16352, 0, 32768, 0, 229376, 491520, 0, 0, 2097152, 7340032, 0, 32505856, 67076096, 134184960, 268435455, 536870911]
theorem item_put.tab11 : rtab .any (opsOf Tryz.f68 11) = item_put.T11 := by kernel_rfl
theorem item_put.bits11 : waitsOk item_put.T11.2 item_put.B11 = true := by kernel_rfl
set_option maxHeartbeats 32000000 in
set_option maxRecDepth 100000 in
theorem item_put.calls (cw ch cb : Int) (g n cc : Nat) (ps : List (List Int)) (mw mh mb : Int) (A : Option Addr) (cm : Nat) (ms : List (List Int)) (x y : Int) (w : World) (NB : Nat) (ok : Nat → Prop)
  (hS : Kd.S (Kd.slice 3 (Kd.int .i64)) 39 w NB ok (.slice (some ⟨g, 0, none⟩) n cc) ps) (hF : Kd.F (Kd.slice 3 (Kd.int .i64)) w (fun k => k < NB) A n ms) (hN : NB ≤ w.heap.size) (hn : 0 < n ∧ n ≤ 1000)
  (hb : 1 ≤ cw ∧ cw ≤ 1000 ∧ 1 ≤ ch ∧ ch ≤ 1000 ∧ 1 ≤ mw ∧ mw ≤ 1000 ∧ 1 ≤ mh ∧ mh ≤ 1000 ∧ -1000000 ≤ x ∧ x ≤ 1000000 ∧ -1000000 ≤ y ∧ y ≤ 1000000) (hps : ∀ r ∈ ps, r.length = cw.toNat * ch.toNat) (hms : ∀ r ∈ ms, r.length = mw.toNat * mh.toNat) :
  Calls Tryz.prog 68 #[.agg #[.int .i64 cw, .int .i64 ch, .int .i64 cb, .slice (some ⟨g, 0, none⟩) n cc], .agg #[.int .i64 mw, .int .i64 mh, .int .i64 mb, .slice A n cm], .int .i64 x, .int .i64 y] w fun e w' => e = .returned (.tuple #[]) ∧
   Kd.S (Kd.slice 3 (Kd.int .i64)) 39 w' NB ok (.slice (some ⟨g, 0, none⟩) n cc) (putP cw ch x y mw.toNat (mw.toNat * mh.toNat) ps ms) ∧ Below NB w w' ∧ KeepTy w w' := by
 have hpl : ps.length = n := (Kd.S_reads' hS).1.symm
 have hml : ms.length = n := Kd.F_len hF
 obtain ⟨am, rfl, _⟩ := (Kd.F_now hF).2.2 hn.1
 have HS := As0.mk hS
 have HF := As0.mk hF
 have HNB := As0.mk hN
 have HN := As0.mk hn
 have HBD := As0.mk hb
 have HPS := As0.mk (And.intro hpl hps)
 have HMS := As0.mk (And.intro hml hms)
 clear hS hF hN hn hb hps hms hpl hml
 have hu24 := Tryz.underlying24
 have hu39 := Tryz.underlying39
 have hu22 := Tryz.underlying22
 go_enter Tryz.func68, Tryz.ntmps68
 go_wp2_with (first | ((with_reducible refine gdt (N := 4) rfl ?_); refine bxe ?hg (N := 4) ?hd (cs := #[.int .i64 cw, .int .i64 ch, .int .i64 cb, .slice (some ⟨g, 0, none⟩) n cc]) (t := 24) ?hr ?_; (case hd => rfl); (case hg => rfl); (case hr => first | (go_simp; done) | (go_simp; rfl)); intro g4 hgg4 w4 hboxg4 hbg4; have BKg4 := As0.mk hboxg4; have HB4 := As0.mk (Below.mono_ HNB.out hbg4); have HS4 := As0.mk (Kd.S_below HS.out hbg4); have HF4 := As0.mk (Kd.F_below HF.out hbg4); have HK4 := As0.mk (KeepTy.below (KeepTy.refl w) hbg4); clear hboxg4 hbg4 hgg4) | ((with_reducible refine gdt (N := 5) rfl ?_); refine bxe ?hg (N := 5) ?hd (cs := #[.int .i64 mw, .int .i64 mh, .int .i64 mb, .slice (some am) n cm]) (t := 24) ?hr ?_; (case hd => rfl); (case hg => rfl); (case hr => first | (go_simp; done) | (go_simp; rfl)); intro g5 hgg5 w5 hboxg5 hbg5; have BKg5 := As0.mk hboxg5; have HB5 := As0.mk (below_then' HB4.out hbg5 (by have := HB4.out.size; have := HNB.out; omega)); have BKg4' := As0.mk (bkb BKg4.out hbg5); have HS5 := As0.mk (Kd.S_below HS4.out hbg5); have HF5 := As0.mk (Kd.F_below HF4.out hbg5); have HK5 := As0.mk (KeepTy.below HK4.out hbg5); have m3 : w5.cell? ⟨g5, 3, none⟩ = some (.slice (some am) n cm) := (bkc BKg5.out 3).trans rfl; clear hboxg5 hbg5 hgg5))
 clear m3
 go_loopg [14] n (fun kq v14 w' => ∃ (p : Int), v14 = .int .i64 p ∧ As0 (0 ≤ p ∧ p + kq = n) ∧ As0 (Kd.S (Kd.slice 3 (Kd.int .i64)) 39 w' NB ok (.slice (some ⟨g, 0, none⟩) n cc) (pg cw ch x y mw.toNat (mw.toNat * mh.toNat) ps ms p.toNat 0)) ∧ As0 (Kd.F (Kd.slice 3 (Kd.int .i64)) w' (fun k => k < NB) (some am) n ms) ∧ As0 (w'.heap[g4]? = some (.cells #[.int .i64 cw, .int .i64 ch, .int .i64 cb, .slice (some ⟨g, 0, none⟩) n cc] 24 (0, 0))) ∧ As0 (w'.heap[g5]? = some (.cells #[.int .i64 mw, .int .i64 mh, .int .i64 mb, .slice (some am) n cm] 24 (0, 0))) ∧ As0 (Below NB w w') ∧ As0 (KeepTy w w'))
 case atStart => exact ⟨0, rfl, ⟨by omega, by omega⟩, ⟨by simpa [pg_zero] using HS5.out⟩, HF5, BKg4', BKg5, HB5, HK5⟩
 case round =>
  clear BKg4 BKg4' BKg5 HS4 HS5 HF4 HF5 HB4 HB5 HS HF HK4 HK5
  obtain ⟨p, rfl, HP, HS, HF, BKg4, BKg5, HB, HK⟩ := hrel
  cases gk with
  | zero =>
   have hge : decide (p < (n : Int)) = false := by have := HP.out; simp; omega
   have hpn : p.toNat = ps.length := by have := HP.out; have := HPS.out.1; omega
   rw [pg_last _ _ _ _ _ _ _ _ _ hpn] at HS
   go_wp2
   first | go_end0 | ((try simp only [Exit.inBlock, Exit.then]); refine bodyPost_ret (results_none rfl _ _ _) rfl ?_)
   exact ⟨rfl, HS.out, HB.out, HK.out⟩
  | succ kq1 =>
   have pd : decide (p < (n : Int)) = true := decide_eq_true (by have := HP.out; omega)
   have k51 : wr.cell? ⟨g5, 1, none⟩ = some (.int .i64 mh) := (bkc BKg5.out 1).trans rfl
   go_wp2
   clear k51
   go_loopg [19] mh.toNat (fun kq v19 w' => ∃ (j : Int), v19 = .int .i64 j ∧ As0 (0 ≤ j ∧ j + kq = mh) ∧ As0 (Kd.S (Kd.slice 3 (Kd.int .i64)) 39 w' NB ok (.slice (some ⟨g, 0, none⟩) n cc) (pg cw ch x y mw.toNat (mw.toNat * mh.toNat) ps ms p.toNat (j.toNat * mw.toNat))) ∧ As0 (Kd.F (Kd.slice 3 (Kd.int .i64)) w' (fun k => k < NB) (some am) n ms) ∧ As0 (w'.heap[g4]? = some (.cells #[.int .i64 cw, .int .i64 ch, .int .i64 cb, .slice (some ⟨g, 0, none⟩) n cc] 24 (0, 0))) ∧ As0 (w'.heap[g5]? = some (.cells #[.int .i64 mw, .int .i64 mh, .int .i64 mb, .slice (some am) n cm] 24 (0, 0))) ∧ As0 (Below NB w w') ∧ As0 (KeepTy w w'))
   case atStart => exact ⟨0, rfl, ⟨by omega, by have := HBD.out; omega⟩, ⟨by simpa using HS.out⟩, HF, BKg4, BKg5, HB, HK⟩
   case round =>
    clear BKg4 BKg5 HS HF HB HK
    obtain ⟨j, rfl, HJ, HS, HF, BKg4, BKg5, HB, HK⟩ := hrel
    cases gk with
    | zero =>
     have hge : decide (j < mh) = false := by have := HJ.out; simp; omega
     have hj : j.toNat * mw.toNat = mw.toNat * mh.toNat := by rw [Nat.mul_comm]; congr 1; have := HJ.out; omega
     rw [hj, pg_next] at HS
     have hw : As0 (wrap64 (p + 1) = p + 1 ∧ (p + 1).toNat = p.toNat + 1) := ⟨by have := HP.out; have := HN.out; unfold wrap64; omega, by have := HP.out; omega⟩
     clear hj
     go_wp2
     go_roundg kq1
     case measure => omega
     case rel => exact ⟨p + 1, congrArg _ hw.out.1, ⟨by have := HP.out; omega, by have := HP.out; omega⟩, ⟨by rw [hw.out.2]; exact HS.out⟩, HF, BKg4, BKg5, HB, HK⟩
    | succ kq2 =>
     have jd : decide (j < mh) = true := decide_eq_true (by have := HJ.out; omega)
     have k50 : wr.cell? ⟨g5, 0, none⟩ = some (.int .i64 mw) := (bkc BKg5.out 0).trans rfl
     go_wp2
     clear k50
     go_loopg [24] mw.toNat (fun kq v24 w' => ∃ (i : Int), v24 = .int .i64 i ∧ As0 (0 ≤ i ∧ i + kq = mw) ∧ As0 (Kd.S (Kd.slice 3 (Kd.int .i64)) 39 w' NB ok (.slice (some ⟨g, 0, none⟩) n cc) (pg cw ch x y mw.toNat (mw.toNat * mh.toNat) ps ms p.toNat (j.toNat * mw.toNat + i.toNat))) ∧ As0 (Kd.F (Kd.slice 3 (Kd.int .i64)) w' (fun k => k < NB) (some am) n ms) ∧ As0 (w'.heap[g4]? = some (.cells #[.int .i64 cw, .int .i64 ch, .int .i64 cb, .slice (some ⟨g, 0, none⟩) n cc] 24 (0, 0))) ∧ As0 (w'.heap[g5]? = some (.cells #[.int .i64 mw, .int .i64 mh, .int .i64 mb, .slice (some am) n cm] 24 (0, 0))) ∧ As0 (Below NB w w') ∧ As0 (KeepTy w w'))
     case atStart => exact ⟨0, rfl, ⟨by omega, by have := HBD.out; omega⟩, ⟨by simpa using HS.out⟩, HF, BKg4, BKg5, HB, HK⟩
     case round =>
      clear BKg4 BKg5 HS HF HB HK
      obtain ⟨i, rfl, HI, HS, HF, BKg4, BKg5, HB, HK⟩ := hrel
      cases gk with
      | zero =>
       have hge : decide (i < mw) = false := by have := HI.out; simp; omega
       have hi : j.toNat * mw.toNat + i.toNat = (j.toNat + 1) * mw.toNat := by rw [Nat.add_mul, Nat.one_mul]; congr 1; have := HI.out; omega
       rw [hi] at HS
       have hw : As0 (wrap64 (j + 1) = j + 1 ∧ (j + 1).toNat = j.toNat + 1) := ⟨by have := HJ.out; have := HBD.out; unfold wrap64; omega, by have := HJ.out; omega⟩
       clear hi
       go_wp2
       go_roundg kq2
       case measure => omega
       case rel => exact ⟨j + 1, congrArg _ hw.out.1, ⟨by have := HJ.out; omega, by have := HJ.out; omega⟩, ⟨by rw [hw.out.2]; exact HS.out⟩, HF, BKg4, BKg5, HB, HK⟩
      | succ kq3 =>
       have id : decide (i < mw) = true := decide_eq_true (by have := HI.out; omega)
       have HT : As0 (j.toNat * mw.toNat + i.toNat < mw.toNat * mh.toNat ∧ (j.toNat * mw.toNat + i.toNat) % mw.toNat = i.toNat ∧ (j.toNat * mw.toNat + i.toNat) / mw.toNat = j.toNat) := ⟨by have := Nat.mul_le_mul_right mw.toNat (show j.toNat + 1 ≤ mh.toNat by have := HJ.out; omega); rw [Nat.mul_comm mw.toNat mh.toNat]; rw [Nat.add_mul, Nat.one_mul] at this; have := HI.out; omega, by rw [Nat.mul_comm, Nat.mul_add_mod, Nat.mod_eq_of_lt (by have := HI.out; omega)], by rw [Nat.mul_comm, Nat.mul_add_div (by have := HI.out; omega), Nat.div_eq_of_lt (by have := HI.out; omega), Nat.add_zero]⟩
       have HW : As0 (wrap64 (i + 1) = i + 1 ∧ (i + 1).toNat = i.toNat + 1) := ⟨by have := HI.out; have := HBD.out; unfold wrap64; omega, by have := HI.out; omega⟩
       have HPX : As0 (pixOk cw ch x y mw.toNat (j.toNat * mw.toNat + i.toNat) = (btw (x + i) 0 (cw - 1) && btw (y + j) 0 (ch - 1))) := ⟨by unfold pixOk; rw [HT.out.2.1, HT.out.2.2, Int.toNat_of_nonneg HI.out.1, Int.toNat_of_nonneg HJ.out.1]⟩
       obtain ⟨q1, hq1, v1⟩ : ∃ q, wrap64 (x + i) = q ∧ q = x + i := ⟨_, rfl, by have := HI.out; have := HBD.out; unfold wrap64; omega⟩
       obtain ⟨q2, hq2, v2⟩ : ∃ q, wrap64 (cw - 1) = q ∧ q = cw - 1 := ⟨_, rfl, by have := HBD.out; unfold wrap64; omega⟩
       obtain ⟨q3, hq3, v3⟩ : ∃ q, wrap64 (y + j) = q ∧ q = y + j := ⟨_, rfl, by have := HJ.out; have := HBD.out; unfold wrap64; omega⟩
       obtain ⟨q4, hq4, v4⟩ : ∃ q, wrap64 (ch - 1) = q ∧ q = ch - 1 := ⟨_, rfl, by have := HBD.out; unfold wrap64; omega⟩
       rw [← v1, ← v2, ← v3, ← v4] at HPX
       have HV := As0.mk (And.intro v1 (And.intro v2 (And.intro v3 v4)))
       clear v1 v2 v3 v4
       have k40 : wr.cell? ⟨g4, 0, none⟩ = some (.int .i64 cw) := (bkc BKg4.out 0).trans rfl
       have k41 : wr.cell? ⟨g4, 1, none⟩ = some (.int .i64 ch) := (bkc BKg4.out 1).trans rfl
       cases hb1 : btw q1 0 q2 with
       | false =>
        have HC1 := As0.mk (iwithin_is q1 0 q2 false hb1)
        rw [hb1, Bool.false_and] at HPX
        rw [pg_skip _ _ _ _ _ _ _ _ _ _ HPX.out] at HS
        clear hb1
        go_wp2_with (go_at_call 48; (with_reducible refine (HC1.out _).mono ?_); rintro e w' ⟨rfl, ⟨nd, rfl⟩⟩)
        go_roundg kq3
        case measure => omega
        case rel => exact ⟨i + 1, congrArg _ HW.out.1, ⟨by have := HI.out; omega, by have := HI.out; omega⟩, ⟨by rw [HW.out.2, ← Nat.add_assoc]; exact Kd.S_drewN HS.out _⟩, ⟨Kd.F_drewN HF.out _⟩, ⟨bkN BKg4.out _⟩, ⟨bkN BKg5.out _⟩, ⟨Below.drewN_ HB.out _⟩, ⟨KeepTy.drewN HK.out _⟩⟩
       | true =>
        have HC1 := As0.mk (iwithin_is q1 0 q2 true hb1)
        rw [hb1, Bool.true_and] at HPX
        have HI1 : As0 (0 ≤ q1 ∧ q1 ≤ q2) := ⟨by simpa [btw] using hb1⟩
        clear hb1
        cases hb2 : btw q3 0 q4 with
        | false =>
         have HC2 := As0.mk (iwithin_is q3 0 q4 false hb2)
         rw [hb2] at HPX
         rw [pg_skip _ _ _ _ _ _ _ _ _ _ HPX.out] at HS
         clear hb2
         go_wp2_with (first | (go_at_call 48; (with_reducible refine (HC1.out _).mono ?_); rintro e w' ⟨rfl, ⟨nd, rfl⟩⟩) | (go_at_call 48; (with_reducible refine (HC2.out _).mono ?_); rintro e w' ⟨rfl, ⟨nd2, rfl⟩⟩))
         go_roundg kq3
         case measure => omega
         case rel => exact ⟨i + 1, congrArg _ HW.out.1, ⟨by have := HI.out; omega, by have := HI.out; omega⟩, ⟨by rw [HW.out.2, ← Nat.add_assoc]; exact Kd.S_drewN HS.out _⟩, ⟨Kd.F_drewN HF.out _⟩, ⟨bkN BKg4.out _⟩, ⟨bkN BKg5.out _⟩, ⟨Below.drewN_ HB.out _⟩, ⟨KeepTy.drewN HK.out _⟩⟩
        | true =>
         have HC2 := As0.mk (iwithin_is q3 0 q4 true hb2)
         have HI2 : As0 (0 ≤ q3 ∧ q3 ≤ q4) := ⟨by simpa [btw] using hb2⟩
         rw [hb2] at HPX
         clear hb2
         go_wp2_with (first | (go_at_call 48; (with_reducible refine (HC1.out _).mono ?_); rintro e w' ⟨rfl, ⟨nd, rfl⟩⟩) | (go_at_call 48; (with_reducible refine (HC2.out _).mono ?_); rintro e w' ⟨rfl, ⟨nd2, rfl⟩⟩))
         clear k40 k41 HC1 HC2
         replace HS := As0.mk (Kd.S_drewN HS.out (nd + nd2))
         replace HF := As0.mk (Kd.F_drewN HF.out (nd + nd2))
         replace BKg4 := As0.mk (bkN BKg4.out (nd + nd2))
         replace BKg5 := As0.mk (bkN BKg5.out (nd + nd2))
         replace HB := As0.mk (Below.drewN_ HB.out (nd + nd2))
         replace HK := As0.mk (KeepTy.drewN HK.out (nd + nd2))
         generalize wr.drewN (nd + nd2) = wx at *
         have hpn : p.toNat < n := by have := HP.out; omega
         obtain ⟨lp, hlp⟩ : ∃ l, ps[p.toNat]? = some l := ⟨_, List.getElem?_eq_getElem (by have := HPS.out.1; omega)⟩
         obtain ⟨lm, hlm⟩ : ∃ l, ms[p.toNat]? = some l := ⟨_, List.getElem?_eq_getElem (by have := HMS.out.1; omega)⟩
         have hlpl := HPS.out.2 _ (List.mem_of_getElem? hlp)
         have hlml := HMS.out.2 _ (List.mem_of_getElem? hlm)
         have nrow := pg_row cw ch x y mw.toNat (mw.toNat * mh.toNat) ps ms p.toNat (j.toNat * mw.toNat + i.toNat) lp lm hlp hlm
         have nlen := pt_length cw ch x y mw.toNat lp lm (j.toNat * mw.toNat + i.toNat)
         have hT := HT.out
         have hcA : 0 < cw.toNat * ch.toNat := Nat.mul_pos (by have := HBD.out; omega) (by have := HBD.out; omega)
         have hMB : cw.toNat * ch.toNat ≤ 1000 * 1000 := Nat.mul_le_mul (by have := HBD.out; omega) (by have := HBD.out; omega)
         have hMM : mw.toNat * mh.toNat ≤ 1000 * 1000 := Nat.mul_le_mul (by have := HBD.out; omega) (by have := HBD.out; omega)
         have e1 : q3 * cw = ((q3.toNat * cw.toNat : Nat) : Int) := by rw [Int.natCast_mul]; congr 1 <;> (have := HBD.out; have := HI2.out; omega)
         have b1 : q3.toNat * cw.toNat + cw.toNat ≤ cw.toNat * ch.toNat := by rw [← Nat.succ_mul, Nat.mul_comm cw.toNat ch.toNat]; exact Nat.mul_le_mul_right _ (by have := HI2.out; have := HV.out; omega)
         have e2 : j * mw = ((j.toNat * mw.toNat : Nat) : Int) := by rw [Int.natCast_mul]; congr 1 <;> (have := HBD.out; have := HJ.out; omega)
         obtain ⟨q5, hq5, v5⟩ : ∃ q, wrap64 (q3 * cw) = q ∧ q = ((q3.toNat * cw.toNat : Nat) : Int) := ⟨_, rfl, by rw [e1]; unfold wrap64; omega⟩
         obtain ⟨q6, hq6, v6⟩ : ∃ q, wrap64 (q5 + x) = q ∧ q = q5 + x := ⟨_, rfl, by have := HBD.out; unfold wrap64; omega⟩
         obtain ⟨q7, hq7, v7⟩ : ∃ q, wrap64 (q6 + i) = q ∧ q = ((q3.toNat * cw.toNat + q1.toNat : Nat) : Int) := ⟨_, rfl, by rw [v6, v5]; have := HV.out; have := HI1.out; have := HBD.out; unfold wrap64; omega⟩
         obtain ⟨q8, hq8, v8⟩ : ∃ q, wrap64 (j * mw) = q ∧ q = ((j.toNat * mw.toNat : Nat) : Int) := ⟨_, rfl, by rw [e2]; unfold wrap64; omega⟩
         obtain ⟨q9, hq9, v9⟩ : ∃ q, wrap64 (q8 + i) = q ∧ q = ((j.toNat * mw.toNat + i.toNat : Nat) : Int) := ⟨_, rfl, by rw [v8]; have := HI.out; unfold wrap64; omega⟩
         have hpix : pixAt cw x y mw.toNat (j.toNat * mw.toNat + i.toNat) = q7.toNat := by
          unfold pixAt
          rw [hT.2.1, hT.2.2, Int.toNat_of_nonneg HI.out.1, Int.toNat_of_nonneg HJ.out.1, ← HV.out.2.2.1, Int.add_assoc, ← HV.out.1, e1, v7]
          have := HI1.out
          omega
         have p0 : 0 ≤ p := HP.out.1
         have p1 : p < (n : Int) := by omega
         obtain ⟨gq, cq, okq, kq, hokq, hqN, _, hbq, hlq, ⟨cellsq, hcq⟩, hRq, _, hback⟩ := S_row (Kd.S_drew HS.out) p p0 p1 _ nrow (by rw [nlen, hlpl]; exact hcA)
         have w0_ : 0 ≤ q7 := by omega
         have w1_ : q7 < ((pt cw ch x y mw.toNat lp lm (j.toNat * mw.toNat + i.toNat)).length : Int) := by rw [nlen, hlpl, v7]; have := HI1.out; have := HV.out; have := HBD.out; omega
         obtain ⟨cn, fn⟩ := Kd.R_celln 0 hRq q7 w0_ w1_
         obtain ⟨adm, Ar, cr, hadm, hrow, hcr, hCr⟩ := at_L1 (Kd.F_now (Kd.F_drew HF.out)) p p0 p1
         cases hadm
         have hrd : rd_L1 ms p = lm := by simp [rd_L1, List.getD_eq_getElem?_getD, hlm]
         rw [hrd] at hrow hCr
         have u0 : 0 ≤ q9 := by omega
         have u1 : q9 < (lm.length : Int) := by rw [hlml]; omega
         obtain ⟨adr, hadr, hpx⟩ := Kd.at_int hCr q9 u0 u1
         subst hadr
         have hp3 := Kd.R_putg hRq q7 (rd lm q9)
         have hS3 := hback _ _ hp3.2 hp3.1
         have hset := pg_set cw ch x y mw.toNat (mw.toNat * mh.toNat) ps ms p.toNat (j.toNat * mw.toNat + i.toNat) lp lm hlp hlm ((pt cw ch x y mw.toNat lp lm (j.toNat * mw.toNat + i.toNat)).set q7.toNat (rd lm q9)) (by
          conv => rhs; unfold pt
          rw [if_pos HPX.out, hpix]
          congr 1
          show lm.getD q9.toNat 0 = _
          rw [v9, Int.toNat_natCast])
         rw [hset] at hS3
         have HS3 := As0.mk hS3
         have HCQ := As0.mk hcq
         have HBQ := As0.mk hbq
         have u0d : decide (0 ≤ q9) = true := decide_eq_true u0
         have u1d : decide (q9 < (lm.length : Int)) = true := decide_eq_true u1
         have w0d : decide (0 ≤ q7) = true := decide_eq_true w0_
         have w1d : decide (q7 < ((pt cw ch x y mw.toNat lp lm (j.toNat * mw.toNat + i.toNat)).length : Int)) = true := decide_eq_true w1_
         have p0d : decide (0 ≤ p) = true := decide_eq_true p0
         clear hS3 hset hp3 hback hRq nrow nlen hokq hqN hbq hlq hcq v5 v6 v7 v8 v9 e1 e2 b1 hcA hMB hMM hpix hT hlpl hlml hrd hCr hpn hlp hlm hcr
         generalize rd lm q9 = vx at *
         generalize (pt cw ch x y mw.toNat lp lm (j.toNat * mw.toNat + i.toNat)).length = LN at *
         generalize lm.length = LM at *
         replace u0 := eq_true u0
         replace u1 := eq_true u1
         replace w0_ := eq_true w0_
         replace w1_ := eq_true w1_
         replace p0 := eq_true p0
         replace p1 := eq_true p1
         have k43 : wx.cell? ⟨g4, 3, none⟩ = some (.slice (some ⟨g, 0, none⟩) n cc) := (bkc BKg4.out 3).trans rfl
         have k40 : wx.cell? ⟨g4, 0, none⟩ = some (.int .i64 cw) := (bkc BKg4.out 0).trans rfl
         have k53 : wx.cell? ⟨g5, 3, none⟩ = some (.slice (some am) n cm) := (bkc BKg5.out 3).trans rfl
         have k50 : wx.cell? ⟨g5, 0, none⟩ = some (.int .i64 mw) := (bkc BKg5.out 0).trans rfl
         go_wp2
         refine start_ (n := 30) (S := fun w' => w'.cell? ⟨g4, 3, none⟩ = some (.slice (some ⟨g, 0, none⟩) n cc) ∧ w'.cell? ⟨g, p.toNat, none⟩ = some (.slice (some ⟨gq, 0, none⟩) LN cq) ∧ w'.cell? ⟨g4, 0, none⟩ = some (.int .i64 cw) ∧ w'.cell? ⟨g5, 3, none⟩ = some (.slice (some am) n cm) ∧ w'.cell? (am.add p.toNat) = some (.slice (some adr) LM cr) ∧ w'.cell? ⟨g5, 0, none⟩ = some (.int .i64 mw) ∧ w'.cell? (adr.add q9.toNat) = some (.int .i64 vx)) (ds := [29]) #[false, false, false, false, false, false, false, false, false, false, false, false, false, false, false, false, false, false, false, false, false, false, false, false, false, false, false, false, false, false] (by kernel_rfl) rfl rfl ⟨k43, kq, k40, k53, hrow, k50, hpx⟩ (fun hHeld => ?_); refine with_tabW item_put.tab11 item_put.bits11 (fun HT_ HW_ => ?_)
         replace HF := As0.mk (Kd.F_drew HF.out)
         replace BKg4 := As0.mk (bkd BKg4.out)
         replace BKg5 := As0.mk (bkd BKg5.out)
         replace HB := As0.mk (Below.drew_ HB.out)
         replace HK := As0.mk (KeepTy.drew HK.out)
         clear HS k43 k40 k53 k50 hrow hpx
         generalize wx.drew = wd at *
         refine pure_ (i := 0) (N := some 43) (v := ?_) (a' := ?_) #[true, false, false, false, false, false, false, false, false, false, false, false, false, false, false, false, false, false, false, false, false, false, false, false, false, false, false, false, false, false] rfl rfl (any_of HT_.out (by kernel_rfl)) (fun _ _ _ h => h) (Or.inl ⟨by rfl, ?_⟩) ?_ ?_
         rotate_left
         ·intro w'
          go_simp
          with_reducible rfl
         rotate_left
         ·simp only [Act.put, List.setIfInBounds_toArray, List.set_cons_zero, List.set_cons_succ, i64_w, i32_w, hq3, hq5, hq6, hq7, hq8, hq9]
          rfl
         refine pure_ (i := 2) (N := some 45) (v := ?_) (a' := ?_) #[true, false, true, false, false, false, false, false, false, false, false, false, false, false, false, false, false, false, false, false, false, false, false, false, false, false, false, false, false, false] rfl rfl (any_of HT_.out (by kernel_rfl)) (fun _ _ _ h => h) (Or.inl ⟨by rfl, ?_⟩) ?_ ?_
         rotate_left
         ·intro w'
          go_simp
          with_reducible rfl
         rotate_left
         ·simp only [Act.put, List.setIfInBounds_toArray, List.set_cons_zero, List.set_cons_succ, i64_w, i32_w, hq3, hq5, hq6, hq7, hq8, hq9]
          rfl
         refine pure_ (i := 5) (N := some 48) (v := ?_) (a' := ?_) #[true, false, true, false, false, true, false, false, false, false, false, false, false, false, false, false, false, false, false, false, false, false, false, false, false, false, false, false, false, false] rfl rfl (any_of HT_.out (by kernel_rfl)) (fun _ _ _ h => h) (Or.inl ⟨by rfl, ?_⟩) ?_ ?_
         rotate_left
         ·intro w'
          go_simp
          with_reducible rfl
         rotate_left
         ·simp only [Act.put, List.setIfInBounds_toArray, List.set_cons_zero, List.set_cons_succ, i64_w, i32_w, hq3, hq5, hq6, hq7, hq8, hq9]
          rfl
         refine pure_ (i := 6) (N := some 49) (v := ?_) (a' := ?_) #[true, false, true, false, false, true, true, false, false, false, false, false, false, false, false, false, false, false, false, false, false, false, false, false, false, false, false, false, false, false] rfl rfl (any_of HT_.out (by kernel_rfl)) (fun _ _ _ h => h) (Or.inl ⟨by rfl, ?_⟩) ?_ ?_
         rotate_left
         ·intro w'
          go_simp
          with_reducible rfl
         rotate_left
         ·simp only [Act.put, List.setIfInBounds_toArray, List.set_cons_zero, List.set_cons_succ, i64_w, i32_w, hq3, hq5, hq6, hq7, hq8, hq9]
          rfl
         refine pure_ (i := 7) (N := some 50) (v := ?_) (a' := ?_) #[true, false, true, false, false, true, true, true, false, false, false, false, false, false, false, false, false, false, false, false, false, false, false, false, false, false, false, false, false, false] rfl rfl (any_of HT_.out (by kernel_rfl)) (fun _ _ _ h => h) (Or.inl ⟨by rfl, ?_⟩) ?_ ?_
         rotate_left
         ·intro w'
          go_simp
          with_reducible rfl
         rotate_left
         ·simp only [Act.put, List.setIfInBounds_toArray, List.set_cons_zero, List.set_cons_succ, i64_w, i32_w, hq3, hq5, hq6, hq7, hq8, hq9]
          rfl
         refine pure_ (i := 8) (N := some 51) (v := ?_) (a' := ?_) #[true, false, true, false, false, true, true, true, true, false, false, false, false, false, false, false, false, false, false, false, false, false, false, false, false, false, false, false, false, false] rfl rfl (any_of HT_.out (by kernel_rfl)) (fun _ _ _ h => h) (Or.inl ⟨by rfl, ?_⟩) ?_ ?_
         rotate_left
         ·intro w'
          go_simp
          with_reducible rfl
         rotate_left
         ·simp only [Act.put, List.setIfInBounds_toArray, List.set_cons_zero, List.set_cons_succ, i64_w, i32_w, hq3, hq5, hq6, hq7, hq8, hq9]
          rfl
         refine pure_ (i := 11) (N := some 54) (v := ?_) (a' := ?_) #[true, false, true, false, false, true, true, true, true, false, false, true, false, false, false, false, false, false, false, false, false, false, false, false, false, false, false, false, false, false] rfl rfl (any_of HT_.out (by kernel_rfl)) (fun _ _ _ h => h) (Or.inl ⟨by rfl, ?_⟩) ?_ ?_
         rotate_left
         ·intro w'
          go_simp
          with_reducible rfl
         rotate_left
         ·simp only [Act.put, List.setIfInBounds_toArray, List.set_cons_zero, List.set_cons_succ, i64_w, i32_w, hq3, hq5, hq6, hq7, hq8, hq9]
          rfl
         refine pure_ (i := 13) (N := some 56) (v := ?_) (a' := ?_) #[true, false, true, false, false, true, true, true, true, false, false, true, false, true, false, false, false, false, false, false, false, false, false, false, false, false, false, false, false, false] rfl rfl (any_of HT_.out (by kernel_rfl)) (fun _ _ _ h => h) (Or.inl ⟨by rfl, ?_⟩) ?_ ?_
         rotate_left
         ·intro w'
          go_simp
          with_reducible rfl
         rotate_left
         ·simp only [Act.put, List.setIfInBounds_toArray, List.set_cons_zero, List.set_cons_succ, i64_w, i32_w, hq3, hq5, hq6, hq7, hq8, hq9]
          rfl
         refine pure_ (i := 15) (N := some 58) (v := ?_) (a' := ?_) #[true, false, true, false, false, true, true, true, true, false, false, true, false, true, false, true, false, false, false, false, false, false, false, false, false, false, false, false, false, false] rfl rfl (any_of HT_.out (by kernel_rfl)) (fun _ _ _ h => h) (Or.inl ⟨by rfl, ?_⟩) ?_ ?_
         rotate_left
         ·intro w'
          go_simp
          with_reducible rfl
         rotate_left
         ·simp only [Act.put, List.setIfInBounds_toArray, List.set_cons_zero, List.set_cons_succ, i64_w, i32_w, hq3, hq5, hq6, hq7, hq8, hq9]
          rfl
         refine pure_ (i := 17) (N := some 60) (v := ?_) (a' := ?_) #[true, false, true, false, false, true, true, true, true, false, false, true, false, true, false, true, false, true, false, false, false, false, false, false, false, false, false, false, false, false] rfl rfl (any_of HT_.out (by kernel_rfl)) (fun _ _ _ h => h) (Or.inl ⟨by rfl, ?_⟩) ?_ ?_
         rotate_left
         ·intro w'
          go_simp
          with_reducible rfl
         rotate_left
         ·simp only [Act.put, List.setIfInBounds_toArray, List.set_cons_zero, List.set_cons_succ, i64_w, i32_w, hq3, hq5, hq6, hq7, hq8, hq9]
          rfl
         refine pure_ (i := 20) (N := some 63) (v := ?_) (a' := ?_) #[true, false, true, false, false, true, true, true, true, false, false, true, false, true, false, true, false, true, false, false, true, false, false, false, false, false, false, false, false, false] rfl rfl (any_of HT_.out (by kernel_rfl)) (fun _ _ _ h => h) (Or.inl ⟨by rfl, ?_⟩) ?_ ?_
         rotate_left
         ·intro w'
          go_simp
          with_reducible rfl
         rotate_left
         ·simp only [Act.put, List.setIfInBounds_toArray, List.set_cons_zero, List.set_cons_succ, i64_w, i32_w, hq3, hq5, hq6, hq7, hq8, hq9]
          rfl
         refine pure_ (i := 21) (N := some 64) (v := ?_) (a' := ?_) #[true, false, true, false, false, true, true, true, true, false, false, true, false, true, false, true, false, true, false, false, true, true, false, false, false, false, false, false, false, false] rfl rfl (any_of HT_.out (by kernel_rfl)) (fun _ _ _ h => h) (Or.inl ⟨by rfl, ?_⟩) ?_ ?_
         rotate_left
         ·intro w'
          go_simp
          with_reducible rfl
         rotate_left
         ·simp only [Act.put, List.setIfInBounds_toArray, List.set_cons_zero, List.set_cons_succ, i64_w, i32_w, hq3, hq5, hq6, hq7, hq8, hq9]
          rfl
         refine pure_ (i := 24) (N := some 67) (v := ?_) (a' := ?_) #[true, false, true, false, false, true, true, true, true, false, false, true, false, true, false, true, false, true, false, false, true, true, false, false, true, false, false, false, false, false] rfl rfl (any_of HT_.out (by kernel_rfl)) (fun _ _ _ h => h) (Or.inl ⟨by rfl, ?_⟩) ?_ ?_
         rotate_left
         ·intro w'
          go_simp
          with_reducible rfl
         rotate_left
         ·simp only [Act.put, List.setIfInBounds_toArray, List.set_cons_zero, List.set_cons_succ, i64_w, i32_w, hq3, hq5, hq6, hq7, hq8, hq9]
          rfl
         refine take_ (i := 1) (N := some 44) (v := ?_) (a' := ?_) #[true, true, true, false, false, true, true, true, true, false, false, true, false, true, false, true, false, true, false, false, true, true, false, false, true, false, false, false, false, false] rfl rfl (take_ofW HT_.out HW_.out (by kernel_rfl)) (fun _ _ _ h => h) (Or.inl ⟨by rfl, ?_⟩) hHeld ?_ ?_
         rotate_left
         ·rintro w' ⟨s0, s1, s2, s3, s4, s5, s6⟩
          go_simp
          with_reducible rfl
         rotate_left
         ·simp only [Act.put, List.setIfInBounds_toArray, List.set_cons_zero, List.set_cons_succ, i64_w, i32_w, hq3, hq5, hq6, hq7, hq8, hq9]
          rfl
         refine pure_ (i := 3) (N := some 46) (v := ?_) (a' := ?_) #[true, true, true, true, false, true, true, true, true, false, false, true, false, true, false, true, false, true, false, false, true, true, false, false, true, false, false, false, false, false] rfl rfl (any_of HT_.out (by kernel_rfl)) (fun _ _ _ h => h) (Or.inl ⟨by rfl, ?_⟩) ?_ ?_
         rotate_left
         ·intro w'
          go_simp
          with_reducible rfl
         rotate_left
         ·simp only [Act.put, List.setIfInBounds_toArray, List.set_cons_zero, List.set_cons_succ, i64_w, i32_w, hq3, hq5, hq6, hq7, hq8, hq9]
          rfl
         refine take_ (i := 4) (N := some 47) (v := ?_) (a' := ?_) #[true, true, true, true, true, true, true, true, true, false, false, true, false, true, false, true, false, true, false, false, true, true, false, false, true, false, false, false, false, false] rfl rfl (take_ofW HT_.out HW_.out (by kernel_rfl)) (fun _ _ _ h => h) (Or.inl ⟨by rfl, ?_⟩) hHeld ?_ ?_
         rotate_left
         ·rintro w' ⟨s0, s1, s2, s3, s4, s5, s6⟩
          go_simp
          with_reducible rfl
         rotate_left
         ·simp only [Act.put, List.setIfInBounds_toArray, List.set_cons_zero, List.set_cons_succ, i64_w, i32_w, hq3, hq5, hq6, hq7, hq8, hq9]
          rfl
         refine take_ (i := 9) (N := some 52) (v := ?_) (a' := ?_) #[true, true, true, true, true, true, true, true, true, true, false, true, false, true, false, true, false, true, false, false, true, true, false, false, true, false, false, false, false, false] rfl rfl (take_ofW HT_.out HW_.out (by kernel_rfl)) (fun _ _ _ h => h) (Or.inl ⟨by rfl, ?_⟩) hHeld ?_ ?_
         rotate_left
         ·rintro w' ⟨s0, s1, s2, s3, s4, s5, s6⟩
          go_simp
          with_reducible rfl
         rotate_left
         ·simp only [Act.put, List.setIfInBounds_toArray, List.set_cons_zero, List.set_cons_succ, i64_w, i32_w, hq3, hq5, hq6, hq7, hq8, hq9]
          rfl
         refine pure_ (i := 10) (N := some 53) (v := ?_) (a' := ?_) #[true, true, true, true, true, true, true, true, true, true, true, true, false, true, false, true, false, true, false, false, true, true, false, false, true, false, false, false, false, false] rfl rfl (any_of HT_.out (by kernel_rfl)) (fun _ _ _ h => h) (Or.inl ⟨by rfl, ?_⟩) ?_ ?_
         rotate_left
         ·intro w'
          go_simp
          with_reducible rfl
         rotate_left
         ·simp only [Act.put, List.setIfInBounds_toArray, List.set_cons_zero, List.set_cons_succ, i64_w, i32_w, hq3, hq5, hq6, hq7, hq8, hq9]
          rfl
         refine pure_ (i := 12) (N := some 55) (v := ?_) (a' := ?_) #[true, true, true, true, true, true, true, true, true, true, true, true, true, true, false, true, false, true, false, false, true, true, false, false, true, false, false, false, false, false] rfl rfl (any_of HT_.out (by kernel_rfl)) (fun _ _ _ h => h) (Or.inl ⟨by rfl, ?_⟩) ?_ ?_
         rotate_left
         ·intro w'
          go_simp
          with_reducible rfl
         rotate_left
         ·simp only [Act.put, List.setIfInBounds_toArray, List.set_cons_zero, List.set_cons_succ, i64_w, i32_w, hq3, hq5, hq6, hq7, hq8, hq9]
          rfl
         refine pure_ (i := 14) (N := some 57) (v := ?_) (a' := ?_) #[true, true, true, true, true, true, true, true, true, true, true, true, true, true, true, true, false, true, false, false, true, true, false, false, true, false, false, false, false, false] rfl rfl (any_of HT_.out (by kernel_rfl)) (fun _ _ _ h => h) (Or.inl ⟨by rfl, ?_⟩) ?_ ?_
         rotate_left
         ·intro w'
          go_simp
          with_reducible rfl
         rotate_left
         ·simp only [Act.put, List.setIfInBounds_toArray, List.set_cons_zero, List.set_cons_succ, i64_w, i32_w, hq3, hq5, hq6, hq7, hq8, hq9]
          rfl
         refine take_ (i := 16) (N := some 59) (v := ?_) (a' := ?_) #[true, true, true, true, true, true, true, true, true, true, true, true, true, true, true, true, true, true, false, false, true, true, false, false, true, false, false, false, false, false] rfl rfl (take_ofW HT_.out HW_.out (by kernel_rfl)) (fun _ _ _ h => h) (Or.inl ⟨by rfl, ?_⟩) hHeld ?_ ?_
         rotate_left
         ·rintro w' ⟨s0, s1, s2, s3, s4, s5, s6⟩
          go_simp
          with_reducible rfl
         rotate_left
         ·simp only [Act.put, List.setIfInBounds_toArray, List.set_cons_zero, List.set_cons_succ, i64_w, i32_w, hq3, hq5, hq6, hq7, hq8, hq9]
          rfl
         refine pure_ (i := 18) (N := some 61) (v := ?_) (a' := ?_) #[true, true, true, true, true, true, true, true, true, true, true, true, true, true, true, true, true, true, true, false, true, true, false, false, true, false, false, false, false, false] rfl rfl (any_of HT_.out (by kernel_rfl)) (fun _ _ _ h => h) (Or.inl ⟨by rfl, ?_⟩) ?_ ?_
         rotate_left
         ·intro w'
          go_simp
          with_reducible rfl
         rotate_left
         ·simp only [Act.put, List.setIfInBounds_toArray, List.set_cons_zero, List.set_cons_succ, i64_w, i32_w, hq3, hq5, hq6, hq7, hq8, hq9]
          rfl
         refine take_ (i := 19) (N := some 62) (v := ?_) (a' := ?_) #[true, true, true, true, true, true, true, true, true, true, true, true, true, true, true, true, true, true, true, true, true, true, false, false, true, false, false, false, false, false] rfl rfl (take_ofW HT_.out HW_.out (by kernel_rfl)) (fun _ _ _ h => h) (Or.inl ⟨by rfl, ?_⟩) hHeld ?_ ?_
         rotate_left
         ·rintro w' ⟨s0, s1, s2, s3, s4, s5, s6⟩
          go_simp
          with_reducible rfl
         rotate_left
         ·simp only [Act.put, List.setIfInBounds_toArray, List.set_cons_zero, List.set_cons_succ, i64_w, i32_w, hq3, hq5, hq6, hq7, hq8, hq9]
          rfl
         refine take_ (i := 22) (N := some 65) (v := ?_) (a' := ?_) #[true, true, true, true, true, true, true, true, true, true, true, true, true, true, true, true, true, true, true, true, true, true, true, false, true, false, false, false, false, false] rfl rfl (take_ofW HT_.out HW_.out (by kernel_rfl)) (fun _ _ _ h => h) (Or.inl ⟨by rfl, ?_⟩) hHeld ?_ ?_
         rotate_left
         ·rintro w' ⟨s0, s1, s2, s3, s4, s5, s6⟩
          go_simp
          with_reducible rfl
         rotate_left
         ·simp only [Act.put, List.setIfInBounds_toArray, List.set_cons_zero, List.set_cons_succ, i64_w, i32_w, hq3, hq5, hq6, hq7, hq8, hq9]
          rfl
         refine pure_ (i := 23) (N := some 66) (v := ?_) (a' := ?_) #[true, true, true, true, true, true, true, true, true, true, true, true, true, true, true, true, true, true, true, true, true, true, true, true, true, false, false, false, false, false] rfl rfl (any_of HT_.out (by kernel_rfl)) (fun _ _ _ h => h) (Or.inl ⟨by rfl, ?_⟩) ?_ ?_
         rotate_left
         ·intro w'
          go_simp
          with_reducible rfl
         rotate_left
         ·simp only [Act.put, List.setIfInBounds_toArray, List.set_cons_zero, List.set_cons_succ, i64_w, i32_w, hq3, hq5, hq6, hq7, hq8, hq9]
          rfl
         refine pure_ (i := 25) (N := some 68) (v := ?_) (a' := ?_) #[true, true, true, true, true, true, true, true, true, true, true, true, true, true, true, true, true, true, true, true, true, true, true, true, true, true, false, false, false, false] rfl rfl (any_of HT_.out (by kernel_rfl)) (fun _ _ _ h => h) (Or.inl ⟨by rfl, ?_⟩) ?_ ?_
         rotate_left
         ·intro w'
          go_simp
          with_reducible rfl
         rotate_left
         ·simp only [Act.put, List.setIfInBounds_toArray, List.set_cons_zero, List.set_cons_succ, i64_w, i32_w, hq3, hq5, hq6, hq7, hq8, hq9]
          rfl
         refine pure_ (i := 26) (N := some 69) (v := ?_) (a' := ?_) #[true, true, true, true, true, true, true, true, true, true, true, true, true, true, true, true, true, true, true, true, true, true, true, true, true, true, true, false, false, false] rfl rfl (any_of HT_.out (by kernel_rfl)) (fun _ _ _ h => h) (Or.inl ⟨by rfl, ?_⟩) ?_ ?_
         rotate_left
         ·intro w'
          go_simp
          with_reducible rfl
         rotate_left
         ·simp only [Act.put, List.setIfInBounds_toArray, List.set_cons_zero, List.set_cons_succ, i64_w, i32_w, hq3, hq5, hq6, hq7, hq8, hq9]
          rfl
         refine take_ (i := 27) (N := some 70) (v := ?_) (a' := ?_) #[true, true, true, true, true, true, true, true, true, true, true, true, true, true, true, true, true, true, true, true, true, true, true, true, true, true, true, true, false, false] rfl rfl (take_ofW HT_.out HW_.out (by kernel_rfl)) (fun _ _ _ h => h) (Or.inl ⟨by rfl, ?_⟩) hHeld ?_ ?_
         rotate_left
         ·rintro w' ⟨s0, s1, s2, s3, s4, s5, s6⟩
          go_simp
          with_reducible rfl
         rotate_left
         ·simp only [Act.put, List.setIfInBounds_toArray, List.set_cons_zero, List.set_cons_succ, i64_w, i32_w, hq3, hq5, hq6, hq7, hq8, hq9]
          rfl
         refine pure_ (i := 28) (N := some 71) (v := ?_) (a' := ?_) #[true, true, true, true, true, true, true, true, true, true, true, true, true, true, true, true, true, true, true, true, true, true, true, true, true, true, true, true, true, false] rfl rfl (any_of HT_.out (by kernel_rfl)) (fun _ _ _ h => h) (Or.inl ⟨by rfl, ?_⟩) ?_ ?_
         rotate_left
         ·intro w'
          go_simp
          with_reducible rfl
         rotate_left
         ·simp only [Act.put, List.setIfInBounds_toArray, List.set_cons_zero, List.set_cons_succ, i64_w, i32_w, hq3, hq5, hq6, hq7, hq8, hq9]
          rfl
         refine last_ (i := 29) (N := none) #[true, true, true, true, true, true, true, true, true, true, true, true, true, true, true, true, true, true, true, true, true, true, true, true, true, true, true, true, true, true] rfl rfl (one_of HT_.out (by kernel_rfl)) (by decide) (fun K hK => ?_)
         refine skip_ (w1 := ?_) (by rfl) rfl ?_ ?_
         rotate_left
         ·go_simp
          rfl
         refine hK.out _ _ ?_
         clear hK K
         refine done_ (done_of HT_.out (by kernel_rfl)) ?_
         go_wp2
         go_roundg kq3
         case measure => omega
         case rel => exact ⟨i + 1, congrArg _ HW.out.1, ⟨by have := HI.out; omega, by have := HI.out; omega⟩, ⟨by rw [HW.out.2, ← Nat.add_assoc]; exact HS3.out⟩, ⟨Kd.F_far HF.out (fun k hk he => by have he : k = gq := he; have := HBQ.out; omega) _⟩, ⟨bkf BKg4.out (ne_types BKg4.out HCQ.out (by decide)) _⟩, ⟨bkf BKg5.out (ne_types BKg5.out HCQ.out (by decide)) _⟩, ⟨HB.out.setCell HBQ.out _⟩, ⟨KeepTy.set HK.out HCQ.out _ _⟩⟩
theorem item_put.calls' (cw ch cb : Int) (g n cc : Nat) (ps : List (List Int)) (mw mh mb : Int) (A : Option Addr) (nm cm : Nat) (ms : List (List Int)) (x y : Int) (w : World) (NB : Nat) (ok : Nat → Prop) (hnm : nm = n)
  (hS : Kd.S (Kd.slice 3 (Kd.int .i64)) 39 w NB ok (.slice (some ⟨g, 0, none⟩) n cc) ps) (hF : Kd.F (Kd.slice 3 (Kd.int .i64)) w (fun k => k < NB) A nm ms) (hN : NB ≤ w.heap.size) (hn : 0 < n ∧ n ≤ 1000)
  (hb : 1 ≤ cw ∧ cw ≤ 1000 ∧ 1 ≤ ch ∧ ch ≤ 1000 ∧ 1 ≤ mw ∧ mw ≤ 1000 ∧ 1 ≤ mh ∧ mh ≤ 1000 ∧ -1000000 ≤ x ∧ x ≤ 1000000 ∧ -1000000 ≤ y ∧ y ≤ 1000000) (hps : ∀ r ∈ ps, r.length = cw.toNat * ch.toNat) (hms : ∀ r ∈ ms, r.length = mw.toNat * mh.toNat) :
  Calls Tryz.prog 68 #[.agg #[.int .i64 cw, .int .i64 ch, .int .i64 cb, .slice (some ⟨g, 0, none⟩) n cc], .agg #[.int .i64 mw, .int .i64 mh, .int .i64 mb, .slice A nm cm], .int .i64 x, .int .i64 y] w fun e w' => e = .returned (.tuple #[]) ∧
   Kd.S (Kd.slice 3 (Kd.int .i64)) 39 w' NB ok (.slice (some ⟨g, 0, none⟩) n cc) (putP cw ch x y mw.toNat (mw.toNat * mh.toNat) ps ms) ∧ Below NB w w' ∧ KeepTy w w' := by
 subst hnm
 exact item_put.calls cw ch cb g nm cc ps mw mh mb A cm ms x y w NB ok hS hF hN hn hb hps hms
mutual
def r15_drawn.l0 : Nat → Int → Int → Int → Int → Int → Int → List (List Int) → Int → Int → Int → List (List Int) → Option (Int × Int × Int × (List (List Int)))
 | 0, _, _, _, _, _, _, _, _, _, _, _ => none
 | k + 1, x2, x3, x10, x430000, x430001, x430002, x430003, x438000, x438001, x438002, x438003 => if x10 < (x430003.length : Int) then (r15_drawn.l1 k x2 x3 x10 0 x430000 x430001 x430002 x430003 x438000 x438001 x438002 x438003) else (some (x438000, x438001, x438002, x438003))
def r15_drawn.l1 : Nat → Int → Int → Int → Int → Int → Int → Int → List (List Int) → Int → Int → Int → List (List Int) → Option (Int × Int × Int × (List (List Int)))
 | 0, _, _, _, _, _, _, _, _, _, _, _, _ => none
 | k + 1, x2, x3, x10, x11, x430000, x430001, x430002, x430003, x438000, x438001, x438002, x438003 => if x11 < (wrap64 (x430000 * x430001)) then (if x430000 = 0 then (none) else (if (wrap64 (x2 + (Int.tmod x11 x430000))) ≥ 0 then (if (wrap64 (x2 + (Int.tmod x11 x430000))) < x438000 then (if (wrap64 (x3 + (wrap64 (Int.tdiv x11 x430000)))) ≥ 0 then (if (wrap64 (x3 + (wrap64 (Int.tdiv x11 x430000)))) < x438001 then (if 0 ≤ x10 then (if x10 < (x438003.length : Int) then (if x10 < (x430003.length : Int) then (if 0 ≤ x11 then (if x11 < ((rd_L1 x430003 x10).length : Int) then (if 0 ≤ (wrap64 ((wrap64 ((wrap64 (x3 + (wrap64 (Int.tdiv x11 x430000)))) * x438000)) + (wrap64 (x2 + (Int.tmod x11 x430000))))) then (if (wrap64 ((wrap64 ((wrap64 (x3 + (wrap64 (Int.tdiv x11 x430000)))) * x438000)) + (wrap64 (x2 + (Int.tmod x11 x430000))))) < ((rd_L1 x438003 x10).length : Int) then (r15_drawn.l1 k x2 x3 x10 (wrap64 (x11 + 1)) x430000 x430001 x430002 x430003 x438000 x438001 x438002 (x438003.set (x10 : Int).toNat ((rd_L1 x438003 x10).set ((wrap64 ((wrap64 ((wrap64 (x3 + (wrap64 (Int.tdiv x11 x430000)))) * x438000)) + (wrap64 (x2 + (Int.tmod x11 x430000))))) : Int).toNat (rd (rd_L1 x430003 x10) x11)))) else (none)) else (none)) else (none)) else (none)) else (none)) else (none)) else (none)) else (r15_drawn.l1 k x2 x3 x10 (wrap64 (x11 + 1)) x430000 x430001 x430002 x430003 x438000 x438001 x438002 x438003)) else (r15_drawn.l1 k x2 x3 x10 (wrap64 (x11 + 1)) x430000 x430001 x430002 x430003 x438000 x438001 x438002 x438003)) else (r15_drawn.l1 k x2 x3 x10 (wrap64 (x11 + 1)) x430000 x430001 x430002 x430003 x438000 x438001 x438002 x438003)) else (r15_drawn.l1 k x2 x3 x10 (wrap64 (x11 + 1)) x430000 x430001 x430002 x430003 x438000 x438001 x438002 x438003))) else (r15_drawn.l0 k x2 x3 (wrap64 (x10 + 1)) x430000 x430001 x430002 x430003 x438000 x438001 x438002 x438003)
end
def r15_drawn.f (k : Nat) (a0_0 : Int) (a0_1 : Int) (a0_2 : Int) (l0_3 : List (List Int)) (a1_0 : Int) (a1_1 : Int) (a1_2 : Int) (l1_3 : List (List Int)) (a2 : Int) (a3 : Int) : Option (Int × Int × Int × (List (List Int))) := (r00_CopyImage.f k a0_0 a0_1 a0_2 l0_3).bind fun bt431 => (r15_drawn.l0 k a2 a3 0 a1_0 a1_1 a1_2 l1_3 bt431.1 bt431.2.1 bt431.2.2.1 bt431.2.2.2)
theorem w64_id (a : Int) (h1 : -9000000000000000000 ≤ a) (h2 : a ≤ 9000000000000000000) : wrap64 a = a := by unfold wrap64; omega
section
variable (cw ch cb x y mb : Int) (W H : Nat) (ps ms : List (List Int))
structure Draws : Prop where
 b : 1 ≤ cw ∧ cw ≤ 1000 ∧ 1 ≤ ch ∧ ch ≤ 1000 ∧ 1 ≤ W ∧ W ≤ 1000 ∧ 1 ≤ H ∧ H ≤ 1000 ∧ -1000000 ≤ x ∧ x ≤ 1000000 ∧ -1000000 ≤ y ∧ y ≤ 1000000
 len : ms.length = ps.length ∧ ps.length ≤ 1000
 rows : ∀ r ∈ ps, r.length = cw.toNat * ch.toNat
 rows2 : ∀ r ∈ ms, r.length = W * H
variable (h : Draws cw ch x y W H ps ms)
include h in
theorem drawn_step (p t : Nat) (hp : p < ps.length) (ht : t < W * H) (k : Nat) :
  r15_drawn.l1 (k + 1) x y p t (W : Int) (H : Int) mb ms cw ch cb (pg cw ch x y W (W * H) ps ms p t) = r15_drawn.l1 k x y p ((t + 1 : Nat) : Int) (W : Int) (H : Int) mb ms cw ch cb (pg cw ch x y W (W * H) ps ms p (t + 1)) := by
 have hb := h.b
 have hWH : W * H ≤ 1000 * 1000 := Nat.mul_le_mul (by omega) (by omega)
 have hCC : cw.toNat * ch.toNat ≤ 1000 * 1000 := Nat.mul_le_mul (by omega) (by omega)
 obtain ⟨ci, hci⟩ : ∃ i, i = t % W := ⟨_, rfl⟩
 obtain ⟨cj, hcj⟩ : ∃ j, j = t / W := ⟨_, rfl⟩
 have hi : ci < W := by rw [hci]; exact Nat.mod_lt _ (by omega)
 have hj : cj < H := by rw [hcj, Nat.div_lt_iff_lt_mul (by omega), Nat.mul_comm]; exact ht
 obtain ⟨lp, hlp⟩ : ∃ l, ps[p]? = some l := ⟨_, List.getElem?_eq_getElem hp⟩
 obtain ⟨lm, hlm⟩ : ∃ l, ms[p]? = some l := ⟨_, List.getElem?_eq_getElem (by have := h.len; omega)⟩
 have hlpl := h.rows _ (List.mem_of_getElem? hlp)
 have hlml := h.rows2 _ (List.mem_of_getElem? hlm)
 have hrow := pg_row cw ch x y W (W * H) ps ms p t lp lm hlp hlm
 have hrl := pt_length cw ch x y W lp lm t
 have em : As0 (Int.tmod (t : Int) (W : Int) = (ci : Int)) := ⟨by rw [Int.tmod_eq_emod_of_nonneg (Int.natCast_nonneg _), ← Int.natCast_emod, hci]⟩
 have ed : As0 (Int.tdiv (t : Int) (W : Int) = (cj : Int)) := ⟨by rw [Int.tdiv_eq_ediv_of_nonneg (Int.natCast_nonneg _), ← Int.natCast_ediv, hcj]⟩
 have hpx : As0 (pixOk cw ch x y W t = (btw (x + (ci : Int)) 0 (cw - 1) && btw (y + (cj : Int)) 0 (ch - 1))) := ⟨by rw [hci, hcj]; rfl⟩
 have hpa : As0 (pixAt cw x y W t = ((y + (cj : Int)) * cw + x + (ci : Int)).toNat) := ⟨by rw [hci, hcj]; rfl⟩
 clear hci hcj
 have w1 : As0 (wrap64 ((W : Int) * (H : Int)) = ((W * H : Nat) : Int)) := ⟨by rw [← Int.natCast_mul]; exact w64_id _ (by omega) (by omega)⟩
 have w2 : As0 (wrap64 (cj : Int) = (cj : Int)) := ⟨w64_id _ (by omega) (by omega)⟩
 have w3 : As0 (wrap64 (x + (ci : Int)) = x + (ci : Int)) := ⟨w64_id _ (by omega) (by omega)⟩
 have w4 : As0 (wrap64 (y + (cj : Int)) = y + (cj : Int)) := ⟨w64_id _ (by omega) (by omega)⟩
 have w5 : As0 (wrap64 ((t : Int) + 1) = ((t + 1 : Nat) : Int)) := ⟨by rw [w64_id _ (by omega) (by omega)]; rfl⟩
 rw [r15_drawn.l1, w1.out, if_pos (by omega), if_neg (by omega), em.out, ed.out, w2.out, w3.out, w4.out, w5.out]
 obtain ⟨u, hu⟩ : ∃ u, u = x + (ci : Int) := ⟨_, rfl⟩
 obtain ⟨v, hv⟩ : ∃ v, v = y + (cj : Int) := ⟨_, rfl⟩
 rw [← hu, ← hv] at hpx
 have hpb : As0 (pixAt cw x y W t = (v * cw + u).toNat) := ⟨by rw [hpa.out, ← hv, Int.add_assoc, ← hu]⟩
 rw [← hu, ← hv]
 by_cases hok : u ≥ 0 ∧ u < cw ∧ v ≥ 0 ∧ v < ch
 ·obtain ⟨c1, c2, c3, c4⟩ := hok
  have hyes : As0 (pixOk cw ch x y W t = true) := ⟨by
   rw [hpx.out]
   simp only [btw, Bool.and_eq_true, decide_eq_true_eq]
   omega⟩
  have b1 : v.toNat * cw.toNat + cw.toNat ≤ cw.toNat * ch.toNat := by rw [← Nat.succ_mul, Nat.mul_comm cw.toNat ch.toNat]; exact Nat.mul_le_mul_right _ (by omega)
  have e1 : As0 (v * cw = ((v.toNat * cw.toNat : Nat) : Int)) := ⟨by rw [Int.natCast_mul]; congr 1 <;> omega⟩
  have w6 : As0 (wrap64 (v * cw) = ((v.toNat * cw.toNat : Nat) : Int)) := ⟨by rw [e1.out]; exact w64_id _ (by omega) (by omega)⟩
  have w7 : As0 (wrap64 (((v.toNat * cw.toNat : Nat) : Int) + u) = ((v.toNat * cw.toNat + u.toNat : Nat) : Int)) := ⟨by rw [w64_id _ (by omega) (by omega)]; omega⟩
  have hat : As0 (pixAt cw x y W t = v.toNat * cw.toNat + u.toNat) := ⟨by rw [hpb.out, e1.out]; omega⟩
  rw [if_pos c1, if_pos c2, if_pos c3, if_pos c4, if_pos (by omega), if_pos (by rw [pg_length]; omega), if_pos (by have := h.len; omega), if_pos (by omega), rdL1_at ms p lm hlm, if_pos (by omega), w6.out, w7.out, if_pos (by omega), rdL1_at _ p _ hrow, if_pos (by omega)]
  rw [Int.toNat_natCast, Int.toNat_natCast]
  rw [pg_set cw ch x y W (W * H) ps ms p t lp lm hlp hlm]
  conv => rhs; unfold pt
  rw [if_pos hyes.out, hat.out]
  rfl
 ·have hno : pixOk cw ch x y W t = false := by
   rw [hpx.out]
   simp only [btw, Bool.and_eq_false_iff, decide_eq_false_iff_not]
   omega
  rw [← pg_skip _ _ _ _ _ _ _ _ _ _ hno]
  by_cases c1 : u ≥ 0
  ·rw [if_pos c1]
   by_cases c2 : u < cw
   ·rw [if_pos c2]
    by_cases c3 : v ≥ 0
    ·rw [if_pos c3, if_neg (fun c4 => hok ⟨c1, c2, c3, c4⟩)]
    ·rw [if_neg c3]
   ·rw [if_neg c2]
  ·rw [if_neg c1]
include h in
theorem drawn_l1 (p : Nat) (hp : p < ps.length) (R : Option (Int × Int × Int × List (List Int))) (hR : Ev fun k => r15_drawn.l0 k x y ((p + 1 : Nat) : Int) (W : Int) (H : Int) mb ms cw ch cb (pg cw ch x y W (W * H) ps ms (p + 1) 0) = R) :
  ∀ (n t : Nat), t + n = W * H → Ev fun k => r15_drawn.l1 k x y p t (W : Int) (H : Int) mb ms cw ch cb (pg cw ch x y W (W * H) ps ms p t) = R := by
 have hb := h.b
 have hWH : W * H ≤ 1000 * 1000 := Nat.mul_le_mul (by omega) (by omega)
 have w1 : wrap64 ((W : Int) * (H : Int)) = ((W * H : Nat) : Int) := by rw [← Int.natCast_mul]; unfold wrap64; omega
 intro n
 induction n with
 | zero =>
  intro t ht
  have ht : t = W * H := by omega
  subst ht
  refine Ev.step (fun k => ?_) hR
  rw [r15_drawn.l1, w1, if_neg (by omega), w64_succ p (by have := h.len; omega), pg_next]
 | succ n ih =>
  intro t ht
  exact Ev.step (fun k => drawn_step cw ch cb x y mb W H ps ms h p t hp (by omega) k) (ih (t + 1) (by omega))
include h in
theorem drawn_l0 : ∀ (n p : Nat), p + n = ps.length → Ev fun k => r15_drawn.l0 k x y p (W : Int) (H : Int) mb ms cw ch cb (pg cw ch x y W (W * H) ps ms p 0) = some (cw, ch, cb, putP cw ch x y W (W * H) ps ms) := by
 intro n
 induction n with
 | zero =>
  intro p hp
  refine Ev.const fun k => ?_
  rw [r15_drawn.l0, if_neg (by have := h.len; omega), pg_last _ _ _ _ _ _ _ _ _ (by omega)]
 | succ n ih =>
  intro p hp
  have := drawn_l1 cw ch cb x y mb W H ps ms h p (by omega) _ (ih (p + 1) (by omega)) (W * H) 0 (by omega)
  refine Ev.step (fun k => ?_) this
  rw [r15_drawn.l0, if_pos (by have := h.len; omega)]
  rfl
include h in
theorem drawn_is : Ev fun k => r15_drawn.f k cw ch cb ps (W : Int) (H : Int) mb ms x y = some (cw, ch, cb, putP cw ch x y W (W * H) ps ms) := by
 have hb := h.b
 have hCC : cw.toNat * ch.toNat ≤ 1000 * 1000 := Nat.mul_le_mul (by omega) (by omega)
 have h1 := copy_image cw ch cb ps h.len.2 (fun r hr => by have := h.rows r hr; omega)
 have h2 := drawn_l0 cw ch cb x y mb W H ps ms h ps.length 0 (by omega)
 rw [pg_zero] at h2
 refine Ev.bind h1 ?_
 exact h2
end
def tlN (W H c np : Nat) (l : List S24) : Nat → List (List Int)
 | 0 => List.replicate np (List.replicate (W * H) 0)
 | i + 1 => putP (W : Int) (H : Int) (((i % c) * (rd_T24 l i).f0.toNat : Nat) : Int) (((i / c) * (rd_T24 l i).f1.toNat : Nat) : Int) (rd_T24 l i).f0.toNat ((rd_T24 l i).f0.toNat * (rd_T24 l i).f1.toNat) (tlN W H c np l i) (rd_T24 l i).f3
theorem putP_length (cw ch x y : Int) (mw N : Nat) (ps ms : List (List Int)) : (putP cw ch x y mw N ps ms).length = ps.length := by simp [putP]
theorem putP_rows (cw ch x y : Int) (mw N : Nat) (ps ms : List (List Int)) (n : Nat) (h : ∀ r ∈ ps, r.length = n) : ∀ r ∈ putP cw ch x y mw N ps ms, r.length = n := by
 intro r hr
 unfold putP at hr
 obtain ⟨j, hj, rfl⟩ := List.mem_map.1 hr
 rw [pt_length]
 have hjl := List.mem_range.1 hj
 rw [List.getD_eq_getElem?_getD, List.getElem?_eq_getElem hjl]
 exact h _ (List.getElem_mem hjl)
theorem tlN_ok (W H c np : Nat) (l : List S24) : ∀ i, (tlN W H c np l i).length = np ∧ ∀ r ∈ tlN W H c np l i, r.length = W * H := by
 intro i
 induction i with
 | zero => exact ⟨by simp [tlN], fun r hr => by rw [(List.mem_replicate.1 hr).2, List.length_replicate]⟩
 | succ i ih => exact ⟨by unfold tlN; rw [putP_length]; exact ih.1, by unfold tlN; exact putP_rows _ _ _ _ _ _ _ _ _ ih.2⟩
def tileOk (l : List S24) (cols wide high : Int) : Bool := decide (0 < l.length ∧ l.length ≤ 1000 ∧ 1 ≤ cols ∧ cols ≤ 1000 ∧ 1 ≤ wide ∧ wide ≤ 1000 ∧ 1 ≤ high ∧ high ≤ 1000 ∧ 0 < (rd_T24 l 0).f3.length ∧ (rd_T24 l 0).f3.length ≤ 1000) &&
 l.all fun x => decide (1 ≤ x.f0 ∧ x.f0 ≤ 1000 ∧ 1 ≤ x.f1 ∧ x.f1 ≤ 1000 ∧ x.f3.length = (rd_T24 l 0).f3.length) && x.f3.all fun r => decide (r.length = x.f0.toNat * x.f1.toNat)
theorem tileOk_each {l : List S24} {cols wide high : Int} (h : tileOk l cols wide high = true) : (0 < l.length ∧ l.length ≤ 1000 ∧ 1 ≤ cols ∧ cols ≤ 1000 ∧ 1 ≤ wide ∧ wide ≤ 1000 ∧ 1 ≤ high ∧ high ≤ 1000 ∧ 0 < (rd_T24 l 0).f3.length ∧ (rd_T24 l 0).f3.length ≤ 1000) ∧
  ∀ x ∈ l, (1 ≤ x.f0 ∧ x.f0 ≤ 1000 ∧ 1 ≤ x.f1 ∧ x.f1 ≤ 1000 ∧ x.f3.length = (rd_T24 l 0).f3.length) ∧ ∀ r ∈ x.f3, r.length = x.f0.toNat * x.f1.toNat := by
 simp only [tileOk, Bool.and_eq_true, decide_eq_true_eq, List.all_eq_true] at h
 exact ⟨h.1, fun x hx => ⟨(h.2 x hx).1, (h.2 x hx).2⟩⟩
def item_tiled.f (l0 : List S24) (a1 a2 a3 : Int) : Option (Int × Int × Int × List (List Int)) :=
 if tileOk l0 a1 a2 a3 = true then some (a2, a3, (rd_T24 l0 0).f2, tlN a2.toNat a3.toNat a1.toNat (rd_T24 l0 0).f3.length l0 l0.length) else none
def item_tiled.T1 : Bool × List (List Nat × List Nat) := (true, [([], []), ([], []), ([], []), ([2], [2]), ([3], [3]), ([4], [4]), ([], []), ([6], [6]), ([7], [7]), ([8], [8]), ([9], [9]), ([0, 1, 5, 10], [0, 1, 5, 10]), ([], []), ([12, 11, 11, 0, 1, 2, 3, 4, 5, 6, 7, 8, 9, 10, 11, 12], [11, 12])])
def item_tiled.B1 : List Nat := [0, 0, 0, 4, 12, 28, 0, 64, 192, 448, 960, 2047, 0, 8191]
theorem item_tiled.tab1 : rtab .any (opsOf Tryz.f73 1) = item_tiled.T1 := by kernel_rfl
theorem item_tiled.bits1 : waitsOk item_tiled.T1.2 item_tiled.B1 = true := by kernel_rfl
def item_tiled.T5 : Bool × List (List Nat × List Nat) := (true, [([], []), ([], []), ([], []), ([], []), ([2, 3], [2, 3]), ([], []), ([5], [5]), ([4, 6], [4, 6]), ([], []), ([], []), ([8, 9], [8, 9]), ([], []), ([11], [11]), ([10, 12], [10, 12]), ([0, 1, 7, 13], [0, 1, 7, 13])])
def item_tiled.B5 : List Nat := [0, 0, 0, 0, 12, 0, 32, 124, 0, 0, 768, 0, 2048, 7936, 16383]
theorem item_tiled.tab5 : rtab .any (opsOf Tryz.f73 5) = item_tiled.T5 := by kernel_rfl
theorem item_tiled.bits5 : waitsOk item_tiled.T5.2 item_tiled.B5 = true := by kernel_rfl
theorem tl0_ (W H c np : Nat) (l : List S24) : tlN W H c np l 0 = List.replicate np (List.replicate (W * H) 0) := rfl
theorem w64_idn (a : Nat) (h : a ≤ 9000000000000000000) : wrap64 (a : Int) = (a : Int) := by unfold wrap64; omega
set_option maxHeartbeats 32000000 in
set_option maxRecDepth 100000 in
theorem item_tiled.calls (A0 : Option Addr) (c0 : Nat) (l0 : List S24) (a1 : Int) (a2 : Int) (a3 : Int) (r1 : Int) (r2 : Int) (r3 : Int) (r4 : List (List Int)) (w : World) (hr0 : Kd.C k24 w A0 l0.length l0) (hc0 : l0.length ≤ c0) (h : item_tiled.f l0 a1 a2 a3 = some (r1, r2, r3, r4)) :
  Calls Tryz.prog 73 #[.slice A0 l0.length c0, .int .i64 a1, .int .i64 a2, .int .i64 a3] w fun e w' => ∃ v3_ : Value, e = .returned (.agg #[.int .i64 r1, .int .i64 r2, .int .i64 r3, v3_]) ∧ Kd.S (Kd.slice 3 (Kd.int .i64)) 39 w' w.heap.size (fun _ => True) v3_ r4 ∧ Below w.heap.size w w' := by
 unfold item_tiled.f at h
 split at h
 case isFalse => cases h
 case isTrue hk =>
 obtain ⟨l, rfl⟩ : ∃ v, v = l0 := ⟨_, rfl⟩
 obtain ⟨cols, rfl⟩ : ∃ v, v = a1 := ⟨_, rfl⟩
 obtain ⟨wide, rfl⟩ : ∃ v, v = a2 := ⟨_, rfl⟩
 obtain ⟨high, rfl⟩ : ∃ v, v = a3 := ⟨_, rfl⟩
 obtain ⟨hg, heach⟩ := tileOk_each hk
 obtain ⟨ad, A3, c3, rfl, hx0, hx1, hx2, hx3, hl3, hC3⟩ := at_T24 hr0 0 (Int.le_refl 0) (by omega)
 obtain ⟨np, hnp⟩ : ∃ n, n = (rd_T24 l 0).f3.length := ⟨_, rfl⟩
 obtain ⟨bits, hbits⟩ : ∃ b, b = (rd_T24 l 0).f2 := ⟨_, rfl⟩
 rw [← hnp] at hg heach hx3 h
 rw [← hbits] at hx2 h
 have HR := As0.mk hr0
 have HG := As0.mk hg
 have HE := As0.mk heach
 have HF := As0.mk (Option.some.inj h)
 have h2 : w.cell? ⟨ad.block, ad.off + 2, none⟩ = some (.int .i64 bits) := by simpa [Addr.add] using hx2
 have h3 : w.cell? ⟨ad.block, ad.off + 3, none⟩ = some (.slice A3 np c3) := by simpa [Addr.add] using hx3
 have H2 := As0.mk h2
 have H3 := As0.mk h3
 clear hx0 hx1 hx2 hx3 hl3 hC3 hr0 hc0 h hk heach hnp hbits h2 h3
 have hBL := blank_is wide high bits (by omega) (by omega) np (by omega)
 have HBL := As0.mk hBL
 have zl : 0 < l.length := hg.1
 have zl' : (0 : Int) < (l.length : Int) := by omega
 have cz : (cols == 0) = false := beq_eq_false_iff_ne.2 (by omega)
 have cz' : cols ≠ 0 := by omega
 have CZ := As0.mk (And.intro cz cz')
 clear hg hBL cz cz'
 replace zl := eq_true zl
 replace zl' := eq_true zl'
 have hu24 := Tryz.underlying24
 have hu49 := Tryz.underlying49
 have hu39 := Tryz.underlying39
 have hu22 := Tryz.underlying22
 go_enter Tryz.func73, Tryz.ntmps73
 go_wp2_with (first | ((with_reducible refine gdt (N := 8) rfl ?_); refine bxe ?hg (N := 8) ?hd (cs := #[.int .i64 0, .int .i64 0, .int .i64 0, .slice none 0 0]) (t := 24) ?hr ?_; (case hd => rfl); (case hg => rfl); (case hr => first | (go_simp; done) | (go_simp; rfl)); intro g8 hgg8 w8 hboxg8 hbg8; have BKg8 := As0.mk hboxg8; have GE8 : As0 (w.heap.size ≤ g8) := ⟨Nat.le_of_eq hgg8.symm⟩; have HB8 := As0.mk hbg8; clear hboxg8 hbg8 hgg8))
 have k2 : w8.cell? ⟨ad.block, ad.off + 2, none⟩ = some (.int .i64 bits) := (HB8.out.cell (World.block_lt_of_cell? w _ H2.out)).trans H2.out
 have k3 : w8.cell? ⟨ad.block, ad.off + 3, none⟩ = some (.slice A3 np c3) := (HB8.out.cell (World.block_lt_of_cell? w _ H3.out)).trans H3.out
 refine start_ (n := 14) (S := fun w' => w'.cell? ⟨ad.block, ad.off + 2, none⟩ = some (.int .i64 bits) ∧ w'.cell? ⟨ad.block, ad.off + 3, none⟩ = some (.slice A3 np c3)) (ds := [13]) #[false, false, false, false, false, false, false, false, false, false, false, false, false, false] (by kernel_rfl) rfl rfl ⟨k2, k3⟩ (fun hHeld => ?_); refine with_tabW item_tiled.tab1 item_tiled.bits1 (fun HT_ HW_ => ?_)
 replace BKg8 := As0.mk (bkd BKg8.out)
 replace HB8 := As0.mk (bwd HB8.out)
 clear k2 k3
 generalize w8.drew = wd at *
 refine pure_ (i := 0) (N := some 12) (v := ?_) (a' := ?_) #[true, false, false, false, false, false, false, false, false, false, false, false, false, false] rfl rfl (any_of HT_.out (by kernel_rfl)) (fun _ _ _ h => h) (Or.inl ⟨by rfl, ?_⟩) ?_ ?_
 rotate_left
 ·intro w'
  go_simp
  with_reducible rfl
 rotate_left
 ·simp only [Act.put, List.setIfInBounds_toArray, List.set_cons_zero, List.set_cons_succ, i64_w, i32_w]
  rfl
 refine pure_ (i := 1) (N := some 13) (v := ?_) (a' := ?_) #[true, true, false, false, false, false, false, false, false, false, false, false, false, false] rfl rfl (any_of HT_.out (by kernel_rfl)) (fun _ _ _ h => h) (Or.inl ⟨by rfl, ?_⟩) ?_ ?_
 rotate_left
 ·intro w'
  go_simp
  with_reducible rfl
 rotate_left
 ·simp only [Act.put, List.setIfInBounds_toArray, List.set_cons_zero, List.set_cons_succ, i64_w, i32_w]
  rfl
 refine pure_ (i := 2) (N := some 14) (v := ?_) (a' := ?_) #[true, true, true, false, false, false, false, false, false, false, false, false, false, false] rfl rfl (any_of HT_.out (by kernel_rfl)) (fun _ _ _ h => h) (Or.inl ⟨by rfl, ?_⟩) ?_ ?_
 rotate_left
 ·intro w'
  go_simp
  with_reducible rfl
 rotate_left
 ·simp only [Act.put, List.setIfInBounds_toArray, List.set_cons_zero, List.set_cons_succ, i64_w, i32_w]
  rfl
 refine pure_ (i := 3) (N := some 15) (v := ?_) (a' := ?_) #[true, true, true, true, false, false, false, false, false, false, false, false, false, false] rfl rfl (any_of HT_.out (by kernel_rfl)) (fun _ _ _ h => h) (Or.inl ⟨by rfl, ?_⟩) ?_ ?_
 rotate_left
 ·intro w'
  go_simp
  with_reducible rfl
 rotate_left
 ·simp only [Act.put, List.setIfInBounds_toArray, List.set_cons_zero, List.set_cons_succ, i64_w, i32_w]
  rfl
 refine pure_ (i := 4) (N := some 16) (v := ?_) (a' := ?_) #[true, true, true, true, true, false, false, false, false, false, false, false, false, false] rfl rfl (any_of HT_.out (by kernel_rfl)) (fun _ _ _ h => h) (Or.inl ⟨by rfl, ?_⟩) ?_ ?_
 rotate_left
 ·intro w'
  go_simp
  with_reducible rfl
 rotate_left
 ·simp only [Act.put, List.setIfInBounds_toArray, List.set_cons_zero, List.set_cons_succ, i64_w, i32_w]
  rfl
 refine pure_ (i := 6) (N := some 18) (v := ?_) (a' := ?_) #[true, true, true, true, true, false, true, false, false, false, false, false, false, false] rfl rfl (any_of HT_.out (by kernel_rfl)) (fun _ _ _ h => h) (Or.inl ⟨by rfl, ?_⟩) ?_ ?_
 rotate_left
 ·intro w'
  go_simp
  with_reducible rfl
 rotate_left
 ·simp only [Act.put, List.setIfInBounds_toArray, List.set_cons_zero, List.set_cons_succ, i64_w, i32_w]
  rfl
 refine pure_ (i := 7) (N := some 19) (v := ?_) (a' := ?_) #[true, true, true, true, true, false, true, true, false, false, false, false, false, false] rfl rfl (any_of HT_.out (by kernel_rfl)) (fun _ _ _ h => h) (Or.inl ⟨by rfl, ?_⟩) ?_ ?_
 rotate_left
 ·intro w'
  go_simp
  with_reducible rfl
 rotate_left
 ·simp only [Act.put, List.setIfInBounds_toArray, List.set_cons_zero, List.set_cons_succ, i64_w, i32_w]
  rfl
 refine pure_ (i := 8) (N := some 20) (v := ?_) (a' := ?_) #[true, true, true, true, true, false, true, true, true, false, false, false, false, false] rfl rfl (any_of HT_.out (by kernel_rfl)) (fun _ _ _ h => h) (Or.inl ⟨by rfl, ?_⟩) ?_ ?_
 rotate_left
 ·intro w'
  go_simp
  with_reducible rfl
 rotate_left
 ·simp only [Act.put, List.setIfInBounds_toArray, List.set_cons_zero, List.set_cons_succ, i64_w, i32_w]
  rfl
 refine take_ (i := 5) (N := some 17) (v := ?_) (a' := ?_) #[true, true, true, true, true, true, true, true, true, false, false, false, false, false] rfl rfl (take_ofW HT_.out HW_.out (by kernel_rfl)) (fun _ _ _ h => h) (Or.inl ⟨by rfl, ?_⟩) hHeld ?_ ?_
 rotate_left
 ·rintro w' ⟨s0, s1⟩
  go_simp
  with_reducible rfl
 rotate_left
 ·simp only [Act.put, List.setIfInBounds_toArray, List.set_cons_zero, List.set_cons_succ, i64_w, i32_w]
  rfl
 refine take_ (i := 9) (N := some 21) (v := ?_) (a' := ?_) #[true, true, true, true, true, true, true, true, true, true, false, false, false, false] rfl rfl (take_ofW HT_.out HW_.out (by kernel_rfl)) (fun _ _ _ h => h) (Or.inl ⟨by rfl, ?_⟩) hHeld ?_ ?_
 rotate_left
 ·rintro w' ⟨s0, s1⟩
  go_simp
  with_reducible rfl
 rotate_left
 ·simp only [Act.put, List.setIfInBounds_toArray, List.set_cons_zero, List.set_cons_succ, i64_w, i32_w]
  rfl
 refine pure_ (i := 10) (N := some 22) (v := ?_) (a' := ?_) #[true, true, true, true, true, true, true, true, true, true, true, false, false, false] rfl rfl (any_of HT_.out (by kernel_rfl)) (fun _ _ _ h => h) (Or.inl ⟨by rfl, ?_⟩) ?_ ?_
 rotate_left
 ·intro w'
  go_simp
  with_reducible rfl
 rotate_left
 ·simp only [Act.put, List.setIfInBounds_toArray, List.set_cons_zero, List.set_cons_succ, i64_w, i32_w]
  rfl
 refine join_ (σ := Nat × Nat × Nat) 1 #[true, true, true, true, true, true, true, true, true, true, true, true, true, false] (fun s_ => [(23, .agg #[.int .i64 wide, .int .i64 high, .int .i64 bits, .slice (some ⟨s_.2.1, 0, none⟩) np s_.2.2]), (9, .pointer (some ⟨s_.1, 0, none⟩))]) (fun s_ w' => (w'.cell? ⟨ad.block, ad.off + 2, none⟩ = some (.int .i64 bits) ∧ w'.cell? ⟨ad.block, ad.off + 3, none⟩ = some (.slice A3 np c3)) ∧ w'.heap[g8]? = some (.cells #[.int .i64 0, .int .i64 0, .int .i64 0, .slice none 0 0] 24 (0, 0)) ∧ w'.heap[s_.1]? = some (.cells #[.int .i64 0, .int .i64 0, .int .i64 0, .slice none 0 0] 24 (0, 0)) ∧ g8 ≠ s_.1 ∧ w.heap.size ≤ s_.1 ∧ Kd.S (Kd.slice 3 (Kd.int .i64)) 39 w' w.heap.size (fun _ => True) (.slice (some ⟨s_.2.1, 0, none⟩) np s_.2.2) (tlN wide.toNat high.toNat cols.toNat np l 0) ∧ Below w.heap.size w w') ?_ ?_
 rotate_left
 ·intro hCont
  refine two_ (i := 11) (j := 12) (Ni := some 23) (Nj := some 9) #[true, true, true, true, true, true, true, true, true, true, true, true, false, false] #[true, true, true, true, true, true, true, true, true, true, true, false, true, false] rfl rfl rfl rfl (two_of HT_.out (by kernel_rfl)) (by decide) (by decide) (fun K hK => ?_) (fun K hK => ?_)
  ·skip
   have HB := HB8
   refine goes_ Tryz.func107 (by kernel_rfl) rfl #[.int .i64 wide, .int .i64 high, .int .i64 bits, .int .i64 (np : Int)] (by rfl) rfl rfl (by (try simp only [List.map_toArray, List.map_cons, List.map_nil]); first | done | rfl) ?_
   refine (item_blank.calls (np + 1) wide high bits (np : Int) _ _ _ _ _ HBL.out).mono ?_
   rintro e w9 ⟨v7, rfl, hs7, hbX⟩
   obtain ⟨gN, cN, rfl, _, _, _⟩ := Kd.S_form hs7 (by rw [List.length_replicate]; exact HG.out.2.2.2.2.2.2.2.2.1)
   rw [List.length_replicate] at *
   refine ⟨_, rfl, ?_⟩
   have HS7 := As0.mk (Kd.S_lower hs7 (by have := HB.out.size; omega : w.heap.size ≤ wd.heap.size))
   replace BKg8 := As0.mk (bkb BKg8.out hbX)
   replace HB := As0.mk (pwt HB.out hbX)
   refine hK.out _ _ ⟨(hbX.cell (World.block_lt_of_cell? _ _ hHeld.1)).trans hHeld.1, (hbX.cell (World.block_lt_of_cell? _ _ hHeld.2)).trans hHeld.2⟩ (fun hHeld => ?_)
   clear hK K
   refine norm_ (a' := ?_) ?_ ?_
   rotate_left
   ·show Act.put _ (some 23) _ = _
    simp only [Act.put, List.setIfInBounds_toArray, List.set_cons_zero, List.set_cons_succ, i64_w, i32_w]
    rfl
   clear hbX hs7
   refine one_ (i := 12) (N := some 9) #[true, true, true, true, true, true, true, true, true, true, true, true, true, false] rfl rfl (one_of HT_.out (by kernel_rfl)) (by decide) (fun K hK => ?_)
   refine box_step ?hg (N := 9) ?hd (cs := #[.int .i64 0, .int .i64 0, .int .i64 0, .slice none 0 0]) (t := 24) ?hr ?_; (case hd => rfl); (case hg => rfl); (case hr => first | (go_simp; done) | (go_simp; rfl))
   intro g9 hg w10 hbox hbX
   have BKg9 := As0.mk hbox
   have NE89 : As0 (g8 ≠ g9) := ⟨by have := blk_lt BKg8.out; omega⟩
   have GE9 : As0 (w.heap.size ≤ g9) := ⟨by have := HB.out.size; omega⟩
   replace BKg8 := As0.mk (bkb BKg8.out hbX)
   replace HS7 := As0.mk (Kd.S_below HS7.out hbX)
   replace HB := As0.mk (pwt HB.out hbX)
   refine hK.out _ _ ⟨(hbX.cell (World.block_lt_of_cell? _ _ hHeld.1)).trans hHeld.1, (hbX.cell (World.block_lt_of_cell? _ _ hHeld.2)).trans hHeld.2⟩ (fun hHeld => ?_)
   clear hK K
   refine norm_ (a' := ?_) ?_ ?_
   rotate_left
   ·show Act.put _ (some 9) _ = _
    simp only [Act.put, List.setIfInBounds_toArray, List.set_cons_zero, List.set_cons_succ, i64_w, i32_w]
    rfl
   clear hbX hbox hg
   exact norm_ (by simp only [putAll, Act.put, List.setIfInBounds_toArray, List.set_cons_zero, List.set_cons_succ]) (hCont (g9, gN, cN) _ ⟨hHeld, BKg8.out, BKg9.out, NE89.out, GE9.out, by rw [tl0_ wide.toNat high.toNat cols.toNat np l, ← Int.toNat_natCast (wide.toNat * high.toNat), Int.natCast_mul, Int.toNat_of_nonneg (by have := HG.out; omega), Int.toNat_of_nonneg (by have := HG.out; omega)]; exact HS7.out, HB.out⟩)
  ·skip
   have HB := HB8
   refine box_step ?hg (N := 9) ?hd (cs := #[.int .i64 0, .int .i64 0, .int .i64 0, .slice none 0 0]) (t := 24) ?hr ?_; (case hd => rfl); (case hg => rfl); (case hr => first | (go_simp; done) | (go_simp; rfl))
   intro g9 hg w9 hbox hbX
   have BKg9 := As0.mk hbox
   have NE89 : As0 (g8 ≠ g9) := ⟨by have := blk_lt BKg8.out; omega⟩
   have GE9 : As0 (w.heap.size ≤ g9) := ⟨by have := HB.out.size; omega⟩
   replace BKg8 := As0.mk (bkb BKg8.out hbX)
   replace HB := As0.mk (pwt HB.out hbX)
   refine hK.out _ _ ⟨(hbX.cell (World.block_lt_of_cell? _ _ hHeld.1)).trans hHeld.1, (hbX.cell (World.block_lt_of_cell? _ _ hHeld.2)).trans hHeld.2⟩ (fun hHeld => ?_)
   clear hK K
   refine norm_ (a' := ?_) ?_ ?_
   rotate_left
   ·show Act.put _ (some 9) _ = _
    simp only [Act.put, List.setIfInBounds_toArray, List.set_cons_zero, List.set_cons_succ, i64_w, i32_w]
    rfl
   clear hbX hbox hg
   refine one_ (i := 11) (N := some 23) #[true, true, true, true, true, true, true, true, true, true, true, true, true, false] rfl rfl (one_of HT_.out (by kernel_rfl)) (by decide) (fun K hK => ?_)
   refine goes_ Tryz.func107 (by kernel_rfl) rfl #[.int .i64 wide, .int .i64 high, .int .i64 bits, .int .i64 (np : Int)] (by rfl) rfl rfl (by (try simp only [List.map_toArray, List.map_cons, List.map_nil]); first | done | rfl) ?_
   refine (item_blank.calls (np + 1) wide high bits (np : Int) _ _ _ _ _ HBL.out).mono ?_
   rintro e w10 ⟨v7, rfl, hs7, hbX⟩
   obtain ⟨gN, cN, rfl, _, _, _⟩ := Kd.S_form hs7 (by rw [List.length_replicate]; exact HG.out.2.2.2.2.2.2.2.2.1)
   rw [List.length_replicate] at *
   refine ⟨_, rfl, ?_⟩
   have HS7 := As0.mk (Kd.S_lower hs7 (by have := HB.out.size; omega : w.heap.size ≤ w9.heap.size))
   replace BKg8 := As0.mk (bkb BKg8.out hbX)
   replace BKg9 := As0.mk (bkb BKg9.out hbX)
   replace HB := As0.mk (pwt HB.out hbX)
   refine hK.out _ _ ⟨(hbX.cell (World.block_lt_of_cell? _ _ hHeld.1)).trans hHeld.1, (hbX.cell (World.block_lt_of_cell? _ _ hHeld.2)).trans hHeld.2⟩ (fun hHeld => ?_)
   clear hK K
   refine norm_ (a' := ?_) ?_ ?_
   rotate_left
   ·show Act.put _ (some 23) _ = _
    simp only [Act.put, List.setIfInBounds_toArray, List.set_cons_zero, List.set_cons_succ, i64_w, i32_w]
    rfl
   clear hbX hs7
   exact norm_ (by simp only [putAll, Act.put, List.setIfInBounds_toArray, List.set_cons_zero, List.set_cons_succ]) (hCont (g9, gN, cN) _ ⟨hHeld, BKg8.out, BKg9.out, NE89.out, GE9.out, by rw [tl0_ wide.toNat high.toNat cols.toNat np l, ← Int.toNat_natCast (wide.toNat * high.toNat), Int.natCast_mul, Int.toNat_of_nonneg (by have := HG.out; omega), Int.toNat_of_nonneg (by have := HG.out; omega)]; exact HS7.out, HB.out⟩)
 clear BKg8 HB8
 rintro ⟨g9, gN, cN⟩ w7 ⟨hS_, hh0, hh1, hh2, hh3, hh4, hh5⟩
 have BKg8 := As0.mk hh0
 have BKg9 := As0.mk hh1
 have NE89 := As0.mk hh2
 have GE9 := As0.mk hh3
 have HS7 := As0.mk hh4
 have HB7 := As0.mk hh5
 clear hh0 hh1 hh2 hh3 hh4 hh5 hHeld hS_
 refine norm_ (a' := ?_) ?_ ?_
 rotate_left
 ·simp only [putAll, Act.put, List.setIfInBounds_toArray, List.set_cons_zero, List.set_cons_succ]
  rfl
 refine last_ (i := 13) (N := none) #[true, true, true, true, true, true, true, true, true, true, true, true, true, true] rfl rfl (one_of HT_.out (by kernel_rfl)) (by decide) (fun K hK => ?_)
 have z0 : w7.cell? ⟨g9, 0, none⟩ = some (.int .i64 0) := (bkc BKg9.out 0).trans rfl
 have z1 : w7.cell? ⟨g9, 1, none⟩ = some (.int .i64 0) := (bkc BKg9.out 1).trans rfl
 have z2 : w7.cell? ⟨g9, 2, none⟩ = some (.int .i64 0) := (bkc BKg9.out 2).trans rfl
 have z3 : w7.cell? ⟨g9, 3, none⟩ = some (.slice none 0 0) := (bkc BKg9.out 3).trans rfl
 have fz0 := bkz BKg9.out 0
 have fz1 := bkz BKg9.out 1
 have fz2 := bkz BKg9.out 2
 have fz3 := bkz BKg9.out 3
 refine skip_ (w1 := ?_) (by rfl) rfl ?_ ?_
 rotate_left
 ·go_simp
  rfl
 refine hK.out _ _ ?_
 clear hK K
 refine done_ (done_of HT_.out (by kernel_rfl)) ?_
 clear z0 z1 z2 z3 fz0 fz1 fz2 fz3
 go_wp2
 go_loopg [26] l.length (fun kq v26 w' => ∃ (i : Int), v26 = .int .i64 i ∧ As0 (0 ≤ i ∧ i + kq = l.length) ∧ As0 (Kd.S (Kd.slice 3 (Kd.int .i64)) 39 w' w.heap.size (fun _ => True) (.slice (some ⟨gN, 0, none⟩) np cN) (tlN wide.toNat high.toNat cols.toNat np l i.toNat)) ∧ As0 (w'.heap[g8]? = some (.cells #[.int .i64 0, .int .i64 0, .int .i64 0, .slice none 0 0] 24 (0, 0))) ∧ As0 (w'.heap[g9]? = some (.cells #[.int .i64 wide, .int .i64 high, .int .i64 bits, .slice (some ⟨gN, 0, none⟩) np cN] 24 (0, 0))) ∧ As0 (Below w.heap.size w w'))
 case atStart => exact ⟨0, rfl, ⟨by omega, by omega⟩, ⟨four_S HS7.out BKg9.out (by decide) _ _ _ _⟩, ⟨four_far BKg8.out NE89.out _ _ _ _⟩, ⟨four_put BKg9.out _ _ _ _⟩, ⟨four_below HB7.out GE9.out _ _ _ _⟩⟩
 case round =>
  clear BKg8 BKg9 HS7 HB7
  obtain ⟨i, rfl, HI, HS, BKg8, BKg9, HB⟩ := hrel
  cases gk with
  | zero =>
   have hge : decide (i < (l.length : Int)) = false := by have := HI.out; simp; omega
   have hil : i.toNat = l.length := by have := HI.out; omega
   rw [hil] at HS
   have z0 : wr.cell? ⟨g8, 0, none⟩ = some (.int .i64 0) := (bkc BKg8.out 0).trans rfl
   have z1 : wr.cell? ⟨g8, 1, none⟩ = some (.int .i64 0) := (bkc BKg8.out 1).trans rfl
   have z2 : wr.cell? ⟨g8, 2, none⟩ = some (.int .i64 0) := (bkc BKg8.out 2).trans rfl
   have z3 : wr.cell? ⟨g8, 3, none⟩ = some (.slice none 0 0) := (bkc BKg8.out 3).trans rfl
   have fz0 := bkz BKg8.out 0
   have fz1 := bkz BKg8.out 1
   have fz2 := bkz BKg8.out 2
   have fz3 := bkz BKg8.out 3
   have k0 : wr.cell? ⟨g9, 0, none⟩ = some (.int .i64 wide) := (bkc BKg9.out 0).trans rfl
   have k1 : wr.cell? ⟨g9, 1, none⟩ = some (.int .i64 high) := (bkc BKg9.out 1).trans rfl
   have k2 : wr.cell? ⟨g9, 2, none⟩ = some (.int .i64 bits) := (bkc BKg9.out 2).trans rfl
   have k3 : wr.cell? ⟨g9, 3, none⟩ = some (.slice (some ⟨gN, 0, none⟩) np cN) := (bkc BKg9.out 3).trans rfl
   go_wp2
   refine bodyPost_ret (results_cell_row rfl _ _ g8 24 #[.int .i64 wide, .int .i64 high, .int .i64 bits, .slice (some ⟨gN, 0, none⟩) np cN] (0, 0) _ rfl (four_put BKg8.out _ _ _ _) Tryz.underlying24 rfl (by kernel_rfl)) rfl ?_
   have hf := HF.out
   simp only [Prod.mk.injEq] at hf
   obtain ⟨rfl, rfl, rfl, rfl⟩ := hf
   exact ⟨_, rfl, four_S HS.out BKg8.out (by decide) _ _ _ _, four_below HB.out GE8.out _ _ _ _⟩
  | succ kq1 =>
   have i0 : 0 ≤ i := HI.out.1
   have i1 : i < (l.length : Int) := by have := HI.out; omega
   obtain ⟨ad', Ai, ci, had, hx0, hx1, hx2, hx3, hlc, hCi⟩ := at_T24 HR.out i i0 i1
   cases had
   have hmem : rd_T24 l i ∈ l := by
    have hlt : i.toNat < l.length := by omega
    have : rd_T24 l i = l[i.toNat] := by simp [rd_T24, List.getD_eq_getElem?_getD, List.getElem?_eq_getElem hlt]
    rw [this]; exact List.getElem_mem hlt
   have hei := HE.out _ hmem
   have hstep : tlN wide.toNat high.toNat cols.toNat np l (i.toNat + 1) = putP (wide.toNat : Int) (high.toNat : Int) (((i.toNat % cols.toNat) * (rd_T24 l i).f0.toNat : Nat) : Int) (((i.toNat / cols.toNat) * (rd_T24 l i).f1.toNat : Nat) : Int) (rd_T24 l i).f0.toNat ((rd_T24 l i).f0.toNat * (rd_T24 l i).f1.toNat) (tlN wide.toNat high.toNat cols.toNat np l i.toNat) (rd_T24 l i).f3 := by
    conv => lhs; unfold tlN
    rw [Int.toNat_of_nonneg i0]
   generalize rd_T24 l i = xi at *
   have HEI := As0.mk hei
   have HST := As0.mk hstep
   have HCI := As0.mk hCi
   have hm1 : i.toNat % cols.toNat < cols.toNat := Nat.mod_lt _ (by have := HG.out; omega)
   have hd1 : i.toNat / cols.toNat ≤ i.toNat := Nat.div_le_self _ _
   have p1 : (i.toNat % cols.toNat) * xi.f0.toNat ≤ 1000 * 1000 := Nat.mul_le_mul (by have := HG.out; omega) (by omega)
   have p2 : (i.toNat / cols.toNat) * xi.f1.toNat ≤ 1000 * 1000 := Nat.mul_le_mul (by have := HG.out; omega) (by omega)
   have hcc : 0 ≤ cols := by have := HG.out; omega
   obtain ⟨q1, hq1, v1⟩ : ∃ q, Int.tmod i cols = q ∧ q = ((i.toNat % cols.toNat : Nat) : Int) := ⟨_, rfl, by rw [Int.tmod_eq_emod_of_nonneg i0, Int.natCast_emod, Int.toNat_of_nonneg i0, Int.toNat_of_nonneg hcc]⟩
   obtain ⟨q2, hq2, v2⟩ : ∃ q, wrap64 (q1 * xi.f0) = q ∧ q = (((i.toNat % cols.toNat) * xi.f0.toNat : Nat) : Int) := ⟨_, rfl, by rw [v1, show ((i.toNat % cols.toNat : Nat) : Int) * xi.f0 = (((i.toNat % cols.toNat) * xi.f0.toNat : Nat) : Int) by rw [Int.natCast_mul]; congr 1; omega]; exact w64_idn _ (by omega)⟩
   obtain ⟨q3, hq3, v3⟩ : ∃ q, wrap64 (Int.tdiv i cols) = q ∧ q = ((i.toNat / cols.toNat : Nat) : Int) := ⟨_, rfl, by rw [Int.tdiv_eq_ediv_of_nonneg i0, show i / cols = ((i.toNat / cols.toNat : Nat) : Int) by rw [Int.natCast_ediv, Int.toNat_of_nonneg i0, Int.toNat_of_nonneg hcc]]; exact w64_idn _ (by have := HG.out; omega)⟩
   obtain ⟨q4, hq4, v4⟩ : ∃ q, wrap64 (q3 * xi.f1) = q ∧ q = (((i.toNat / cols.toNat) * xi.f1.toNat : Nat) : Int) := ⟨_, rfl, by rw [v3, show ((i.toNat / cols.toNat : Nat) : Int) * xi.f1 = (((i.toNat / cols.toNat) * xi.f1.toNat : Nat) : Int) by rw [Int.natCast_mul]; congr 1; omega]; exact w64_idn _ (by omega)⟩
   have HQ := As0.mk (And.intro v2 v4)
   have HPB := As0.mk (And.intro p1 p2)
   have hw : As0 (wrap64 (i + 1) = i + 1 ∧ (i + 1).toNat = i.toNat + 1) := ⟨by have := HG.out; unfold wrap64; omega, by omega⟩
   clear v1 v2 v3 v4 p1 p2 hm1 hd1 hcc hei hstep hCi hmem hlc
   have y0 : wr.cell? (ad.add (i.toNat * 4)) = some (.int .i64 xi.f0) := (HB.out.cell (World.block_lt_of_cell? w _ hx0)).trans hx0
   have y1 : wr.cell? ⟨(ad.add (i.toNat * 4)).block, (ad.add (i.toNat * 4)).off + 1, none⟩ = some (.int .i64 xi.f1) := (HB.out.cell (World.block_lt_of_cell? w _ hx1)).trans hx1
   have y2 : wr.cell? ⟨(ad.add (i.toNat * 4)).block, (ad.add (i.toNat * 4)).off + 2, none⟩ = some (.int .i64 xi.f2) := (HB.out.cell (World.block_lt_of_cell? w _ hx2)).trans hx2
   have y3 : wr.cell? ⟨(ad.add (i.toNat * 4)).block, (ad.add (i.toNat * 4)).off + 3, none⟩ = some (.slice Ai xi.f3.length ci) := (HB.out.cell (World.block_lt_of_cell? w _ hx3)).trans hx3
   clear hx0 hx1 hx2 hx3
   have id : decide (i < (l.length : Int)) = true := decide_eq_true i1
   have i0d : decide (0 ≤ i) = true := decide_eq_true i0
   have cz : (cols == 0) = false := CZ.out.1
   have cz' : cols ≠ 0 := CZ.out.2
   replace i0 := eq_true i0
   replace i1 := eq_true i1
   go_wp2_with (first | ((with_reducible refine gdt (N := 11) rfl ?_); refine bxe ?hg (N := 11) ?hd (cs := #[.int .i64 0, .int .i64 0, .int .i64 0, .slice none 0 0]) (t := 24) ?hr ?_; (case hd => rfl); (case hg => rfl); (case hr => first | (go_simp; done) | (go_simp; rfl)); intro g11 hgg11 w11 hboxg11 hbg11; have BKg11 := As0.mk hboxg11; have GE11 : As0 (w.heap.size ≤ g11) := ⟨by have := HB.out.size; omega⟩; have NE11 : As0 (g8 ≠ g11 ∧ g9 ≠ g11) := ⟨by have := blk_lt BKg8.out; omega, by have := blk_lt BKg9.out; omega⟩; replace HB := As0.mk (pwt HB.out hbg11); replace BKg8 := As0.mk (bkb BKg8.out hbg11); replace BKg9 := As0.mk (bkb BKg9.out hbg11); replace HS := As0.mk (Kd.S_below HS.out hbg11); have z0 : w11.cell? ⟨g11, 0, none⟩ = some (.int .i64 0) := (bkc BKg11.out 0).trans rfl; have z1 : w11.cell? ⟨g11, 1, none⟩ = some (.int .i64 0) := (bkc BKg11.out 1).trans rfl; have z2 : w11.cell? ⟨g11, 2, none⟩ = some (.int .i64 0) := (bkc BKg11.out 2).trans rfl; have z3 : w11.cell? ⟨g11, 3, none⟩ = some (.slice none 0 0) := (bkc BKg11.out 3).trans rfl; have fz0 := bkz BKg11.out 0; have fz1 := bkz BKg11.out 1; have fz2 := bkz BKg11.out 2; have fz3 := bkz BKg11.out 3; clear hboxg11 hbg11 hgg11))
   clear y0 y1 y2 y3
   clear z0 z1 z2 z3 fz0 fz1 fz2 fz3
   replace HS := As0.mk (four_S HS.out BKg11.out (by decide) (.int .i64 xi.f0) (.int .i64 xi.f1) (.int .i64 xi.f2) (.slice Ai xi.f3.length ci))
   replace BKg8 := As0.mk (four_far BKg8.out NE11.out.1 (.int .i64 xi.f0) (.int .i64 xi.f1) (.int .i64 xi.f2) (.slice Ai xi.f3.length ci))
   replace BKg9 := As0.mk (four_far BKg9.out NE11.out.2 (.int .i64 xi.f0) (.int .i64 xi.f1) (.int .i64 xi.f2) (.slice Ai xi.f3.length ci))
   replace HB := As0.mk (four_below HB.out GE11.out (.int .i64 xi.f0) (.int .i64 xi.f1) (.int .i64 xi.f2) (.slice Ai xi.f3.length ci))
   replace BKg11 := As0.mk (four_put BKg11.out (.int .i64 xi.f0) (.int .i64 xi.f1) (.int .i64 xi.f2) (.slice Ai xi.f3.length ci))
   generalize ((((w11.setCell ⟨g11, 0, none⟩ (.int .i64 xi.f0)).setCell ⟨g11, 1, none⟩ (.int .i64 xi.f1)).setCell ⟨g11, 2, none⟩ (.int .i64 xi.f2)).setCell ⟨g11, 3, none⟩ (.slice Ai xi.f3.length ci)) = wx at *
   have k0 : wx.cell? ⟨g9, 0, none⟩ = some (.int .i64 wide) := (bkc BKg9.out 0).trans rfl
   have k1 : wx.cell? ⟨g9, 1, none⟩ = some (.int .i64 high) := (bkc BKg9.out 1).trans rfl
   have k2 : wx.cell? ⟨g9, 2, none⟩ = some (.int .i64 bits) := (bkc BKg9.out 2).trans rfl
   have k3 : wx.cell? ⟨g9, 3, none⟩ = some (.slice (some ⟨gN, 0, none⟩) np cN) := (bkc BKg9.out 3).trans rfl
   have m0 : wx.cell? ⟨g11, 0, none⟩ = some (.int .i64 xi.f0) := (bkc BKg11.out 0).trans rfl
   have m1 : wx.cell? ⟨g11, 1, none⟩ = some (.int .i64 xi.f1) := (bkc BKg11.out 1).trans rfl
   have m2 : wx.cell? ⟨g11, 2, none⟩ = some (.int .i64 xi.f2) := (bkc BKg11.out 2).trans rfl
   have m3 : wx.cell? ⟨g11, 3, none⟩ = some (.slice Ai xi.f3.length ci) := (bkc BKg11.out 3).trans rfl
   refine start_ (n := 15) (S := fun w' => w'.cell? ⟨g9, 0, none⟩ = some (.int .i64 wide) ∧ w'.cell? ⟨g9, 1, none⟩ = some (.int .i64 high) ∧ w'.cell? ⟨g9, 2, none⟩ = some (.int .i64 bits) ∧ w'.cell? ⟨g9, 3, none⟩ = some (.slice (some ⟨gN, 0, none⟩) np cN) ∧ w'.cell? ⟨g11, 0, none⟩ = some (.int .i64 xi.f0) ∧ w'.cell? ⟨g11, 1, none⟩ = some (.int .i64 xi.f1) ∧ w'.cell? ⟨g11, 2, none⟩ = some (.int .i64 xi.f2) ∧ w'.cell? ⟨g11, 3, none⟩ = some (.slice Ai xi.f3.length ci)) (ds := [14]) #[false, false, false, false, false, false, false, false, false, false, false, false, false, false, false] (by kernel_rfl) rfl rfl ⟨k0, k1, k2, k3, m0, m1, m2, m3⟩ (fun hHeld => ?_); refine with_tabW item_tiled.tab5 item_tiled.bits5 (fun HT_ HW_ => ?_)
   replace HS := As0.mk (Kd.S_drew HS.out)
   replace BKg8 := As0.mk (bkd BKg8.out)
   replace BKg9 := As0.mk (bkd BKg9.out)
   replace BKg11 := As0.mk (bkd BKg11.out)
   replace HB := As0.mk (bwd HB.out)
   clear k0 k1 k2 k3 m0 m1 m2 m3
   generalize wx.drew = wd at *
   refine pure_ (i := 2) (N := some 33) (v := ?_) (a' := ?_) #[false, false, true, false, false, false, false, false, false, false, false, false, false, false, false] rfl rfl (any_of HT_.out (by kernel_rfl)) (fun _ _ _ h => h) (Or.inl ⟨by rfl, ?_⟩) ?_ ?_
   rotate_left
   ·intro w'
    go_simp
    with_reducible rfl
   rotate_left
   ·simp only [Act.put, List.setIfInBounds_toArray, List.set_cons_zero, List.set_cons_succ, i64_w, i32_w, hq1, hq2, hq3, hq4]
    rfl
   refine pure_ (i := 3) (N := some 34) (v := ?_) (a' := ?_) #[false, false, true, true, false, false, false, false, false, false, false, false, false, false, false] rfl rfl (any_of HT_.out (by kernel_rfl)) (fun _ _ _ h => h) (Or.inl ⟨by rfl, ?_⟩) ?_ ?_
   rotate_left
   ·intro w'
    go_simp
    with_reducible rfl
   rotate_left
   ·simp only [Act.put, List.setIfInBounds_toArray, List.set_cons_zero, List.set_cons_succ, i64_w, i32_w, hq1, hq2, hq3, hq4]
    rfl
   refine pure_ (i := 4) (N := some 35) (v := ?_) (a' := ?_) #[false, false, true, true, true, false, false, false, false, false, false, false, false, false, false] rfl rfl (any_of HT_.out (by kernel_rfl)) (fun _ _ _ h => h) (Or.inl ⟨by rfl, ?_⟩) ?_ ?_
   rotate_left
   ·intro w'
    go_simp
    with_reducible rfl
   rotate_left
   ·simp only [Act.put, List.setIfInBounds_toArray, List.set_cons_zero, List.set_cons_succ, i64_w, i32_w, hq1, hq2, hq3, hq4]
    rfl
   refine pure_ (i := 5) (N := some 36) (v := ?_) (a' := ?_) #[false, false, true, true, true, true, false, false, false, false, false, false, false, false, false] rfl rfl (any_of HT_.out (by kernel_rfl)) (fun _ _ _ h => h) (Or.inl ⟨by rfl, ?_⟩) ?_ ?_
   rotate_left
   ·intro w'
    go_simp
    with_reducible rfl
   rotate_left
   ·simp only [Act.put, List.setIfInBounds_toArray, List.set_cons_zero, List.set_cons_succ, i64_w, i32_w, hq1, hq2, hq3, hq4]
    rfl
   refine pure_ (i := 8) (N := some 39) (v := ?_) (a' := ?_) #[false, false, true, true, true, true, false, false, true, false, false, false, false, false, false] rfl rfl (any_of HT_.out (by kernel_rfl)) (fun _ _ _ h => h) (Or.inl ⟨by rfl, ?_⟩) ?_ ?_
   rotate_left
   ·intro w'
    go_simp
    with_reducible rfl
   rotate_left
   ·simp only [Act.put, List.setIfInBounds_toArray, List.set_cons_zero, List.set_cons_succ, i64_w, i32_w, hq1, hq2, hq3, hq4]
    rfl
   refine pure_ (i := 9) (N := some 40) (v := ?_) (a' := ?_) #[false, false, true, true, true, true, false, false, true, true, false, false, false, false, false] rfl rfl (any_of HT_.out (by kernel_rfl)) (fun _ _ _ h => h) (Or.inl ⟨by rfl, ?_⟩) ?_ ?_
   rotate_left
   ·intro w'
    go_simp
    with_reducible rfl
   rotate_left
   ·simp only [Act.put, List.setIfInBounds_toArray, List.set_cons_zero, List.set_cons_succ, i64_w, i32_w, hq1, hq2, hq3, hq4]
    rfl
   refine pure_ (i := 10) (N := some 41) (v := ?_) (a' := ?_) #[false, false, true, true, true, true, false, false, true, true, true, false, false, false, false] rfl rfl (any_of HT_.out (by kernel_rfl)) (fun _ _ _ h => h) (Or.inl ⟨by rfl, ?_⟩) ?_ ?_
   rotate_left
   ·intro w'
    go_simp
    with_reducible rfl
   rotate_left
   ·simp only [Act.put, List.setIfInBounds_toArray, List.set_cons_zero, List.set_cons_succ, i64_w, i32_w, hq1, hq2, hq3, hq4]
    rfl
   refine pure_ (i := 11) (N := some 42) (v := ?_) (a' := ?_) #[false, false, true, true, true, true, false, false, true, true, true, true, false, false, false] rfl rfl (any_of HT_.out (by kernel_rfl)) (fun _ _ _ h => h) (Or.inl ⟨by rfl, ?_⟩) ?_ ?_
   rotate_left
   ·intro w'
    go_simp
    with_reducible rfl
   rotate_left
   ·simp only [Act.put, List.setIfInBounds_toArray, List.set_cons_zero, List.set_cons_succ, i64_w, i32_w, hq1, hq2, hq3, hq4]
    rfl
   refine take_ (i := 0) (N := some 31) (v := ?_) (a' := ?_) #[true, false, true, true, true, true, false, false, true, true, true, true, false, false, false] rfl rfl (take_ofW HT_.out HW_.out (by kernel_rfl)) (fun _ _ _ h => h) (Or.inl ⟨by rfl, ?_⟩) hHeld ?_ ?_
   rotate_left
   ·rintro w' ⟨s0, s1, s2, s3, s4, s5, s6, s7⟩
    go_simp
    with_reducible rfl
   rotate_left
   ·simp only [Act.put, List.setIfInBounds_toArray, List.set_cons_zero, List.set_cons_succ, i64_w, i32_w, hq1, hq2, hq3, hq4]
    rfl
   refine take_ (i := 1) (N := some 32) (v := ?_) (a' := ?_) #[true, true, true, true, true, true, false, false, true, true, true, true, false, false, false] rfl rfl (take_ofW HT_.out HW_.out (by kernel_rfl)) (fun _ _ _ h => h) (Or.inl ⟨by rfl, ?_⟩) hHeld ?_ ?_
   rotate_left
   ·rintro w' ⟨s0, s1, s2, s3, s4, s5, s6, s7⟩
    go_simp
    with_reducible rfl
   rotate_left
   ·simp only [Act.put, List.setIfInBounds_toArray, List.set_cons_zero, List.set_cons_succ, i64_w, i32_w, hq1, hq2, hq3, hq4]
    rfl
   refine take_ (i := 6) (N := some 37) (v := ?_) (a' := ?_) #[true, true, true, true, true, true, true, false, true, true, true, true, false, false, false] rfl rfl (take_ofW HT_.out HW_.out (by kernel_rfl)) (fun _ _ _ h => h) (Or.inl ⟨by rfl, ?_⟩) hHeld ?_ ?_
   rotate_left
   ·rintro w' ⟨s0, s1, s2, s3, s4, s5, s6, s7⟩
    go_simp
    with_reducible rfl
   rotate_left
   ·simp only [Act.put, List.setIfInBounds_toArray, List.set_cons_zero, List.set_cons_succ, i64_w, i32_w, hq1, hq2, hq3, hq4]
    rfl
   refine pure_ (i := 7) (N := some 38) (v := ?_) (a' := ?_) #[true, true, true, true, true, true, true, true, true, true, true, true, false, false, false] rfl rfl (any_of HT_.out (by kernel_rfl)) (fun _ _ _ h => h) (Or.inl ⟨by rfl, ?_⟩) ?_ ?_
   rotate_left
   ·intro w'
    go_simp
    with_reducible rfl
   rotate_left
   ·simp only [Act.put, List.setIfInBounds_toArray, List.set_cons_zero, List.set_cons_succ, i64_w, i32_w, hq1, hq2, hq3, hq4]
    rfl
   refine take_ (i := 12) (N := some 43) (v := ?_) (a' := ?_) #[true, true, true, true, true, true, true, true, true, true, true, true, true, false, false] rfl rfl (take_ofW HT_.out HW_.out (by kernel_rfl)) (fun _ _ _ h => h) (Or.inl ⟨by rfl, ?_⟩) hHeld ?_ ?_
   rotate_left
   ·rintro w' ⟨s0, s1, s2, s3, s4, s5, s6, s7⟩
    go_simp
    with_reducible rfl
   rotate_left
   ·simp only [Act.put, List.setIfInBounds_toArray, List.set_cons_zero, List.set_cons_succ, i64_w, i32_w, hq1, hq2, hq3, hq4]
    rfl
   refine pure_ (i := 13) (N := some 44) (v := ?_) (a' := ?_) #[true, true, true, true, true, true, true, true, true, true, true, true, true, true, false] rfl rfl (any_of HT_.out (by kernel_rfl)) (fun _ _ _ h => h) (Or.inl ⟨by rfl, ?_⟩) ?_ ?_
   rotate_left
   ·intro w'
    go_simp
    with_reducible rfl
   rotate_left
   ·simp only [Act.put, List.setIfInBounds_toArray, List.set_cons_zero, List.set_cons_succ, i64_w, i32_w, hq1, hq2, hq3, hq4]
    rfl
   refine last_ (i := 14) (N := some 45) #[true, true, true, true, true, true, true, true, true, true, true, true, true, true, true] rfl rfl (one_of HT_.out (by kernel_rfl)) (by decide) (fun K hK => ?_)
   refine goes_ Tryz.func68 (by kernel_rfl) rfl #[.agg #[.int .i64 wide, .int .i64 high, .int .i64 bits, .slice (some ⟨gN, 0, none⟩) np cN], .agg #[.int .i64 xi.f0, .int .i64 xi.f1, .int .i64 xi.f2, .slice Ai xi.f3.length ci], .int .i64 q2, .int .i64 q4] (by rfl) rfl rfl (by (try simp only [List.map_toArray, List.map_cons, List.map_nil]); first | done | rfl) ?_
   refine (item_put.calls' wide high bits gN np cN (tlN wide.toNat high.toNat cols.toNat np l i.toNat) xi.f0 xi.f1 xi.f2 Ai xi.f3.length ci xi.f3 q2 q4 _ w.heap.size (fun _ => True) HEI.out.1.2.2.2.2 HS.out (Kd.F_below (Kd.C_F (Kd.heap_slice 3 (Kd.heap_int .i64)) HCI.out) HB.out) HB.out.size ⟨HG.out.2.2.2.2.2.2.2.2.1, HG.out.2.2.2.2.2.2.2.2.2⟩ (by have := HG.out; have := HEI.out.1; have := HQ.out; have := HPB.out; omega) (tlN_ok _ _ _ _ _ _).2 HEI.out.2).mono ?_
   rintro e w15 ⟨rfl, hs15, hb15, hk15⟩
   refine ⟨_, rfl, ?_⟩
   have HS15 : As0 (Kd.S (Kd.slice 3 (Kd.int .i64)) 39 w15 w.heap.size (fun _ => True) (.slice (some ⟨gN, 0, none⟩) np cN) (tlN wide.toNat high.toNat cols.toNat np l (i.toNat + 1))) := ⟨by rw [HST.out, ← HQ.out.1, ← HQ.out.2, Int.toNat_of_nonneg (by have := HG.out; omega), Int.toNat_of_nonneg (by have := HG.out; omega)]; exact hs15⟩
   replace BKg8 := As0.mk (hk15 _ _ _ (by decide) BKg8.out)
   replace BKg9 := As0.mk (hk15 _ _ _ (by decide) BKg9.out)
   replace HB := As0.mk (HB.out.trans hb15)
   clear hs15 hb15 hk15 HS
   refine hK.out _ _ ?_
   clear hK K
   refine done_ (done_of HT_.out (by kernel_rfl)) ?_
   go_wp2
   go_roundg kq1
   case measure => omega
   case rel => exact ⟨i + 1, congrArg _ hw.out.1, ⟨by have := HI.out; omega, by have := HI.out; omega⟩, ⟨by rw [hw.out.2]; exact HS15.out⟩, BKg8, BKg9, HB⟩
def item_shapeOf.f (a0_0 : Int) (a0_1 : Int) (a0_2 : Int) (l0_3 : List (List Int)) : Option (Int × Int × Int × Int) := some (a0_0, a0_1, a0_2, (l0_3.length : Int))
set_option maxHeartbeats 8000000 in
set_option maxRecDepth 100000 in
theorem item_shapeOf.calls (a0_0 : Int) (a0_1 : Int) (a0_2 : Int) (A0_3 : Option Addr) (c0_3 : Nat) (l0_3 : List (List Int)) (r1 : Int) (r2 : Int) (r3 : Int) (r4 : Int) (w : World) (hr0_3 : Kd.C (Kd.slice 3 (Kd.int .i64)) w A0_3 l0_3.length l0_3) (hc0_3 : l0_3.length ≤ c0_3) (h : item_shapeOf.f a0_0 a0_1 a0_2 l0_3 = some (r1, r2, r3, r4)) :
  Calls Tryz.prog 71 #[.agg #[.int .i64 a0_0, .int .i64 a0_1, .int .i64 a0_2, .slice A0_3 l0_3.length c0_3]] w fun e w' => e = .returned (.agg #[.int .i64 r1, .int .i64 r2, .int .i64 r3, .int .i64 r4]) ∧ Below w.heap.size w w' := by
 have hu24 := Tryz.underlying24
 have hu104 := Tryz.underlying104
 have HR0_3 := As0.mk hr0_3
 have HC0_3 := As0.mk hc0_3
 clear hr0_3 hc0_3
 have HB := As0.mk (Below.refl w.heap.size w)
 have H : (some (a0_0, a0_1, a0_2, (l0_3.length : Int))) = some (r1, r2, r3, r4) := h
 clear h
 simp only [Option.some.injEq, Prod.mk.injEq] at H
 obtain ⟨rfl, rfl, rfl, rfl⟩ := H
 go_enter Tryz.func71, Tryz.ntmps71
 go_wp2_with (first | ((with_reducible refine gdt (N := 1) rfl ?_); refine bxe ?hg (N := 1) ?hd (cs := #[.int .i64 a0_0, .int .i64 a0_1, .int .i64 a0_2, .slice A0_3 l0_3.length c0_3]) (t := 24) ?hr ?_; (case hd => rfl); (case hg => rfl); (case hr => first | (go_simp; done) | (go_simp; rfl)); intro gb209 hg w2 hbox hb; have n0_ := As0.mk (bwp (by repeat (first | (with_reducible first | exact HB.out | apply bwa | apply pwN | apply bwd) | exact HB.out)) hb); have n1_ := As0.mk (hbox); have n2_ := As0.mk ((by rw [hg]; exact (bwz (by repeat (first | (with_reducible first | exact HB.out | apply bwa | apply pwN | apply bwd) | exact HB.out))) : w.heap.size ≤ gb209)); have n3_ := As0.mk ((by rw [hg]; exact (bwz (by repeat (first | (with_reducible first | exact HB.out | apply bwa | apply pwN | apply bwd) | exact HB.out))) : w.heap.size ≤ gb209)); clear HB; have HB := n0_; have BK209 := n1_; have GW209 := n2_; have GE209 := n3_; clear n0_ n1_ n2_ n3_; clear hb hbox hg) | ((with_reducible refine gdt (N := 2) rfl ?_); refine bxe ?hg (N := 2) ?hd (cs := #[.int .i64 0, .int .i64 0, .int .i64 0, .int .i64 0]) (t := 104) ?hr ?_; (case hd => rfl); (case hg => rfl); (case hr => first | (go_simp; done) | (go_simp; rfl)); intro gb210 hg w3 hbox hb; have n0_ := As0.mk (bkb (g := gb209) (o := .cells #[.int .i64 a0_0, .int .i64 a0_1, .int .i64 a0_2, .slice A0_3 l0_3.length c0_3] 24 (0, 0)) (by (with_reducible repeat (first | refine bkN ?_ _ | refine bkd ?_ | refine bka ?_ _)); exact BK209.out) hb); have n1_ := As0.mk (bwp (by repeat (first | (with_reducible first | exact HB.out | apply bwa | apply pwN | apply bwd | refine bws ?_ GE209.out) | exact HB.out)) hb); have n2_ := As0.mk (hbox); have n3_ := As0.mk ((by rw [hg]; exact (bwz (by repeat (first | (with_reducible first | exact HB.out | apply bwa | apply pwN | apply bwd | refine bws ?_ GE209.out) | exact HB.out))) : w.heap.size ≤ gb210)); have n4_ := As0.mk ((by rw [hg]; exact (bwz (by repeat (first | (with_reducible first | exact HB.out | apply bwa | apply pwN | apply bwd | refine bws ?_ GE209.out) | exact HB.out))) : w.heap.size ≤ gb210)); have n5_ := As0.mk ((by rw [hg]; exact Nat.ne_of_lt (blk_lt (g := gb209) (o := .cells #[.int .i64 a0_0, .int .i64 a0_1, .int .i64 a0_2, .slice A0_3 l0_3.length c0_3] 24 (0, 0)) (by (with_reducible repeat (first | refine bkN ?_ _ | refine bkd ?_ | refine bka ?_ _)); exact BK209.out)) : gb209 ≠ gb210)); have n6_ := As0.mk ((by rw [hg]; exact Nat.ne_of_gt (blk_lt (g := gb209) (o := .cells #[.int .i64 a0_0, .int .i64 a0_1, .int .i64 a0_2, .slice A0_3 l0_3.length c0_3] 24 (0, 0)) (by (with_reducible repeat (first | refine bkN ?_ _ | refine bkd ?_ | refine bka ?_ _)); exact BK209.out)) : gb210 ≠ gb209)); clear BK209; clear HB; have BK209 := n0_; have HB := n1_; have BK210 := n2_; have GW210 := n3_; have GE210 := n4_; have NB209_210 := n5_; have NB210_209 := n6_; clear n0_ n1_ n2_ n3_ n4_ n5_ n6_; clear hb hbox hg; have hnb4 := NB209_210.out; have hnc4 := NB210_209.out; have hcz5_0 : w3.cell? ⟨gb209, 0, none⟩ = some (.int .i64 a0_0) := (bkc BK209.out 0).trans rfl; have hcz5_1 : w3.cell? ⟨gb209, 1, none⟩ = some (.int .i64 a0_1) := (bkc BK209.out 1).trans rfl; have hcz5_2 : w3.cell? ⟨gb209, 2, none⟩ = some (.int .i64 a0_2) := (bkc BK209.out 2).trans rfl; have hcz5_3 : w3.cell? ⟨gb209, 3, none⟩ = some (.slice A0_3 l0_3.length c0_3) := (bkc BK209.out 3).trans rfl; have hfz5_0 := bkz BK209.out 0; have hfz5_1 := bkz BK209.out 1; have hfz5_2 := bkz BK209.out 2; have hfz5_3 := bkz BK209.out 3; have hcz6_0 : w3.cell? ⟨gb210, 0, none⟩ = some (.int .i64 0) := (bkc BK210.out 0).trans rfl; have hcz6_1 : w3.cell? ⟨gb210, 1, none⟩ = some (.int .i64 0) := (bkc BK210.out 1).trans rfl; have hcz6_2 : w3.cell? ⟨gb210, 2, none⟩ = some (.int .i64 0) := (bkc BK210.out 2).trans rfl; have hcz6_3 : w3.cell? ⟨gb210, 3, none⟩ = some (.int .i64 0) := (bkc BK210.out 3).trans rfl; have hfz6_0 := bkz BK210.out 0; have hfz6_1 := bkz BK210.out 1; have hfz6_2 := bkz BK210.out 2; have hfz6_3 := bkz BK210.out 3))
 refine bodyPost_ret (results_cell_row rfl _ _ gb210 104 #[.int .i64 a0_0, .int .i64 a0_1, .int .i64 a0_2, .int .i64 (l0_3.length : Int)] (0, 0) _ rfl (by (with_reducible repeat (first | refine bkN ?_ _ | refine bkd ?_ | refine bka ?_ _)); refine blk_put (cs := #[.int .i64 a0_0, .int .i64 a0_1, .int .i64 a0_2, .int .i64 0]) ?_ 3 _ rfl; (with_reducible repeat (first | refine bkN ?_ _ | refine bkd ?_ | refine bka ?_ _)); refine blk_put (cs := #[.int .i64 a0_0, .int .i64 a0_1, .int .i64 0, .int .i64 0]) ?_ 2 _ rfl; (with_reducible repeat (first | refine bkN ?_ _ | refine bkd ?_ | refine bka ?_ _)); refine blk_put (cs := #[.int .i64 a0_0, .int .i64 0, .int .i64 0, .int .i64 0]) ?_ 1 _ rfl; (with_reducible repeat (first | refine bkN ?_ _ | refine bkd ?_ | refine bka ?_ _)); refine blk_put (cs := #[.int .i64 0, .int .i64 0, .int .i64 0, .int .i64 0]) ?_ 0 _ rfl; (with_reducible repeat (first | refine bkN ?_ _ | refine bkd ?_ | refine bka ?_ _)); exact BK210.out) Tryz.underlying104 rfl (by kernel_rfl)) rfl ?_
 exact ⟨by first | rfl | (simp [errW_none, errW_some] <;> rfl) | (simp [*, errW_none, errW_some] <;> rfl), by repeat (first | (with_reducible first | exact HB.out | apply bwa | apply pwN | apply bwd | refine bws ?_ GE209.out | refine bws ?_ GE210.out) | exact HB.out)⟩
theorem eqA104 (d : Nat) (w : World) (x0 y0 : Int) (x1 y1 : Int) (x2 y2 : Int) (x3 y3 : Int) :
  (Op.equalIn (d + 2) 104 (.agg #[.int .i64 x0, .int .i64 x1, .int .i64 x2, .int .i64 x3]) (.agg #[.int .i64 y0, .int .i64 y1, .int .i64 y2, .int .i64 y3])).run Tryz.prog w = .ok (x0 == y0 && (x1 == y1 && (x2 == y2 && (x3 == y3)))) w := by
 refine eqA_of Tryz.underlying104 (by kernel_rfl) ?_
 refine eqf_cons (by rfl) (by go_simp; rfl) (by go_simp; rfl) (by go_simp) ?_
 refine eqf_cons (by rfl) (by go_simp; rfl) (by go_simp; rfl) (by go_simp) ?_
 refine eqf_cons (by rfl) (by go_simp; rfl) (by go_simp; rfl) (by go_simp) ?_
 exact eqf_last (by rfl) (by go_simp; rfl) (by go_simp; rfl) (by go_simp)
end Go.Proofs.YtphkionjjhhhlaaGreat.Q
end
