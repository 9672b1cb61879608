/-
The law ItemChecks of layer 15 holds: at every input the law's function returns true (and the input reads as it did), for a calm world, as the given row says.
-/
import Derived.Test.YtphkionjjhhhlaaGreatRows
import Derived.ProofKit
import Derived.OpenShut
import Derived.ChangeOld
import Derived.Below
import Derived.Test.YtphkionjjhhhlaaGreatCChecks5
set_option linter.unusedVariables false
set_option linter.unusedSimpArgs false
namespace Go.Proofs.YtphkionjjhhhlaaGreat.Q
open Go.ChangeShapes Go.WideShapes Go.ChangeAt Go.RowKit
theorem own : ownKnob Tryz.prog.godebug = none := by kernel_rfl
theorem laidOut : laidOutB Tryz.prog = true := by kernel_rfl
set_option maxRecDepth 100000 in
theorem lifted4 (os : Os) (started : os.Started) (H : Type) (enc : TypeId × Value → H) (F : Stop.Interp) :
    ReturnsInLeavingWide Rows.itemChecksRow.assume Tryz.checked os 4 .any (Rows.itemChecksSpec.pre6 enc Tryz.prog Tryz.f4 Rows.itemChecksRow.domain false) ((OpenSpec.ofChange Rows.itemChecksSpec).postWith enc Tryz.prog Tryz.f4 F (outsideKept [.timePasses]) false true false) := by
  refine returnsInLeavingWide_of_change_time (C := Tryz.checked) own started Tryz.func4
    (ChangeSpec.witness6c (enc := enc) (C := Tryz.checked) ⟨#[], #[.slice none 0 0, .int .i64 0], []⟩ 8 (by kernel_rfl) (by kernel_rfl) (by kernel_rfl) (by kernel_rfl)) ?_
  intro W base args ds gs before hval0 hW hcnd hsz0 hh
  have hW' := hW
  obtain ⟨p, q, hA0, hV, rfl, hfz, hnd⟩ := hW
  have hval : ∀ (j : Nat) t v, Tryz.f4.params[j]? = some t → args[j]? = some v → Value.okWide Tryz.prog W .any base t v := hval0
  have hA : DataW.TrodAll enc Tryz.prog W 0 (fun _ => true) true Tryz.f4.params.toList args.toList ds p := hA0
  rw [Tryz.params4] at hA hval
  obtain ⟨v0, vs0, d0, ds0, p0, q0, hargs, rfl, rfl, h0, r0⟩ := trodAll_cons hA
  obtain ⟨v1, vs1, d1, ds1, p1, q1, rfl, rfl, rfl, h1, r1⟩ := trodAll_cons r0
  obtain ⟨rfl, rfl, rfl⟩ := trodAll_nil r1
  obtain rfl : args = #[v0, v1] := by cases args; simp_all
  obtain ⟨rfl, rfl⟩ := trodVars_none hV
  obtain ⟨a0, len0, cap0, rfl⟩ := okWide_slice Tryz.underlying35 (hval 0 35 v0 rfl rfl)
  have k0 := h0
  have lt0 : ∀ x ∈ p0, x.block < W.heap.size := by obtain ⟨m, hm⟩ := k0; exact DataW.trod_lt m _ _ _ hm
  obtain ⟨fuel, hf⟩ := h0
  obtain ⟨l, ⟨A, c, hcs, hc, hC⟩, _⟩ := o35.2 _ _ _ _ _ _ _ _ hf
  simp [Value.cells] at hcs
  obtain ⟨rfl, rfl, rfl⟩ := hcs
  obtain ⟨a1, rfl, rfl, rfl, w1⟩ := open_int Tryz.underlying3 (hval 1 3 v1 rfl rfl) h1
  obtain ⟨K, hK⟩ := item_checks_law l a1 hC.2.1
  have hcall := dioramalaw15_ItemChecks.calls K a0 cap0 l a1 true W hC hc (hK K (Nat.le_refl _))
  refine good_of_calls (hcall.mono fun e W' ⟨he, bel⟩ => ?_) (by kernel_rfl)
  subst he
  have hos : W'.os = W.os := bel.os
  have hw : ({ W' with os := W.os } : World) = W' := by rw [← hos]
  refine ⟨?_, by rw [hos]; exact ⟨0, rfl⟩⟩
  rw [hw]
  exact ⟨_, _, _, [], _, [], hW', trodAll_mk1 (shut_bool Tryz.underlying4 _), trodAll_cons_mk (Below.trod laidOut (by kernel_rfl) (of_decide_eq_true (by kernel_rfl)) k0 bel lt0) (trodAll_cons_mk (shut_int Tryz.underlying3 w1) trodAll_mk0), rfl, bel.frame _, fun h => by cases h⟩
set_option maxRecDepth 100000 in
theorem facts4 : joinedFacts Tryz.pinned.checked.prog 4 Tryz.f4 Rows.itemChecksSpec Rows.itemChecksRow = true := by kernel_rfl
set_option maxRecDepth 100000 in
theorem named4 : Tryz.pinned.checked.prog.funcNamed Rows.itemChecksRow.func = some 4 := by kernel_rfl
set_option maxRecDepth 100000 in
theorem wrap4 : Tryz.f4.isWrapper Tryz.pinned.checked.prog Rows.itemChecksRow.wrapper Rows.itemChecksRow.mainSum := by
  unfold Func.isWrapper
  first | (rw [if_pos (by decide +kernel)]; kernel_rfl) | (rw [if_neg (by decide +kernel)]; exact ⟨rfl, rfl⟩)
set_option maxRecDepth 100000 in
theorem inst4 : Tryz.f4.isInstance Tryz.pinned.checked.prog Rows.itemChecksRow.origin Rows.itemChecksRow.targs := of_decide_eq_true (by kernel_rfl)
set_option maxRecDepth 100000 in
theorem over4 : Rows.itemChecksRow.holds Tryz.pinned (OpenSpec.ofChange Rows.itemChecksSpec) :=
  OpenClaim.holds_of_wide_leaving_time 4 Tryz.f4 rfl rfl rfl rfl rfl rfl rfl ⟨rfl, rfl, rfl, rfl, rfl⟩ rfl rfl rfl rfl rfl named4 Tryz.func4 facts4 inst4 wrap4
    (fun os started H enc _ F => lifted4 os started H enc F)
end Go.Proofs.YtphkionjjhhhlaaGreat.Q
namespace Go.Proofs.YtphkionjjhhhlaaGreat
theorem itemChecks_holds : Rows.ItemChecksSaid := Q.over4
#print axioms itemChecks_holds
end Go.Proofs.YtphkionjjhhhlaaGreat
