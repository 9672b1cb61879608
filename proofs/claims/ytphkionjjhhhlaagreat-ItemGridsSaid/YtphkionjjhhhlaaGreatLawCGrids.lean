/-
The law ItemGrids of layer 15 holds: at every input the law's function returns true (and the input reads as it did), for a calm world, as the given row says.
-/
import Derived.Test.YtphkionjjhhhlaaGreatRows
import Derived.ProofKit
import Derived.OpenShut
import Derived.ChangeOld
import Derived.Below
import Derived.Test.YtphkionjjhhhlaaGreatCGrids6
set_option linter.unusedVariables false
set_option linter.unusedSimpArgs false
namespace Go.Proofs.YtphkionjjhhhlaaGreat.Q
open Go.ChangeShapes Go.WideShapes Go.ChangeAt Go.RowKit
theorem own : ownKnob Tryz.prog.godebug = none := by kernel_rfl
theorem laidOut : laidOutB Tryz.prog = true := by kernel_rfl
set_option maxRecDepth 100000 in
theorem lifted6 (os : Os) (started : os.Started) (H : Type) (enc : TypeId × Value → H) (F : Stop.Interp) :
  ReturnsInLeavingWide Rows.itemGridsRow.assume Tryz.checked os 6 .any (Rows.itemGridsSpec.pre6 enc Tryz.prog Tryz.f6 Rows.itemGridsRow.domain false) ((OpenSpec.ofChange Rows.itemGridsSpec).postWith enc Tryz.prog Tryz.f6 F (outsideKept [.timePasses]) false true false) := by
 refine returnsInLeavingWide_of_change_time (C := Tryz.checked) own started Tryz.func6
  (ChangeSpec.witness6c (enc := enc) (C := Tryz.checked) ⟨#[], #[.agg #[.slice none 0 0, .int .i64 0, .int .i64 0, .int .i64 0, .int .i64 0]], []⟩ 8 (by kernel_rfl) (by kernel_rfl) (by kernel_rfl) (by kernel_rfl)) ?_
 intro W base args ds gs before hval0 hW hcnd hsz0 hh
 have hW' := hW
 obtain ⟨p, q, hA0, hV, rfl, hfz, hnd⟩ := hW
 have hval : ∀ (j : Nat) t v, Tryz.f6.params[j]? = some t → args[j]? = some v → Value.okWide Tryz.prog W .any base t v := hval0
 have hA : DataW.TrodAll enc Tryz.prog W 0 (fun _ => true) true Tryz.f6.params.toList args.toList ds p := hA0
 rw [Tryz.params6] at hA hval
 obtain ⟨v0, vs0, d0, ds0, p0, q0, hargs, rfl, rfl, h0, r0⟩ := trodAll_cons hA
 obtain ⟨rfl, rfl, rfl⟩ := trodAll_nil r0
 obtain rfl : args = #[v0] := by cases args; simp_all
 obtain ⟨rfl, rfl⟩ := trodVars_none hV
 obtain ⟨cs0, rfl, hsz0⟩ := okWide_struct Tryz.underlying51 (hval 0 51 v0 rfl rfl)
 have k0 := h0
 have lt0 : ∀ x ∈ p0, x.block < W.heap.size := by obtain ⟨m, hm⟩ := k0; exact DataW.trod_lt m _ _ _ hm
 obtain ⟨fuel0, hf0⟩ := h0
 obtain ⟨a0, ⟨_, _, hcs0, ⟨Aa, ca, rfl, hca, hCa⟩, ⟨_, _, rfl, rfl, ⟨_, _, rfl, rfl, ⟨_, _, rfl, rfl, rfl⟩⟩⟩⟩, hG0⟩ := o51.2 _ _ _ _ _ _ _ _ hf0
 have hcs0' : cs0 = #[.slice Aa a0.1.length ca, .int .i64 a0.2.1, .int .i64 a0.2.2.1, .int .i64 a0.2.2.2.1, .int .i64 a0.2.2.2.2] := by
  have : cs0.toList = _ := hcs0
  rw [← Array.toArray_toList (xs := cs0), this]
  rfl
 subst hcs0'
 have hcall := grids_true.calls Aa ca a0.1 a0.2.1 a0.2.2.1 a0.2.2.2.1 a0.2.2.2.2 W hCa hca
 refine good_of_calls (hcall.mono fun e W' ⟨he, bel⟩ => ?_) (by kernel_rfl)
 subst he
 have hos : W'.os = W.os := bel.os
 have hw : ({ W' with os := W.os } : World) = W' := by rw [← hos]
 refine ⟨?_, by rw [hos]; exact ⟨0, rfl⟩⟩
 rw [hw]
 exact ⟨_, _, _, [], _, [], hW', trodAll_mk1 (shut_bool Tryz.underlying4 _), (trodAll_cons_mk (Below.trod laidOut (by kernel_rfl) (of_decide_eq_true (by kernel_rfl)) k0 bel lt0) trodAll_mk0), rfl, bel.frame _, fun h => by cases h⟩
set_option maxRecDepth 100000 in
theorem facts6 : joinedFacts Tryz.pinned.checked.prog 6 Tryz.f6 Rows.itemGridsSpec Rows.itemGridsRow = true := by kernel_rfl
set_option maxRecDepth 100000 in
theorem named6 : Tryz.pinned.checked.prog.funcNamed Rows.itemGridsRow.func = some 6 := by kernel_rfl
set_option maxRecDepth 100000 in
theorem wrap6 : Tryz.f6.isWrapper Tryz.pinned.checked.prog Rows.itemGridsRow.wrapper Rows.itemGridsRow.mainSum := by
 unfold Func.isWrapper
 first | (rw [if_pos (by decide +kernel)]; kernel_rfl) | (rw [if_neg (by decide +kernel)]; exact ⟨rfl, rfl⟩)
set_option maxRecDepth 100000 in
theorem inst6 : Tryz.f6.isInstance Tryz.pinned.checked.prog Rows.itemGridsRow.origin Rows.itemGridsRow.targs := of_decide_eq_true (by kernel_rfl)
set_option maxRecDepth 100000 in
theorem over6 : Rows.itemGridsRow.holds Tryz.pinned (OpenSpec.ofChange Rows.itemGridsSpec) :=
 OpenClaim.holds_of_wide_leaving_time 6 Tryz.f6 rfl rfl rfl rfl rfl rfl rfl ⟨rfl, rfl, rfl, rfl, rfl⟩ rfl rfl rfl rfl rfl named6 Tryz.func6 facts6 inst6 wrap6
  (fun os started H enc _ F => lifted6 os started H enc F)
end Go.Proofs.YtphkionjjhhhlaaGreat.Q
namespace Go.Proofs.YtphkionjjhhhlaaGreat
theorem itemGrids_holds : Rows.ItemGridsSaid := Q.over6
#print axioms itemGrids_holds
end Go.Proofs.YtphkionjjhhhlaaGreat
