/-
The law ItemTurns of layer 15 holds: at every input the law's function returns true (and the input reads as it did), for a calm world, as the given row says.
-/
import Derived.Test.YtphkionjjhhhlaaGreatRows
import Derived.ProofKit
import Derived.OpenShut
import Derived.ChangeOld
import Derived.Below
import Derived.Test.YtphkionjjhhhlaaGreatCTurns5
set_option linter.unusedVariables false
set_option linter.unusedSimpArgs false
namespace Go.Proofs.YtphkionjjhhhlaaGreat.Q
open Go.ChangeShapes Go.WideShapes Go.ChangeAt Go.RowKit
theorem own : ownKnob Tryz.prog.godebug = none := by kernel_rfl
theorem laidOut : laidOutB Tryz.prog = true := by kernel_rfl
set_option maxRecDepth 100000 in
theorem lifted3 (os : Os) (started : os.Started) (H : Type) (enc : TypeId × Value → H) (F : Stop.Interp) :
    ReturnsInLeavingWide Rows.itemTurnsRow.assume Tryz.checked os 3 .any (Rows.itemTurnsSpec.pre6 enc Tryz.prog Tryz.f3 Rows.itemTurnsRow.domain false) ((OpenSpec.ofChange Rows.itemTurnsSpec).postWith enc Tryz.prog Tryz.f3 F (outsideKept [.timePasses]) false true false) := by
  refine returnsInLeavingWide_of_change_time (C := Tryz.checked) own started Tryz.func3
    (ChangeSpec.witness6c (enc := enc) (C := Tryz.checked) ⟨#[], #[.agg #[.int .i64 0, .int .i64 0, .int .i64 0, .slice none 0 0, .int .i64 0, .int .i64 0, .bool false]], []⟩ 8 (by kernel_rfl) (by kernel_rfl) (by kernel_rfl) (by kernel_rfl)) ?_
  intro W base args ds gs before hval0 hW hcnd hsz0 hh
  have hW' := hW
  obtain ⟨p, q, hA0, hV, rfl, hfz, hnd⟩ := hW
  have hval : ∀ (j : Nat) t v, Tryz.f3.params[j]? = some t → args[j]? = some v → Value.okWide Tryz.prog W .any base t v := hval0
  have hA : DataW.TrodAll enc Tryz.prog W 0 (fun _ => true) true Tryz.f3.params.toList args.toList ds p := hA0
  rw [Tryz.params3] at hA hval
  obtain ⟨v0, vs0, d0, ds0, p0, q0, hargs, rfl, rfl, h0, r0⟩ := trodAll_cons hA
  obtain ⟨rfl, rfl, rfl⟩ := trodAll_nil r0
  obtain rfl : args = #[v0] := by cases args; simp_all
  obtain ⟨rfl, rfl⟩ := trodVars_none hV
  obtain ⟨cs, rfl, hsz⟩ := okWide_struct Tryz.underlying26 (hval 0 26 v0 rfl rfl)
  have k0 := h0
  have lt0 : ∀ x ∈ p0, x.block < W.heap.size := by obtain ⟨m, hm⟩ := k0; exact DataW.trod_lt m _ _ _ hm
  obtain ⟨fuel, hf⟩ := h0
  obtain ⟨a0, a1, a2, A, c, l, q, t, fl, hcs, hc, hC⟩ := open_turns hf
  have hcs' : cs = #[.int .i64 a0, .int .i64 a1, .int .i64 a2, .slice A l.length c, .int .i64 q, .int .i64 t, .bool fl] := by
    have : cs.toList = _ := hcs
    rw [← Array.toArray_toList (xs := cs), this]
  subst hcs'
  obtain ⟨K, hK⟩ := item_turns_law a0 a1 a2 l q t fl hC.2.1
  have hcall := dioramalaw15_ItemTurns.calls K a0 a1 a2 A c l q t fl true W hC hc (hK K (Nat.le_refl _))
  refine good_of_calls (hcall.mono fun e W' ⟨he, bel⟩ => ?_) (by kernel_rfl)
  subst he
  have hos : W'.os = W.os := bel.os
  have hw : ({ W' with os := W.os } : World) = W' := by rw [← hos]
  refine ⟨?_, by rw [hos]; exact ⟨0, rfl⟩⟩
  rw [hw]
  exact ⟨_, _, _, [], _, [], hW', trodAll_mk1 (shut_bool Tryz.underlying4 _), trodAll_cons_mk (Below.trod laidOut (by kernel_rfl) (of_decide_eq_true (by kernel_rfl)) k0 bel lt0) trodAll_mk0, rfl, bel.frame _, fun h => by cases h⟩
set_option maxRecDepth 100000 in
theorem facts3 : joinedFacts Tryz.pinned.checked.prog 3 Tryz.f3 Rows.itemTurnsSpec Rows.itemTurnsRow = true := by kernel_rfl
set_option maxRecDepth 100000 in
theorem named3 : Tryz.pinned.checked.prog.funcNamed Rows.itemTurnsRow.func = some 3 := by kernel_rfl
set_option maxRecDepth 100000 in
theorem wrap3 : Tryz.f3.isWrapper Tryz.pinned.checked.prog Rows.itemTurnsRow.wrapper Rows.itemTurnsRow.mainSum := by
  unfold Func.isWrapper
  first | (rw [if_pos (by decide +kernel)]; kernel_rfl) | (rw [if_neg (by decide +kernel)]; exact ⟨rfl, rfl⟩)
set_option maxRecDepth 100000 in
theorem inst3 : Tryz.f3.isInstance Tryz.pinned.checked.prog Rows.itemTurnsRow.origin Rows.itemTurnsRow.targs := of_decide_eq_true (by kernel_rfl)
set_option maxRecDepth 100000 in
theorem over3 : Rows.itemTurnsRow.holds Tryz.pinned (OpenSpec.ofChange Rows.itemTurnsSpec) :=
  OpenClaim.holds_of_wide_leaving_time 3 Tryz.f3 rfl rfl rfl rfl rfl rfl rfl ⟨rfl, rfl, rfl, rfl, rfl⟩ rfl rfl rfl rfl rfl named3 Tryz.func3 facts3 inst3 wrap3
    (fun os started H enc _ F => lifted3 os started H enc F)
end Go.Proofs.YtphkionjjhhhlaaGreat.Q
namespace Go.Proofs.YtphkionjjhhhlaaGreat
theorem itemTurns_holds : Rows.ItemTurnsSaid := Q.over3
#print axioms itemTurns_holds
end Go.Proofs.YtphkionjjhhhlaaGreat
