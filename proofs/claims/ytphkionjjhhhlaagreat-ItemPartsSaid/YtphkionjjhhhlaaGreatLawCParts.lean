/-
The law ItemParts of layer 15 holds: at every input the law's function returns true (and the input reads as it did), for a calm world, as the given row says.
-/
import Derived.Test.YtphkionjjhhhlaaGreatRows
import Derived.ProofKit
import Derived.OpenShut
import Derived.ChangeOld
import Derived.Below
import Derived.Test.YtphkionjjhhhlaaGreatCParts5
set_option linter.unusedVariables false
set_option linter.unusedSimpArgs false
namespace Go.Proofs.YtphkionjjhhhlaaGreat.Q
open Go.ChangeShapes Go.WideShapes Go.ChangeAt Go.RowKit
theorem u8_of {n : Int} (h : (Lit.int .u8 n).wf = true) : 0 ≤ n ∧ n ≤ 255 := by
 have h2 : (decide ((0 : Int) ≤ n) && decide (n ≤ (255 : Int))) = true := h
 simpa using h2
theorem own : ownKnob Tryz.prog.godebug = none := by kernel_rfl
theorem laidOut : laidOutB Tryz.prog = true := by kernel_rfl
set_option maxRecDepth 100000 in
theorem lifted7 (os : Os) (started : os.Started) (H : Type) (enc : TypeId × Value → H) (F : Stop.Interp) :
  ReturnsInLeavingWide Rows.itemPartsRow.assume Tryz.checked os 7 .any (Rows.itemPartsSpec.pre6 enc Tryz.prog Tryz.f7 Rows.itemPartsRow.domain false) ((OpenSpec.ofChange Rows.itemPartsSpec).postWith enc Tryz.prog Tryz.f7 F (outsideKept [.timePasses]) false true false) := by
 refine returnsInLeavingWide_of_change_time (C := Tryz.checked) own started Tryz.func7
  (ChangeSpec.witness6c (enc := enc) (C := Tryz.checked) ⟨#[], #[.agg #[.int .i64 0, .int .i64 0, .int .i64 0, .slice none 0 0], .int .u8 0, .int .u8 0], []⟩ 8 (by kernel_rfl) (by kernel_rfl) (by kernel_rfl) (by kernel_rfl)) ?_
 intro W base args ds gs before hval0 hW hcnd hsz0 hh
 have hW' := hW
 obtain ⟨p, q, hA0, hV, rfl, hfz, hnd⟩ := hW
 have hval : ∀ (j : Nat) t v, Tryz.f7.params[j]? = some t → args[j]? = some v → Value.okWide Tryz.prog W .any base t v := hval0
 have hA : DataW.TrodAll enc Tryz.prog W 0 (fun _ => true) true Tryz.f7.params.toList args.toList ds p := hA0
 rw [Tryz.params7] at hA hval
 obtain ⟨v0, vs0, d0, ds0, p0, q0, hargs, rfl, rfl, h0, r0⟩ := trodAll_cons hA
 obtain ⟨v1, vs1, d1, ds1, p1, q1, rfl, rfl, rfl, h1, r1⟩ := trodAll_cons r0
 obtain ⟨v2, vs2, d2, ds2, p2, q2, rfl, rfl, rfl, h2, r2⟩ := trodAll_cons r1
 obtain ⟨rfl, rfl, rfl⟩ := trodAll_nil r2
 obtain rfl : args = #[v0, v1, v2] := by cases args; simp_all
 obtain ⟨rfl, rfl⟩ := trodVars_none hV
 obtain ⟨cs0, rfl, hsz0⟩ := okWide_struct Tryz.underlying24 (hval 0 24 v0 rfl rfl)
 have k0 := h0
 have lt0 : ∀ x ∈ p0, x.block < W.heap.size := by obtain ⟨m, hm⟩ := k0; exact DataW.trod_lt m _ _ _ hm
 obtain ⟨fuel0, hf0⟩ := h0
 obtain ⟨a0, ⟨_, _, hcs0, rfl, ⟨_, _, rfl, rfl, ⟨_, _, rfl, rfl, ⟨Aa, ca, rfl, hca, hCa⟩⟩⟩⟩, hG0⟩ := o24.2 _ _ _ _ _ _ _ _ hf0
 have hcs0' : cs0 = #[.int .i64 a0.1, .int .i64 a0.2.1, .int .i64 a0.2.2.1, .slice Aa a0.2.2.2.length ca] := by
  have : cs0.toList = _ := hcs0
  rw [← Array.toArray_toList (xs := cs0), this]
  rfl
 subst hcs0'
 obtain ⟨a1, rfl, rfl, rfl, w1⟩ := open_int Tryz.underlying5 (hval 1 5 v1 rfl rfl) h1
 obtain ⟨a2, rfl, rfl, rfl, w2⟩ := open_int Tryz.underlying5 (hval 2 5 v2 rfl rfl) h2
 obtain ⟨K, hK⟩ := item_parts_law a0.1 a0.2.1 a0.2.2.1 a0.2.2.2 a1 a2 hCa.2.1 (u8_of w1) (u8_of w2)
 have hcall := l15_ItemParts.calls K a0.1 a0.2.1 a0.2.2.1 Aa ca a0.2.2.2 a1 a2 true W hCa hca (hK K (Nat.le_refl _))
 refine good_of_calls (hcall.mono fun e W' ⟨he, bel⟩ => ?_) (by kernel_rfl)
 subst he
 have hos : W'.os = W.os := bel.os
 have hw : ({ W' with os := W.os } : World) = W' := by rw [← hos]
 refine ⟨?_, by rw [hos]; exact ⟨0, rfl⟩⟩
 rw [hw]
 exact ⟨_, _, _, [], _, [], hW', trodAll_mk1 (shut_bool Tryz.underlying4 _), (trodAll_cons_mk (Below.trod laidOut (by kernel_rfl) (of_decide_eq_true (by kernel_rfl)) k0 bel lt0) (trodAll_cons_mk (shut_int Tryz.underlying5 w1) (trodAll_cons_mk (shut_int Tryz.underlying5 w2) trodAll_mk0))), rfl, bel.frame _, fun h => by cases h⟩
set_option maxRecDepth 100000 in
theorem facts7 : joinedFacts Tryz.pinned.checked.prog 7 Tryz.f7 Rows.itemPartsSpec Rows.itemPartsRow = true := by kernel_rfl
set_option maxRecDepth 100000 in
theorem named7 : Tryz.pinned.checked.prog.funcNamed Rows.itemPartsRow.func = some 7 := by kernel_rfl
set_option maxRecDepth 100000 in
theorem wrap7 : Tryz.f7.isWrapper Tryz.pinned.checked.prog Rows.itemPartsRow.wrapper Rows.itemPartsRow.mainSum := by
 unfold Func.isWrapper
 first | (rw [if_pos (by decide +kernel)]; kernel_rfl) | (rw [if_neg (by decide +kernel)]; exact ⟨rfl, rfl⟩)
set_option maxRecDepth 100000 in
theorem inst7 : Tryz.f7.isInstance Tryz.pinned.checked.prog Rows.itemPartsRow.origin Rows.itemPartsRow.targs := of_decide_eq_true (by kernel_rfl)
set_option maxRecDepth 100000 in
theorem over7 : Rows.itemPartsRow.holds Tryz.pinned (OpenSpec.ofChange Rows.itemPartsSpec) :=
 OpenClaim.holds_of_wide_leaving_time 7 Tryz.f7 rfl rfl rfl rfl rfl rfl rfl ⟨rfl, rfl, rfl, rfl, rfl⟩ rfl rfl rfl rfl rfl named7 Tryz.func7 facts7 inst7 wrap7
  (fun os started H enc _ F => lifted7 os started H enc F)
end Go.Proofs.YtphkionjjhhhlaaGreat.Q
namespace Go.Proofs.YtphkionjjhhhlaaGreat
theorem itemParts_holds : Rows.ItemPartsSaid := Q.over7
#print axioms itemParts_holds
end Go.Proofs.YtphkionjjhhhlaaGreat
