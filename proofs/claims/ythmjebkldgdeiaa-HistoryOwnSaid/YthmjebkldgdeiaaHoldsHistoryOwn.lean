/- The law HistoryOwn holds for every input; no condition beyond those of the statement itself. -/
import Derived.Test.YthmjebkldgdeiaaRows
import Derived.Test.YthmjebkldgdeiaaChecked
import Derived.WalkKit
import Derived.ProofKit
import Derived.OpenShut
import Derived.ShutString
import Derived.ChangeOld
import Derived.Below
import Derived.SizedLaws
import Derived.Test.YthmjebkldgdeiaaWalkHistoryOwn
set_option linter.unusedVariables false
set_option linter.unusedSimpArgs false
set_option linter.unusedSectionVars false
set_option maxRecDepth 100000
namespace Go.Proofs.Ythmjebkldgdeiaa.Fw
open Go.Proofs Go.Proofs.Ythmjebkldgdeiaa
open Go.ChangeShapes Go.WideShapes Go.ChangeAt Go.RowKit
namespace HistoryOwn
theorem own : ownKnob Try.prog.godebug = none := by kernel_rfl
theorem Afy : laidOutB Try.prog = true := by kernel_rfl
set_option maxRecDepth 100000 in
theorem Aye (os : Os) (started : os.Started) (H : Type) (enc : TypeId × Value → H) :
    ReturnsInHanded {} Try.checked os 5 .any (Rows.historyOwnSpec.pre6 enc Try.prog Try.f5 Rows.historyOwnRow.domain false) (Rows.historyOwnSpec.post enc Try.prog Try.f5 false true false false) := by
  refine returnsInHanded_of_change_sized (C := Try.checked) own started (by kernel_rfl) Try.func5
    (ChangeSpec.witness6 (enc := enc) (C := Try.checked) false ⟨#[], #[.slice none 0 0, .agg #[.int .i64 0, .int .u32 0, .int .u32 0, .int .u32 0, .int .u32 0, .int .u32 0, .int .u32 0, .int .u32 0, .int .u32 0, .int .u32 0, .int .i64 0, .int .i64 0, .int .u32 0, .int .i64 0, .int .u32 0, .string ⟨#[]⟩, .slice none 0 0, .slice none 0 0, .int .i64 0, .string ⟨#[]⟩, .int .i64 0]], []⟩ 8 (by kernel_rfl) (by kernel_rfl) (by kernel_rfl) (by kernel_rfl)) ?_
  intro W base args ds gs before hval0 hW hcnd hsz0 _;have hval : ∀ (j : Nat) t v, Try.f5.params[j]? = some t → args[j]? = some v → Value.okWide Try.prog W .any base t v := hval0;have hW' := hW;obtain ⟨p, q, hA0, hV, rfl, hfz, hnd⟩ := hW;have hA : DataW.TrodAll enc Try.prog W 0 (fun _ => true) true Try.f5.params.toList args.toList ds p := hA0;rw [Try.params5] at hA hval;obtain ⟨v0, vs0, d0, ds0, p0, q0, hargs, rfl, rfl, h0, r0⟩ := trodAll_cons hA;obtain ⟨v1, vs1, d1, ds1, p1, q1, rfl, rfl, rfl, h1, r1⟩ := trodAll_cons r0;obtain ⟨rfl, rfl, rfl⟩ := trodAll_nil r1;obtain rfl : args = #[v0, v1] := by cases args; simp_all
  obtain ⟨rfl, rfl⟩ := trodVars_none hV;have k0 := h0;have lt0 : ∀ x ∈ p0, x.block < W.heap.size := by obtain ⟨m, hm⟩ := k0; exact DataW.trod_lt m _ _ _ hm
  obtain ⟨c0, g0, e0⟩ := Abk (s := (.sl (.st [(.st [(.int .i64), (.int .u32)]), (.arr 8 (.int .u32)), (.int .i64), (.st [(.int .i64), (.int .u32)]), (.st [(.int .i64), (.int .u32)]), .str, (.sl (.st [(.int .i64), (.int .u32)])), (.sl (.st [(.int .i64), (.int .u32)])), (.int .i64), .str, (.int .i64)]))) (by kernel_rfl) (hval 0 22 v0 rfl rfl) h0;have k1 := h1;have lt1 : ∀ x ∈ p1, x.block < W.heap.size := by obtain ⟨m, hm⟩ := k1; exact DataW.trod_lt m _ _ _ hm
  obtain ⟨c1, g1, e1⟩ := Abk (s := (.st [(.st [(.int .i64), (.int .u32)]), (.arr 8 (.int .u32)), (.int .i64), (.st [(.int .i64), (.int .u32)]), (.st [(.int .i64), (.int .u32)]), .str, (.sl (.st [(.int .i64), (.int .u32)])), (.sl (.st [(.int .i64), (.int .u32)])), (.int .i64), .str, (.int .i64)])) (by kernel_rfl) (hval 1 40 v1 rfl rfl) h1;have hc : ConcL (Kq W) (fun _ => undef) [Hv (.sl (.st [(.st [(.int .i64), (.int .u32)]), (.arr 8 (.int .u32)), (.int .i64), (.st [(.int .i64), (.int .u32)]), (.st [(.int .i64), (.int .u32)]), .str, (.sl (.st [(.int .i64), (.int .u32)])), (.sl (.st [(.int .i64), (.int .u32)])), (.int .i64), .str, (.int .i64)])) c0, Hv (.st [(.st [(.int .i64), (.int .u32)]), (.arr 8 (.int .u32)), (.int .i64), (.st [(.int .i64), (.int .u32)]), (.st [(.int .i64), (.int .u32)]), .str, (.sl (.st [(.int .i64), (.int .u32)])), (.sl (.st [(.int .i64), (.int .u32)])), (.int .i64), .str, (.int .i64)]) c1] [v0, v1] := by
    simp only [ConcL]; exact ⟨_, _, rfl, e0, ⟨_, _, rfl, e1, rfl⟩⟩
  refine ((Rs g0 g1 (h := fun _ => none) (d := 0)).law (by simp only [SV.closedL, Zj, Bool.and_self]) hc).mono fun e W' ⟨he, bel⟩ => ?_;subst he;exact ⟨_, rfl, _, _, _, [], _, [], hW', trodAll_mk1 (shut_bool Try.underlying4 _), (trodAll_cons_mk (Below.trod Afy (by kernel_rfl) (of_decide_eq_true (by kernel_rfl)) k0 bel lt0) (trodAll_cons_mk (Below.trod Afy (by kernel_rfl) (of_decide_eq_true (by kernel_rfl)) k1 bel lt1) trodAll_mk0)), rfl, bel.frame _, fun h => by cases h⟩
theorem over : Rows.historyOwnRow.holds Try.pinned (OpenSpec.ofChange Rows.historyOwnSpec) :=
  OpenClaim.holds_of_wide 5 Try.f5 rfl rfl rfl rfl rfl rfl rfl ⟨rfl, rfl, rfl, rfl, rfl⟩ rfl rfl rfl rfl rfl (by kernel_rfl) Try.func5 (by kernel_rfl)
    (of_decide_eq_true (by kernel_rfl)) (by unfold Func.isWrapper; first | (rw [if_pos (by decide +kernel)]; kernel_rfl) | (rw [if_neg (by decide +kernel)]; exact ⟨rfl, rfl⟩))
    (fun os started H enc _ => Aye os started H enc)
end HistoryOwn
theorem historyOwn_holds : Rows.HistoryOwnSaid := HistoryOwn.over
end Go.Proofs.Ythmjebkldgdeiaa.Fw
