/- The law StateOwn holds for every input; no condition beyond those of the statement itself. -/
import Derived.Test.YthiamojjhdcegaaGreatRows
import Derived.Test.YthiamojjhdcegaaGreatChecked
import Derived.WalkKit
import Derived.ProofKit
import Derived.OpenShut
import Derived.ShutString
import Derived.ChangeOld
import Derived.Below
import Derived.SizedLaws
import Derived.Test.YthiamojjhdcegaaGreatWalkStateOwn
set_option linter.unusedVariables false
set_option linter.unusedSimpArgs false
set_option linter.unusedSectionVars false
set_option maxRecDepth 100000
namespace Go.Proofs.YthiamojjhdcegaaGreat.Fw
open Go.Proofs Go.Proofs.YthiamojjhdcegaaGreat
open Go.ChangeShapes Go.WideShapes Go.ChangeAt Go.RowKit
namespace StateOwn
theorem own : ownKnob Tryz.prog.godebug = none := by kernel_rfl
theorem Ak4 : laidOutB Tryz.prog = true := by kernel_rfl
set_option maxRecDepth 100000 in
theorem A47 (os : Os) (started : os.Started) (H : Type) (enc : TypeId × Value → H) :
    ReturnsInHanded {} Tryz.checked os 3 .any (Rows.stateOwnSpec.pre6 enc Tryz.prog Tryz.f3 Rows.stateOwnRow.domain false) (Rows.stateOwnSpec.post enc Tryz.prog Tryz.f3 false true false false) := by
  refine returnsInHanded_of_change_sized (C := Tryz.checked) own started (by kernel_rfl) Tryz.func3
    (ChangeSpec.witness6 (enc := enc) (C := Tryz.checked) false ⟨#[], #[.slice none 0 0, .agg #[.int .i64 0, .int .u32 0, .int .u32 0, .int .u32 0, .int .u32 0, .int .u32 0, .int .u32 0, .int .u32 0, .int .u32 0, .int .u32 0, .int .i64 0, .int .i64 0, .int .u32 0, .int .i64 0, .int .u32 0, .string ⟨#[]⟩, .slice none 0 0, .slice none 0 0, .int .i64 0, .string ⟨#[]⟩, .int .i64 0]], []⟩ 8 (by kernel_rfl) (by kernel_rfl) (by kernel_rfl) (by kernel_rfl)) ?_
  intro W base args ds gs before hval0 hW hcnd hsz0 _
  letI : Th := ⟨W.heap.size⟩
  have hval : ∀ (j : Nat) t v, Tryz.f3.params[j]? = some t → args[j]? = some v → Value.okWide Tryz.prog W .any base t v := hval0;have hW' := hW;obtain ⟨p, q, hA0, hV, rfl, hfz, hnd⟩ := hW;have hA : DataW.TrodAll enc Tryz.prog W 0 (fun _ => true) true Tryz.f3.params.toList args.toList ds p := hA0;rw [Tryz.params3] at hA hval;obtain ⟨v0, vs0, d0, ds0, p0, q0, hargs, rfl, rfl, h0, r0⟩ := trodAll_cons hA;obtain ⟨v1, vs1, d1, ds1, p1, q1, rfl, rfl, rfl, h1, r1⟩ := trodAll_cons r0;obtain ⟨rfl, rfl, rfl⟩ := trodAll_nil r1;obtain rfl : args = #[v0, v1] := by cases args; simp_all
  obtain ⟨rfl, rfl⟩ := trodVars_none hV;have k0 := h0;have lt0 : ∀ x ∈ p0, x.block < W.heap.size := by obtain ⟨m, hm⟩ := k0; exact DataW.trod_lt m _ _ _ hm
  obtain ⟨c0, g0, e0⟩ := Agi (s := (.sl (.st [(.st [(.int .i64), (.int .u32)]), (.arr 8 (.int .u32)), (.int .i64), (.st [(.int .i64), (.int .u32)]), (.st [(.int .i64), (.int .u32)]), .str, (.sl (.st [(.int .i64), (.int .u32)])), (.sl (.st [(.int .i64), (.int .u32)])), (.int .i64), .str, (.int .i64)]))) (by kernel_rfl) (hval 0 22 v0 rfl rfl) h0;have k1 := h1;have lt1 : ∀ x ∈ p1, x.block < W.heap.size := by obtain ⟨m, hm⟩ := k1; exact DataW.trod_lt m _ _ _ hm
  obtain ⟨c1, g1, e1⟩ := Agi (s := (.st [(.st [(.int .i64), (.int .u32)]), (.arr 8 (.int .u32)), (.int .i64), (.st [(.int .i64), (.int .u32)]), (.st [(.int .i64), (.int .u32)]), .str, (.sl (.st [(.int .i64), (.int .u32)])), (.sl (.st [(.int .i64), (.int .u32)])), (.int .i64), .str, (.int .i64)])) (by kernel_rfl) (hval 1 30 v1 rfl rfl) h1;have hc : ConcL (J5 W) (fun _ => undef) [L3 (.sl (.st [(.st [(.int .i64), (.int .u32)]), (.arr 8 (.int .u32)), (.int .i64), (.st [(.int .i64), (.int .u32)]), (.st [(.int .i64), (.int .u32)]), .str, (.sl (.st [(.int .i64), (.int .u32)])), (.sl (.st [(.int .i64), (.int .u32)])), (.int .i64), .str, (.int .i64)])) c0, L3 (.st [(.st [(.int .i64), (.int .u32)]), (.arr 8 (.int .u32)), (.int .i64), (.st [(.int .i64), (.int .u32)]), (.st [(.int .i64), (.int .u32)]), .str, (.sl (.st [(.int .i64), (.int .u32)])), (.sl (.st [(.int .i64), (.int .u32)])), (.int .i64), .str, (.int .i64)]) c1] [v0, v1] := by
    simp only [ConcL]; exact ⟨_, _, rfl, e0, ⟨_, _, rfl, e1, rfl⟩⟩
  refine (Yx g0 g1 rfl hc).mono fun e W' ⟨he, bel⟩ => ?_;subst he;exact ⟨_, rfl, _, _, _, [], _, [], hW', trodAll_mk1 (shut_bool Tryz.underlying4 _), (trodAll_cons_mk (Below.trod Ak4 (by kernel_rfl) (of_decide_eq_true (by kernel_rfl)) k0 bel lt0) (trodAll_cons_mk (Below.trod Ak4 (by kernel_rfl) (of_decide_eq_true (by kernel_rfl)) k1 bel lt1) trodAll_mk0)), rfl, bel.frame _, fun h => by cases h⟩
theorem over : Rows.stateOwnRow.holds Tryz.pinned (OpenSpec.ofChange Rows.stateOwnSpec) :=
  OpenClaim.holds_of_wide 3 Tryz.f3 rfl rfl rfl rfl rfl rfl rfl ⟨rfl, rfl, rfl, rfl, rfl⟩ rfl rfl rfl rfl rfl (by kernel_rfl) Tryz.func3 (by kernel_rfl)
    (of_decide_eq_true (by kernel_rfl)) (by unfold Func.isWrapper; first | (rw [if_pos (by decide +kernel)]; kernel_rfl) | (rw [if_neg (by decide +kernel)]; exact ⟨rfl, rfl⟩))
    (fun os started H enc _ => A47 os started H enc)
end StateOwn
theorem stateOwn_holds : Rows.StateOwnSaid := StateOwn.over
end Go.Proofs.YthiamojjhdcegaaGreat.Fw
