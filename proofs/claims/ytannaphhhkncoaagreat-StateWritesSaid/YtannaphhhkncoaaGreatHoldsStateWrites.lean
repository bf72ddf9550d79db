/- The law StateWrites holds for every input; no condition beyond those of the statement itself. -/
import Derived.Test.YtannaphhhkncoaaGreatRows
import Derived.Test.YtannaphhhkncoaaGreatChecked
import Derived.WalkKit
import Derived.ProofKit
import Derived.OpenShut
import Derived.ShutString
import Derived.ChangeOld
import Derived.Below
import Derived.SizedLaws
import Derived.Test.YtannaphhhkncoaaGreatWalkStateWrites
set_option linter.unusedVariables false
set_option linter.unusedSimpArgs false
set_option linter.unusedSectionVars false
set_option maxRecDepth 100000
namespace Go.Proofs.YtannaphhhkncoaaGreat.Fw
open Go.Proofs Go.Proofs.YtannaphhhkncoaaGreat
open Go.ChangeShapes Go.WideShapes Go.ChangeAt Go.RowKit
namespace StateWrites
theorem own : ownKnob Tryz.prog.godebug = none := by kernel_rfl
theorem Ak7 : laidOutB Tryz.prog = true := by kernel_rfl
set_option maxRecDepth 100000 in
theorem A4s (os : Os) (started : os.Started) (H : Type) (enc : TypeId × Value → H) :
    ReturnsInHanded {} Tryz.checked os 3 .any (Rows.stateWritesSpec.pre6 enc Tryz.prog Tryz.f3 Rows.stateWritesRow.domain false) (Rows.stateWritesSpec.post enc Tryz.prog Tryz.f3 false true false false) := by
  refine returnsInHanded_of_change_sized (C := Tryz.checked) own started (by kernel_rfl) Tryz.func3
    (ChangeSpec.witness6 (enc := enc) (C := Tryz.checked) false ⟨#[], #[.slice none 0 0, .slice none 0 0], []⟩ 8 (by kernel_rfl) (by kernel_rfl) (by kernel_rfl) (by kernel_rfl)) ?_
  intro W base args ds gs before hval0 hW hcnd hsz0 _;have hval : ∀ (j : Nat) t v, Tryz.f3.params[j]? = some t → args[j]? = some v → Value.okWide Tryz.prog W .any base t v := hval0;have hW' := hW;obtain ⟨p, q, hA0, hV, rfl, hfz, hnd⟩ := hW;have hA : DataW.TrodAll enc Tryz.prog W 0 (fun _ => true) true Tryz.f3.params.toList args.toList ds p := hA0;rw [Tryz.params3] at hA hval;obtain ⟨v0, vs0, d0, ds0, p0, q0, hargs, rfl, rfl, h0, r0⟩ := trodAll_cons hA;obtain ⟨v1, vs1, d1, ds1, p1, q1, rfl, rfl, rfl, h1, r1⟩ := trodAll_cons r0;obtain ⟨rfl, rfl, rfl⟩ := trodAll_nil r1;obtain rfl : args = #[v0, v1] := by cases args; simp_all
  obtain ⟨rfl, rfl⟩ := trodVars_none hV;have k0 := h0;have lt0 : ∀ x ∈ p0, x.block < W.heap.size := by obtain ⟨m, hm⟩ := k0; exact DataW.trod_lt m _ _ _ hm
  obtain ⟨c0, g0, e0⟩ := Agq (s := (.sl (.st [(.st [(.int .i64), (.int .u32)]), (.arr 8 (.int .u32)), (.int .i64), (.st [(.int .i64), (.int .u32)]), (.st [(.int .i64), (.int .u32)]), .str, (.sl (.st [(.int .i64), (.int .u32)])), (.sl (.st [(.int .i64), (.int .u32)])), (.int .i64), .str, (.int .i64)]))) (by kernel_rfl) (hval 0 22 v0 rfl rfl) h0;have k1 := h1;have lt1 : ∀ x ∈ p1, x.block < W.heap.size := by obtain ⟨m, hm⟩ := k1; exact DataW.trod_lt m _ _ _ hm
  obtain ⟨c1, g1, e1⟩ := Agq (s := (.sl (.st [(.st [(.int .i64), (.int .u32)]), (.arr 8 (.int .u32)), (.int .i64), (.st [(.int .i64), (.int .u32)]), (.st [(.int .i64), (.int .u32)]), .str, (.sl (.st [(.int .i64), (.int .u32)])), (.sl (.st [(.int .i64), (.int .u32)])), (.int .i64), .str, (.int .i64)]))) (by kernel_rfl) (hval 1 22 v1 rfl rfl) h1;have hc : ConcL (M4 W) (fun _ => undef) [Jl (.sl (.st [(.st [(.int .i64), (.int .u32)]), (.arr 8 (.int .u32)), (.int .i64), (.st [(.int .i64), (.int .u32)]), (.st [(.int .i64), (.int .u32)]), .str, (.sl (.st [(.int .i64), (.int .u32)])), (.sl (.st [(.int .i64), (.int .u32)])), (.int .i64), .str, (.int .i64)])) c0, Jl (.sl (.st [(.st [(.int .i64), (.int .u32)]), (.arr 8 (.int .u32)), (.int .i64), (.st [(.int .i64), (.int .u32)]), (.st [(.int .i64), (.int .u32)]), .str, (.sl (.st [(.int .i64), (.int .u32)])), (.sl (.st [(.int .i64), (.int .u32)])), (.int .i64), .str, (.int .i64)])) c1] [v0, v1] := by
    simp only [ConcL]; exact ⟨_, _, rfl, e0, ⟨_, _, rfl, e1, rfl⟩⟩
  refine ((S8 g0 g1 (h := fun _ => none) (d := 0)).law (by simp only [SV.closedL, Adk, Bool.and_self]) hc (fun p hp => by cases hp)).mono fun e W' ⟨he, bel⟩ => ?_;subst he;exact ⟨_, rfl, _, _, _, [], _, [], hW', trodAll_mk1 (shut_bool Tryz.underlying4 _), (trodAll_cons_mk (Below.trod Ak7 (by kernel_rfl) (of_decide_eq_true (by kernel_rfl)) k0 bel lt0) (trodAll_cons_mk (Below.trod Ak7 (by kernel_rfl) (of_decide_eq_true (by kernel_rfl)) k1 bel lt1) trodAll_mk0)), rfl, bel.frame _, fun h => by cases h⟩
theorem over : Rows.stateWritesRow.holds Tryz.pinned (OpenSpec.ofChange Rows.stateWritesSpec) :=
  OpenClaim.holds_of_wide 3 Tryz.f3 rfl rfl rfl rfl rfl rfl rfl ⟨rfl, rfl, rfl, rfl, rfl⟩ rfl rfl rfl rfl rfl (by kernel_rfl) Tryz.func3 (by kernel_rfl)
    (of_decide_eq_true (by kernel_rfl)) (by unfold Func.isWrapper; first | (rw [if_pos (by decide +kernel)]; kernel_rfl) | (rw [if_neg (by decide +kernel)]; exact ⟨rfl, rfl⟩))
    (fun os started H enc _ => A4s os started H enc)
end StateWrites
theorem stateWrites_holds : Rows.StateWritesSaid := StateWrites.over
end Go.Proofs.YtannaphhhkncoaaGreat.Fw
