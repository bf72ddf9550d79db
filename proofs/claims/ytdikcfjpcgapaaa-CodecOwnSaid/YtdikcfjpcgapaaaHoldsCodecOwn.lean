/- The law CodecOwn holds for every input; no condition beyond those of the statement itself. -/
import Derived.Test.YtdikcfjpcgapaaaRows
import Derived.Test.YtdikcfjpcgapaaaChecked
import Derived.WalkKit
import Derived.ProofKit
import Derived.OpenShut
import Derived.ShutString
import Derived.ChangeOld
import Derived.Below
import Derived.SizedLaws
import Derived.Test.YtdikcfjpcgapaaaWalkCodecOwn
set_option linter.unusedVariables false
set_option linter.unusedSimpArgs false
set_option linter.unusedSectionVars false
set_option maxRecDepth 100000
namespace Go.Proofs.Ytdikcfjpcgapaaa.Fw
open Go.Proofs Go.Proofs.Ytdikcfjpcgapaaa
open Go.ChangeShapes Go.WideShapes Go.ChangeAt Go.RowKit
namespace CodecOwn
theorem own : ownKnob Try.prog.godebug = none := by kernel_rfl
theorem Aay : laidOutB Try.prog = true := by kernel_rfl
set_option maxRecDepth 100000 in
theorem Aef (os : Os) (started : os.Started) (H : Type) (enc : TypeId × Value → H) :
    ReturnsInHanded {} Try.checked os 3 .any (Rows.codecOwnSpec.pre6 enc Try.prog Try.f3 Rows.codecOwnRow.domain false) (Rows.codecOwnSpec.post enc Try.prog Try.f3 false true false false) := by
  refine returnsInHanded_of_change_sized (C := Try.checked) own started (by kernel_rfl) Try.func3
    (ChangeSpec.witness6 (enc := enc) (C := Try.checked) false ⟨#[], #[.slice none 0 0], []⟩ 8 (by kernel_rfl) (by kernel_rfl) (by kernel_rfl) (by kernel_rfl)) ?_
  intro W base args ds gs before hval0 hW hcnd hsz0 _;have hval : ∀ (j : Nat) t v, Try.f3.params[j]? = some t → args[j]? = some v → Value.okWide Try.prog W .any base t v := hval0;have hW' := hW;obtain ⟨p, q, hA0, hV, rfl, hfz, hnd⟩ := hW;have hA : DataW.TrodAll enc Try.prog W 0 (fun _ => true) true Try.f3.params.toList args.toList ds p := hA0;rw [Try.params3] at hA hval;obtain ⟨v0, vs0, d0, ds0, p0, q0, hargs, rfl, rfl, h0, r0⟩ := trodAll_cons hA;obtain ⟨rfl, rfl, rfl⟩ := trodAll_nil r0;obtain rfl : args = #[v0] := by cases args; simp_all
  obtain ⟨rfl, rfl⟩ := trodVars_none hV;have k0 := h0;have lt0 : ∀ x ∈ p0, x.block < W.heap.size := by obtain ⟨m, hm⟩ := k0; exact DataW.trod_lt m _ _ _ hm
  obtain ⟨c0, g0, e0⟩ := Yj (s := (.sl (.sl (.int .u8)))) (by kernel_rfl) (hval 0 22 v0 rfl rfl) h0;have hc : ConcL (F4 W) (fun _ => undef) [Ey (.sl (.sl (.int .u8))) c0] [v0] := by
    simp only [ConcL]; exact ⟨_, _, rfl, e0, rfl⟩
  refine ((M4 g0 (h := fun _ => none) (d := 0)).law (by simp only [SV.closedL, Pj, Bool.and_self]) hc (fun p hp => by cases hp)).mono fun e W' ⟨he, bel⟩ => ?_;subst he;exact ⟨_, rfl, _, _, _, [], _, [], hW', trodAll_mk1 (shut_bool Try.underlying4 _), (trodAll_cons_mk (Below.trod Aay (by kernel_rfl) (of_decide_eq_true (by kernel_rfl)) k0 bel lt0) trodAll_mk0), rfl, bel.frame _, fun h => by cases h⟩
theorem over : Rows.codecOwnRow.holds Try.pinned (OpenSpec.ofChange Rows.codecOwnSpec) :=
  OpenClaim.holds_of_wide 3 Try.f3 rfl rfl rfl rfl rfl rfl rfl ⟨rfl, rfl, rfl, rfl, rfl⟩ rfl rfl rfl rfl rfl (by kernel_rfl) Try.func3 (by kernel_rfl)
    (of_decide_eq_true (by kernel_rfl)) (by unfold Func.isWrapper; first | (rw [if_pos (by decide +kernel)]; kernel_rfl) | (rw [if_neg (by decide +kernel)]; exact ⟨rfl, rfl⟩))
    (fun os started H enc _ => Aef os started H enc)
end CodecOwn
theorem codecOwn_holds : Rows.CodecOwnSaid := CodecOwn.over
end Go.Proofs.Ytdikcfjpcgapaaa.Fw
