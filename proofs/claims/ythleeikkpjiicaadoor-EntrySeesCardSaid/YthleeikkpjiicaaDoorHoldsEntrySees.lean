/- The law EntrySees holds for every input; no condition beyond those of the statement itself, whose package variables are tied to the text. -/
import Derived.Test.YthleeikkpjiicaaDoorRows
import Derived.Test.YthleeikkpjiicaaDoorChecked
import Derived.WalkKit
import Derived.ProofKit
import Derived.OpenShut
import Derived.ShutString
import Derived.ChangeOld
import Derived.Below
import Derived.SizedLaws
import Derived.LaidMore
import Derived.Stop.Joined
import Derived.SevenTiedAt
import Derived.Test.YthleeikkpjiicaaDoorTie
import Derived.Test.YthleeikkpjiicaaDoorCards
import Derived.Test.YthleeikkpjiicaaDoorWalkEntrySees
set_option linter.unusedVariables false
set_option linter.unusedSimpArgs false
set_option linter.unusedSectionVars false
set_option maxRecDepth 100000
namespace Go.Proofs.YthleeikkpjiicaaDoor.Fw
open Go.Proofs Go.Proofs.YthleeikkpjiicaaDoor
open Go.ChangeShapes Go.WideShapes Go.ChangeAt Go.RowKit
namespace EntrySees
theorem own : ownKnob Tryd.prog.godebug = none := by kernel_rfl
theorem Q1 : laidOutB Tryd.prog = true := by kernel_rfl
theorem Ac5 (os : Os) (args : Array Value) : laidMetH Tryd.prog Rows.entrySeesRow.laid ((World.doorLaid Tryd.prog 24 os).forCall (fun _ _ => 0) ⟨#[], args, []⟩).memory :=
  laidMetH_of_parts3 (fuel := 8) (laidMet_of_run' 8 (by kernel_rfl) (by kernel_rfl)) (by kernel_rfl) (by kernel_rfl)
set_option maxRecDepth 100000 in
theorem Aky (os : Os) (started : os.Started) (H : Type) (enc : TypeId × Value → H) :
    ReturnsInHanded {} Tryd.checked os 4 .any (fun w args => (Rows.entrySeesSpec.pre enc Tryd.prog Tryd.f4 [] false w args ∧ laidMetH Tryd.prog Rows.entrySeesRow.laid w) ∧ sizedMet enc Tryd.prog Tryd.f4 (OpenSpec.ofChange Rows.entrySeesSpec) false w args) (Rows.entrySeesSpec.post enc Tryd.prog Tryd.f4 false true false false) := by
  refine returnsInHanded_of_change_and (C := Tryd.checked) (X := fun w _ => laidMetH Tryd.prog Rows.entrySeesRow.laid w) (fun _ _ _ hh h => h.of_heap hh) own started (by kernel_rfl) Tryd.func4
    (ChangeSpec.witness_shaped (enc := enc) (C := Tryd.checked) (os := os) (X := fun w _ => laidMetH Tryd.prog Rows.entrySeesRow.laid w) false (World.doorLaid Tryd.prog 24 os) #[.slice none 0 0, .agg #[.int .i64 0, .int .u32 0, .int .i64 0, .int .u32 0], .int .i64 0] 8 rfl (World.shaped_of_RefB (by kernel_rfl) (by kernel_rfl)) (by kernel_rfl) (by kernel_rfl) (by kernel_rfl) (Ac5 os _)) ?_
  intro W base args ds gs before hval0 hW hcnd hsz0 hL _;have hval : ∀ (j : Nat) t v, Tryd.f4.params[j]? = some t → args[j]? = some v → Value.okWide Tryd.prog W .any base t v := hval0;have hW' := hW;obtain ⟨p, q, hA0, hV, rfl, hfz, hnd⟩ := hW;have hA : DataW.TrodAll enc Tryd.prog W 0 (fun _ => true) true Tryd.f4.params.toList args.toList ds p := hA0;rw [Tryd.params4] at hA hval;obtain ⟨v0, vs0, d0, ds0, p0, q0, hargs, rfl, rfl, h0, r0⟩ := trodAll_cons hA;obtain ⟨v1, vs1, d1, ds1, p1, q1, rfl, rfl, rfl, h1, r1⟩ := trodAll_cons r0;obtain ⟨v2, vs2, d2, ds2, p2, q2, rfl, rfl, rfl, h2, r2⟩ := trodAll_cons r1;obtain ⟨rfl, rfl, rfl⟩ := trodAll_nil r2;obtain rfl : args = #[v0, v1, v2] := by cases args; simp_all
  obtain ⟨rfl, rfl⟩ := trodVars_none hV;have k0 := h0;have lt0 : ∀ x ∈ p0, x.block < W.heap.size := by obtain ⟨m, hm⟩ := k0; exact DataW.trod_lt m _ _ _ hm
  obtain ⟨c0, g0, e0⟩ := Ot (s := (.sl (.st [(.st [(.int .i64), (.int .u32)]), (.st [(.int .i64), (.int .u32)]), .str, (.st [(.int .i64), (.int .u32)]), (.arr 8 (.int .u32))]))) (by kernel_rfl) (hval 0 22 v0 rfl rfl) h0;have k1 := h1;have lt1 : ∀ x ∈ p1, x.block < W.heap.size := by obtain ⟨m, hm⟩ := k1; exact DataW.trod_lt m _ _ _ hm
  obtain ⟨c1, g1, e1⟩ := Ot (s := (.arr 2 (.st [(.int .i64), (.int .u32)]))) (by kernel_rfl) (hval 1 37 v1 rfl rfl) h1;have k2 := h2;have lt2 : ∀ x ∈ p2, x.block < W.heap.size := by obtain ⟨m, hm⟩ := k2; exact DataW.trod_lt m _ _ _ hm
  obtain ⟨c2, g2, e2⟩ := Ot (s := (.int .i64)) (by kernel_rfl) (hval 2 3 v2 rfl rfl) h2;have hc : ConcL (Gz W) (fun _ => undef) [D8 (.sl (.st [(.st [(.int .i64), (.int .u32)]), (.st [(.int .i64), (.int .u32)]), .str, (.st [(.int .i64), (.int .u32)]), (.arr 8 (.int .u32))])) c0, D8 (.arr 2 (.st [(.int .i64), (.int .u32)])) c1, D8 (.int .i64) c2] [v0, v1, v2] := by
    simp only [ConcL]; exact ⟨_, _, rfl, e0, ⟨_, _, rfl, e1, ⟨_, _, rfl, e2, rfl⟩⟩⟩
  refine ((N7 g0 g1 g2 (h := fun _ => none) (d := 0)).law (by simp only [SV.closedL, Rs, Bool.and_self]) hc (Ae2 hL (fun x => x.1 == "internal/strconv.uint64pow10") (by kernel_rfl))).mono fun e W' ⟨he, bel⟩ => ?_;subst he;exact ⟨_, rfl, _, _, _, [], _, [], hW', trodAll_mk1 (shut_bool Tryd.underlying4 _), (trodAll_cons_mk (Below.trod Q1 (by kernel_rfl) (of_decide_eq_true (by kernel_rfl)) k0 bel lt0) (trodAll_cons_mk (Below.trod Q1 (by kernel_rfl) (of_decide_eq_true (by kernel_rfl)) k1 bel lt1) (trodAll_cons_mk (Below.trod Q1 (by kernel_rfl) (of_decide_eq_true (by kernel_rfl)) k2 bel lt2) trodAll_mk0))), rfl, bel.frame _, fun h => by cases h⟩
theorem over : Rows.entrySeesRow.holds Tryd.pinned (OpenSpec.ofChange Rows.entrySeesSpec) :=
  OpenClaim.holds_of_wide 4 Tryd.f4 rfl rfl rfl rfl rfl rfl rfl ⟨rfl, rfl, rfl, rfl, rfl⟩ rfl rfl rfl rfl rfl (by kernel_rfl) Tryd.func4 (by kernel_rfl)
    (of_decide_eq_true (by kernel_rfl)) (by unfold Func.isWrapper; first | (rw [if_pos (by decide +kernel)]; kernel_rfl) | (rw [if_neg (by decide +kernel)]; exact ⟨rfl, rfl⟩))
    (fun os started H enc _ => Aky os started H enc)
theorem row_tie : Rows.entrySeesRow.laidByTextAt .later Tryd.pinned [.data, .data, .data] true := entrySees_row_tie
theorem card : Rows.EntrySeesCardSaid :=
  Claim7.holds_tied_plain_at .later [] [.data, .data, .data] true (true, "3afdf1d9e445f4b51b0e7b6e70eb3424303298a393739976e191735f0872220d") false
    EntrySees.over (fun _ h => by cases h) (by kernel_rfl) (fun _ h => by cases h) EntrySees.row_tie rfl ⟨rfl, rfl⟩ (by kernel_rfl) rfl
    (fun f fn hf hfn => by
      obtain rfl : f = 4 := Option.some.inj ((show Tryd.prog.funcNamed "wardship/wardshiplaw10.EntrySees" = some 4 by kernel_rfl).symm.trans hf) |>.symm;obtain rfl : fn = Tryd.f4 := (Option.some.inj (Tryd.func4.symm.trans hfn)).symm;exact ⟨by kernel_rfl, fun j t ht => by
        rw [Tryd.params4] at ht;have hm : t ∈ [22, 37, 3] := by simpa using Array.mem_of_getElem? ht
        have hall : ([22, 37, 3].all fun u => !Tryd.prog.wantsStandIn u) = true := by kernel_rfl
        exact (show Tryd.prog.wantsStandIn t = false by simpa using List.all_eq_true.1 hall t hm)⟩)
    (by kernel_rfl)
end EntrySees
theorem entrySees_holds : Rows.EntrySeesCardSaid := EntrySees.card
end Go.Proofs.YthleeikkpjiicaaDoor.Fw
