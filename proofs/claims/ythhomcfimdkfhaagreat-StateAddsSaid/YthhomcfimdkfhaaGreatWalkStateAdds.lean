/- What the function of the law StateAdds computes, and what it leans on. -/
import Derived.Test.YthhomcfimdkfhaaGreatWalk3
import Derived.OpenShut
import Derived.ShutString
import Derived.ChangeOld
import Derived.SizedLaws
import Derived.ChangeOld
import Derived.Lib.Bytealg
import Derived.Lib.Overlaps
import Derived.OpenShut
import Derived.ShutString
import Derived.SizedLaws
set_option linter.unusedVariables false
set_option linter.unusedSimpArgs false
set_option linter.unusedSectionVars false
set_option maxRecDepth 100000
namespace Go.Proofs.YthhomcfimdkfhaaGreat.Fw
open Go.RowKit Go.Proofs
set_option maxHeartbeats 8000000 in
theorem lawAdds {l : List Evt} {e : Evt} (hl : ∀ e ∈ l, EvRaw e) (he : EvRaw e) {h d} :
 FunOk Tryz.prog 6 [.pv (.sl false 21 (l.map evE)), .vec 21 (evE e)] h d (.pv (.b true)) [] := by
 refine fun_pure mixed fn6 (by simp) rfl rfl fun F => ?_
 have hel := evE_len e
 simp (disch := omega) only [ir6, go_sem]
 refine call_with okLives12 ?_
 simp (disch := omega) only [go_sem]
 refine call_with (okFits12 (l := l) rfl rfl) ?_
 by_cases hf' : FitsL l
 rotate_left
 · have hf := fitsL_f hf'
   simp (disch := omega) only [hf, go_sem]
   refine call_with okLives12 ?_
   simp (disch := omega) only [go_sem]
 have hf := fitsL_t hf'
 simp (disch := omega) only [hf, ld_ev, hel, go_sem]
 refine call_with (okFits12 (l := [e]) (f := false) rfl rfl) ?_
 by_cases hg' : FitsL [e]
 rotate_left
 · have hg := fitsL_f hg'
   simp (disch := omega) only [hg, go_sem]
   refine call_with okLives12 ?_
   simp (disch := omega) only [go_sem]
 have hg := fitsL_t hg'
 have hin : ∀ e ∈ l, EvIn e := fun x hx => raw_in (hl x hx) (hf'.2 x hx)
 have hie : EvIn e := raw_in he (hg'.2 e (by simp))
 obtain ⟨t1, t2, t3⟩ := takeL_ok l fun x hx => (hin x hx).ev
 have hl30 := hf'.1
 simp (disch := omega) only [hg, go_sem]
 refine call_with (okTake (l := l) (by omega) hin) ?_
 generalize takeL l = T at *
 simp (disch := omega) only [go_sem]
 refine call_with (okBuildD (val_evs t1 (by omega)) (val_rep t1)) ?_
 simp (disch := omega) only [segS, segX, ld_ev, hel, go_sem]
 refine call_with (okApply (s := buildS T) (val_in t1 (by omega)) hie.ev) ?_
 by_cases hw : whyS (buildS T) e = 0
 rotate_left
 · simp (disch := omega) only [segS, segX, hw, go_sem]
 have ha := acc_iff.1 hw
 rw [resS_ok t1 hw]
 have hkn : (buildS (T ++ [e])).known = withV (buildS T).known e.rep e.seq := by rw [bld_known, bld_known, knownG_snoc]
 have hnw := ha.new
 obtain ⟨n1, n2⟩ := lens_snoc t1 ha
 have fb := (val_in t1 (by omega)).fine
 have on := fb.on
 have en := fb.en
 have hpr := peq_refl (vE (withV (buildS T).known e.rep e.seq))
 have hfi := fitsV8 (withV (buildS T).known e.rep e.seq)
 generalize buildS (T ++ [e]) = R at *
 by_cases k1 : e.kind = 1
 · rw [if_pos (.inl k1)] at n1
   rw [if_pos (.inl k1)] at n2
   simp (disch := omega) only [segS, segX, hw, ld_ev10, k1, ld_evId, go_sem]
   refine call_with (okWithR' _ _ _) ?_
   simp (disch := omega) only [hkn, hpr, hfi, ld_evId, go_sem]
   refine call_with (okHasR _ _ _) ?_
   have n1' : ((R.objs.length : Nat) : Int) = ((buildS T).objs.length : Int) + 1 := by omega
   have n2' : ((R.ents.length : Nat) : Int) = ((buildS T).ents.length : Int) + 1 := by omega
   simp (disch := omega) only [hnw, List.length_map, n1', n2', go_sem]
 by_cases k2 : e.kind = 2
 · rw [if_pos (.inr k2)] at n1
   rw [if_pos (.inr (.inl k2))] at n2
   simp (disch := omega) only [segS, segX, hw, ld_ev10, k1, k2, ld_evId, go_sem]
   refine call_with (okWithR' _ _ _) ?_
   simp (disch := omega) only [hkn, hpr, hfi, ld_evId, go_sem]
   refine call_with (okHasR _ _ _) ?_
   have n1' : ((R.objs.length : Nat) : Int) = ((buildS T).objs.length : Int) + 1 := by omega
   have n2' : ((R.ents.length : Nat) : Int) = ((buildS T).ents.length : Int) + 1 := by omega
   simp (disch := omega) only [hnw, List.length_map, n1', n2', go_sem]
 rw [if_neg (by omega)] at n1
 by_cases k7 : e.kind = 7
 · rw [if_pos (.inr (.inr k7))] at n2
   simp (disch := omega) only [segS, segX, hw, ld_ev10, k1, k2, k7, ld_evId, go_sem]
   refine call_with (okWithR' _ _ _) ?_
   simp (disch := omega) only [hkn, hpr, hfi, ld_evId, go_sem]
   refine call_with (okHasR _ _ _) ?_
   have n1' : ((R.objs.length : Nat) : Int) = ((buildS T).objs.length : Int) := by omega
   have n2' : ((R.ents.length : Nat) : Int) = ((buildS T).ents.length : Int) + 1 := by omega
   simp (disch := omega) only [hnw, List.length_map, n1', n2', go_sem]
 · rw [if_neg (by omega)] at n2
   simp (disch := omega) only [segS, segX, hw, ld_ev10, k1, k2, k7, ld_evId, go_sem]
   refine call_with (okWithR' _ _ _) ?_
   simp (disch := omega) only [hkn, hpr, hfi, ld_evId, go_sem]
   refine call_with (okHasR _ _ _) ?_
   have n1' : ((R.objs.length : Nat) : Int) = ((buildS T).objs.length : Int) := by omega
   have n2' : ((R.ents.length : Nat) : Int) = ((buildS T).ents.length : Int) := by omega
   simp (disch := omega) only [hnw, List.length_map, n1', n2', go_sem]
theorem holdsStateAdds {c0 c1 : List PV} (g0 : GC (.sl shEvt) c0) (g1 : GC shEvt c1) {h d} :
 FunOk Tryz.prog 6 [toSV (.sl shEvt) c0, toSV shEvt c1] h d (.pv (.b true)) [] := by
 obtain ⟨l, rfl, hl⟩ := GC_evs g0
 obtain ⟨e, rfl, he⟩ := GC_evR g1
 refine (lawAdds hl he).imp ⟨Imp.refl _, imp_agg (by rfl) (evE_len e), trivial⟩ ?_
 intro n hn
 simp [tops, tn] at hn
end Go.Proofs.YthhomcfimdkfhaaGreat.Fw
