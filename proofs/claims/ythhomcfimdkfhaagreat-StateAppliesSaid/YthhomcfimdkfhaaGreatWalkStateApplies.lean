/- What the function of the law StateApplies computes, and what it leans on. -/
import Derived.Test.YthhomcfimdkfhaaGreatWalk3
import Derived.OpenShut
import Derived.ShutString
import Derived.ChangeOld
import Derived.SizedLaws
import Derived.ChangeOld
import Derived.Lib.Bytealg
import Derived.Lib.Overlaps
import Derived.OpenShut
import Derived.ShutString
import Derived.SizedLaws
set_option linter.unusedVariables false
set_option linter.unusedSimpArgs false
set_option linter.unusedSectionVars false
set_option maxRecDepth 100000
namespace Go.Proofs.YthhomcfimdkfhaaGreat.Fw
open Go.RowKit Go.Proofs
noncomputable def stAp (l : List Evt) (k : Nat) : FS := mk [(27, .pv (.i .i64 k)), (26, .pv (.i .i64 l.length)), (25, .pv (.sl false 21 (l.map evE))), (4, .os 40), (0, .pv (.sl false 21 (l.map evE))), (3, .p 3 0)] [(3, some (.var (.agg (segS (buildS (takeL (l.take k))))))), (40, some (.row 21 ((takeL (l.take k)).map evE)))]
def stAq (l : List Evt) (S : St) (k : Nat) : FS := mk [(66, .pv (.i .i64 k)), (65, .pv (.i .i64 l.length)), (64, .pv (.sl false 21 (l.map evE))), (3, .p 3 0), (10, .p 10 0)] [(3, some (.var (.agg (segS S)))), (10, some (.var (.agg (segS S))))]
theorem fine0 : Fine st0 := ⟨by simp [st0], fun o ho => by simp [st0] at ho, by simp [st0]⟩
set_option maxHeartbeats 16000000 in
theorem lawApplies {l : List Evt} (hl : ∀ e ∈ l, EvRaw e) {h d} :
 FunOk Tryz.prog 3 [.pv (.sl false 21 (l.map evE))] h d (.pv (.b true)) [] := by
 refine fun_pure mixed fn3 (by simp) rfl rfl fun F => ?_
 simp (disch := omega) only [ir3, go_sem]
 refine call_with okLives12 ?_
 simp (disch := omega) only [go_sem]
 refine call_with (okFits12 (l := l) rfl rfl) ?_
 by_cases hf' : FitsL l
 rotate_left
 · have hf := fitsL_f hf'
   simp (disch := omega) only [hf, go_sem]
   refine call_with okLives12 ?_
   simp (disch := omega) only [go_sem]
 have hf := fitsL_t hf'
 have hin : ∀ e ∈ l, EvIn e := fun x hx => raw_in (hl x hx) (hf'.2 x hx)
 have hl30 := hf'.1
 simp (disch := omega) only [hf, List.length_map, go_sem]
 refine loop_ok mixed (stAp l) (fun k => k ≤ l.length) (fun k => l.length - k) 0 (by simp) (wk_nil 4 40 21 rfl (by omega) (weak_mk ?_ ?_)) fun k hk => ?_
 · simp (disch := omega) only [go_sem]
 · simp (disch := omega) only [takeL, List.take_zero, List.foldl_nil, List.map_nil, go_sem]
   exact ⟨seg0_imp, rfl⟩
 by_cases hlt : k < l.length
 · have hx : l[k]? = some l[k] := List.getElem?_eq_getElem hlt
   have he : (l.map evE)[k]? = some (evE l[k]) := by rw [List.getElem?_map, hx]; rfl
   have ht := take_snoc hx
   have hsn := takeL_snoc (l.take k) l[k]
   rw [← ht] at hsn
   obtain ⟨t1, t2, t3⟩ := takeL_ok (l.take k) fun e he => (hin e (List.mem_of_mem_take he)).ev
   have tl : (takeL (l.take k)).length ≤ 400 := by have := List.length_take_le k l; omega
   have hek := hin _ (List.getElem_mem hlt)
   generalize l[k] = e at *
   have hel := evE_len e
   generalize hT : takeL (l.take k) = T at *
   have hi := val_in t1 tl
   simp (disch := omega) only [stAp, hT, List.length_map, he, ld_ev, hel, go_sem]
   refine call_with (okBuildI (val_evs t1 tl) (val_rep t1) rfl) ?_
   simp (disch := omega) only [List.length_map, ld_ev, hel, go_sem]
   refine ⟨rfl, call_with (okWhy hi hek.ev hek.dep) ?_⟩
   simp (disch := omega) only [segS, segX, ld_ev, hel, go_sem]
   refine call_with (okApply (s := buildS T) hi hek.ev) ?_
   by_cases hw : whyS (buildS T) e = 0
   · have e1 : takS T e = T ++ [e] := if_pos hw
     rw [e1] at hsn
     rw [resS_ok t1 hw]
     simp (disch := omega) only [segS, segX, hw, ld_ev, hel, go_sem]
     refine ⟨k + 1, by omega, by omega, wk_ren 59 40 (by decide) rfl (weak_mk ?_ ?_)⟩
     · simp (disch := omega) only [go_sem]
     · simp (disch := omega) only [hsn, List.map_append, List.map_cons, List.map_nil, segS, segX, go_sem]
   · have e1 : takS T e = T := if_neg hw
     rw [e1] at hsn
     have e2 : resS (buildS T) e = st0 := if_neg hw
     rw [e2]
     simp (disch := omega) only [segS, segX, hw, go_sem]
     refine call_with (FunOk.imp (okSame12 (s := st0) fine0) ⟨Imp.refl _, seg0_imp, trivial⟩ (by simp [tops, tn, tops_seg])) ?_
     simp (disch := omega) only [hw, go_sem]
     refine loop_next (k + 1) _ _ rfl (by omega) (by omega) ?_ ?_
     · simp (disch := omega) only [go_sem]
     · simp (disch := omega) only [hsn, segS, segX, go_sem]
 obtain rfl : k = l.length := by omega
 have htk : l.take l.length = l := List.take_length
 obtain ⟨t1, t2, t3⟩ := takeL_ok l fun x hx => (hin x hx).ev
 have hi := val_in t1 (by omega)
 simp (disch := omega) only [stAp, htk, List.length_map, go_sem]
 generalize takeL l = T at *
 refine call_with (okBuildI (val_evs t1 (by omega)) (val_rep t1) rfl) ?_
 generalize buildS T = S at *
 have on := hi.fine.on
 simp (disch := omega) only [segS, segX, List.length_map, go_sem]
 refine loop_ok mixed (stAq l S) (fun k => k ≤ l.length) (fun k => l.length - k) 0 (by simp) (weak_mk ?_ ?_) fun k hk => ?_
 · simp (disch := omega) only [go_sem]
 · simp (disch := omega) only [segS, segX, go_sem]
 by_cases hlt : k < l.length
 · have hx : l[k]? = some l[k] := List.getElem?_eq_getElem hlt
   have he : (l.map evE)[k]? = some (evE l[k]) := by rw [List.getElem?_map, hx]; rfl
   generalize l[k] = e at *
   have hel := evE_len e
   simp (disch := omega) only [stAq, segS, segX, List.length_map, he, ld_ev, hel, ld_evId, go_sem]
   refine call_with (okObjectS (s := S) (evId e) hi.toStOk) ?_
   generalize hO : (objAt S.objs (evId e)).getD obj0 = o
   generalize hB : (objAt S.objs (evId e)).isSome = b
   have hol := objE_len o
   have q1 := peq_refl [.i .i64 o.id.1, .i .u32 o.id.2]
   simp (disch := omega) only [hol, ld_evId, go_sem]
   refine call_with (okObj12 (s := S) (evId e) hi.so (by omega)) ?_
   rw [hO, hB]
   simp (disch := omega) only [hol, ld_objId, ld_objName, ld_objVers, fitsId1, q1, List.length_map, go_sem]
   refine loop_next (k + 1) _ _ rfl (by omega) (by omega) ?_ ?_
   · simp (disch := omega) only [go_sem]
   · simp (disch := omega) only [segS, segX, go_sem]
 · simp (disch := omega) only [stAq, segS, segX, List.length_map, go_sem]
   refine call_with (okSame12 (s := S) hi.fine) ?_
   simp (disch := omega) only [go_sem]
   refine call_with (okCloneSD (s := S) hi.fine) ?_
   simp (disch := omega) only [segS, segX, go_sem]
   refine call_with (okSame12 (s := S) hi.fine) ?_
   simp (disch := omega) only [go_sem]
   refine call_with (okSameS (s := S) hi.fine) ?_
   simp (disch := omega) only [go_sem]
theorem holdsStateApplies {c0 : List PV} (g0 : GC (.sl shEvt) c0) {h d} :
 FunOk Tryz.prog 3 [toSV (.sl shEvt) c0] h d (.pv (.b true)) [] := by
 obtain ⟨l, rfl, hl⟩ := GC_evs g0
 exact lawApplies hl
end Go.Proofs.YthhomcfimdkfhaaGreat.Fw
