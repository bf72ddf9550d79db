/- What the function of the law HistoryOrder computes, and what it leans on. -/
import Derived.Test.YthmjebkldgdeiaaWalk2
import Derived.OpenShut
import Derived.ShutString
import Derived.ChangeOld
import Derived.SizedLaws
import Derived.ChangeOld
import Derived.Lib.Bytealg
import Derived.Lib.Overlaps
import Derived.OpenShut
import Derived.ShutString
import Derived.SizedLaws
set_option linter.unusedVariables false
set_option linter.unusedSimpArgs false
set_option linter.unusedSectionVars false
set_option maxRecDepth 100000
namespace Go.Proofs.Ythmjebkldgdeiaa.Fw
open Go.RowKit Go.Proofs
noncomputable def stHo1 (l : List Evt) (v : Vc) (k : Nat) : FS := mk [(24, .pv (.i .i64 k)), (23, .pv (.i .i64 l.length)), (22, .pv (.sl false 21 (l.map evE))), (5, .p 21 0), (3, .p 3 0), (4, .p 4 0)] [(3, some (.var (.vec 8 (vE v)))), (4, some (.var (.pv (.b false)))), (21, some (.var (hiV (buildS (takeL (l.take k))) (fun _ => 0) ((takeL (l.take k)).map canE))))]
noncomputable def stHo2 (l0 : Nat) (T : List Evt) (v : Vc) (j : Nat) : FS := mk [(8, .pv (.i .i64 j)), (7, .pv (.i .i64 T.length)), (6, .pv (.sl true 21 ((T.map canE).map evE))), (0, .fn (.yield l0) []), (2, .pi 8 [vE v] 0 0), (1000000, .pv (.i .i64 0)), (1000004, .p 3 0), (1000005, .p 4 0), (1000006, .p 21 0), (1000011, .p 10 0)] [(3, some (.var (.vec 8 (vE v)))), (4, some (.var (.pv (.b false)))), (10, some (.var (.vec 8 (vE (vJoin v (knownG (T.take j))))))), (21, some (.var (hiV (buildS T) (fun _ => 0) (T.map canE))))]
theorem at_skip {v k : Vc} {r : Int} {q : Nat} (hr : 1 ≤ r ∧ r ≤ 8) (h : q ≤ v (r - 1).toNat) : vE (vJoin v (withV k r q)) = vE (vJoin v k) := vE_ext fun i hi => by
 simp only [vJoin, withV_at hr]
 split
 · rename_i e; subst e; omega
 · rfl
theorem at_go {v k : Vc} {r : Int} {q : Nat} (hr : 1 ≤ r ∧ r ≤ 8) : vE (vJoin v (withV k r q)) = vE (withV (vJoin v k) r q) := vE_ext fun i hi => by
 rw [withV_at hr]
 simp only [vJoin, withV_at hr]
 split <;> omega
set_option maxHeartbeats 16000000 in
theorem lawOrder {l : List Evt} (v0 : Vc) (hl : ∀ e ∈ l, EvRaw e) {h d} :
 FunOk Try.prog 3 [.pv (.sl false 21 (l.map evE)), .vec 8 (vE v0)] h d (.pv (.b true)) [] := by
 refine fun_pure mixed fn3 (by simp) rfl rfl fun F => ?_
 simp (disch := omega) only [ir3, go_sem]
 refine call_with okLives16 ?_
 simp (disch := omega) only [go_sem]
 refine call_with (okFits16 (l := l) rfl rfl) ?_
 by_cases hf' : FitsH l
 rotate_left
 · have hf := fitsH_f hf'
   simp (disch := omega) only [hf, go_sem]
   refine call_with okLives16 ?_
   simp (disch := omega) only [go_sem]
 have hf := fitsH_t hf'
 have hin : ∀ e ∈ l, EvIn e := fun x hx => raw_in (hl x hx) (hf'.2 x hx)
 have hl25 := hf'.1
 simp (disch := omega) only [hf, go_sem]
 refine call_with (FunOk.imp (okStartH (S := buildS []) fine0') ⟨seg0_imp, trivial⟩ (by simp [tops, tn, tops_seg])) ?_
 simp (disch := omega) only [kn_nil, List.length_map, go_sem]
 refine loop_ok mixed (stHo1 l v0) (fun k => k ≤ l.length) (fun k => l.length - k) 0 (by simp) (weak_mk ?_ ?_) fun k hk => ?_
 · simp (disch := omega) only [go_sem]
 · simp (disch := omega) only [takeL, List.take_zero, List.foldl_nil, List.map_nil, go_sem]
 by_cases hlt : k < l.length
 · have hx : l[k]? = some l[k] := List.getElem?_eq_getElem hlt
   have he : (l.map evE)[k]? = some (evE l[k]) := by rw [List.getElem?_map, hx]; rfl
   have ht := take_snoc hx
   have hsn := takeL_snoc (l.take k) l[k]
   rw [← ht] at hsn
   obtain ⟨t1, t2, t3⟩ := takeL_ok (l.take k) fun e he => (hin e (List.mem_of_mem_take he)).ev
   have tl : (takeL (l.take k)).length ≤ 25 := by have := List.length_take_le k l; omega
   have hek := hin _ (List.getElem_mem hlt)
   generalize l[k] = e at *
   have hel := evE_len e
   generalize hT : takeL (l.take k) = T at *
   have hi := val_in t1 (by omega)
   obtain ⟨a1, a2⟩ := addH_eq (e := e) t1
   simp (disch := omega) only [stHo1, hT, List.length_map, he, ld_ev, hel, go_sem]
   refine call_with (okAddH (S := buildS T) (L := T.map canE) hi hek.ev (by rw [List.length_map]; omega) rfl) ?_
   rw [a1, a2]
   simp (disch := omega) only [go_sem]
   refine loop_next (k + 1) _ _ rfl (by omega) (by omega) ?_ ?_
   · simp (disch := omega) only [go_sem]
   · simp (disch := omega) only [hsn, go_sem]
 obtain rfl : k = l.length := by omega
 have htk : l.take l.length = l := List.take_length
 obtain ⟨t1, t2, t3⟩ := takeL_ok l fun x hx => (hin x hx).ev
 simp (disch := omega) only [stHo1, htk, List.length_map, go_sem]
 generalize takeL l = T at *
 refine call_with (okKnownH (S := buildS T) (L := T.map canE) rfl) ?_
 simp (disch := omega) only [go_sem]
 refine call_with (okMeetR _ _) ?_
 have hvm : ∀ i, i < 8 → vMeet v0 (buildS T).known i ≤ knownG T i := fun i _ => by rw [bld_known]; exact Nat.min_le_right _ _
 generalize vMeet v0 (buildS T).known = v at *
 simp (disch := omega) only [go_sem]
 refine call_with (okSinceH (S := buildS T) (L := T.map canE) v (fun i _ => Nat.zero_le _) rfl) ?_
 simp (disch := omega) only [allF, go_sem]
 refine rng_ok mixed fn33 (by simp) fun l0 XI hc => ?_
 rw [enter_mk _ _ _ (by show 3 ≤ 1000000; omega)]
 simp (disch := omega) only [ir33, List.getElem?_cons_zero, ld_slE, List.length_map, go_sem]
 refine loop_ok mixed (stHo2 l0 T v) (fun k => k ≤ T.length) (fun k => T.length - k) 0 (by simp) (weak_mk ?_ ?_) fun j hj => ?_
 · simp (disch := omega) only [go_sem]
 · have e0 : vE (vJoin v (knownG [])) = vE v := vE_ext fun i hi => by simp [vJoin, knownG]
   simp (disch := omega) only [List.take_zero, e0, go_sem]
 by_cases hlt : j < T.length
 · have hx : T[j]? = some T[j] := List.getElem?_eq_getElem hlt
   have he : ((T.map canE).map evE)[j]? = some (evE (canE T[j])) := by rw [List.getElem?_map, List.getElem?_map, hx]; rfl
   have ht := take_snoc hx
   have hv : Val (T.take j ++ [T[j]]) := by
    rw [← ht]
    exact Val.pre (m := T.drop (j + 1)) (by rw [List.take_append_drop]; exact t1)
   obtain ⟨v1, v2, v3⟩ := hv.inv
   have hkn := knownG_snoc (T.take j) T[j]
   rw [← ht] at hkn
   generalize T[j] = e at *
   have ha := acc_iff.1 v3
   obtain ⟨n1, n2, n3⟩ := acc_next ha
   have hb := check_base ha.ck
   obtain ⟨_, _, b3, b4, _⟩ := hb
   rw [bld_known] at n3
   have hel := evE_len (canE e)
   have hce := canE_ev v2
   generalize hK : knownG (T.take j) = K at *
   have hid : (canE e).rep = e.rep ∧ (canE e).seq = e.seq := ⟨rfl, rfl⟩
   by_cases hh' : hasB v e.rep e.seq = true
   · have hpos := hasB_pos hh'
     have ea := at_skip (k := K) ⟨n1, n2⟩ hpos.2.2.2
     rw [← hkn] at ea
     simp (disch := omega) only [stHo2, hK, List.length_map, he, ld_ev, hel, List.getElem?_cons_zero, load_vE8, ld_evId, go_sem]
     refine call_with (okHasV _ _ _) ?_
     rw [hid.1, hid.2, hh']
     simp (disch := omega) only [go_sem]
     refine loop_next (j + 1) _ _ rfl (by omega) (by omega) ?_ ?_
     · simp (disch := omega) only [go_sem]
     · simp (disch := omega) only [ea, go_sem]
   · have hh : hasB v e.rep e.seq = false := by simpa using hh'
     have ea := at_go (v := v) (k := K) (q := e.seq) ⟨n1, n2⟩
     rw [← hkn] at ea
     have hg : getV (vJoin v K) e.rep + 1 = e.seq := by
      unfold getV; rw [if_pos ⟨n1, n2⟩]
      simp only [vJoin]
      have : ¬ hasB v (evId e).1 (evId e).2 = true := hh'
      rw [hasB_iff] at this
      simp only at this
      omega
     have hg1 : ((getV (vJoin v K) e.rep : Nat) : Int) + 1 = (e.seq : Int) := by omega
     simp (disch := omega) only [stHo2, hK, List.length_map, he, ld_ev, hel, List.getElem?_cons_zero, load_vE8, ld_evId, go_sem]
     refine call_with (okHasV _ _ _) ?_
     rw [hid.1, hid.2, hh]
     simp (disch := omega) only [ld_ev, hel, go_sem]
     refine call_with (okCloneEv (canE e) hce) ?_
     rw [canE_can]
     simp (disch := omega) only [go_sem]
     refine yld_ok mixed hc ?_ rfl fun XA XB => ?_
     · simp (disch := omega) only [go_sem]
     rw [round_mk _ _ _ _ (ps_1 50 (by decide))]
     simp (disch := omega) only [ld_ev, hel, ld_evId, go_sem]
     refine call_with (okHasR _ _ _) ?_
     rw [hid.1, hid.2, hh]
     simp (disch := omega) only [ld_ev0, ld_ev1, go_sem]
     refine call_with (okGetR _ _) ?_
     rw [hid.1]
     have hsq : ((canE e).seq : Int) = (e.seq : Int) := rfl
     simp (disch := omega) only [hsq, hg1, ld_evId, go_sem]
     refine call_with (okWithR' _ _ _) ?_
     rw [hid.1]
     have hvl := vE_length (withV (vJoin v K) e.rep e.seq)
     simp (disch := omega) only [hvl, go_sem]
     refine loop_next (j + 1) _ _ rfl (by omega) (by omega) ?_ ?_
     · simp (disch := omega) only [go_sem]
     · simp (disch := omega) only [ea, go_sem]
 · obtain rfl : j = T.length := by omega
   have htk : T.take T.length = T := List.take_length
   have ee : vE (vJoin v (knownG T)) = vE (buildS T).known := vE_ext fun i hi => by
    rw [bld_known]; have := hvm i hi; simp only [vJoin]; omega
   have hpq := peq_refl (vE (buildS T).known)
   have hfi := fitsV8 (buildS T).known
   simp (disch := omega) only [stHo2, List.length_map, htk, ee, go_sem]
   refine call_with (okKnownH (S := buildS T) (L := T.map canE) rfl) ?_
   simp (disch := omega) only [hpq, hfi, go_sem]
theorem holdsHistoryOrder {c0 c1 : List PV} (g0 : GC (.sl shEvt) c0) (g1 : GC (.arr 8 (.int .u32)) c1) {h d} :
 FunOk Try.prog 3 [toSV (.sl shEvt) c0, toSV (.arr 8 (.int .u32)) c1] h d (.pv (.b true)) [] := by
 obtain ⟨l, rfl, hl⟩ := GC_evs g0
 obtain ⟨v, rfl, _⟩ := GC_vE g1
 exact lawOrder v hl
end Go.Proofs.Ythmjebkldgdeiaa.Fw
