/- What the functions compute that the laws of this seat reach. -/
import Derived.Test.YthhomcfimdkfhaaGreatWalk2
import Derived.OpenShut
import Derived.ShutString
import Derived.ChangeOld
import Derived.SizedLaws
import Derived.ChangeOld
import Derived.Lib.Bytealg
import Derived.Lib.Overlaps
import Derived.OpenShut
import Derived.ShutString
import Derived.SizedLaws
set_option linter.unusedVariables false
set_option linter.unusedSimpArgs false
set_option linter.unusedSectionVars false
set_option maxRecDepth 100000
namespace Go.Proofs.YthhomcfimdkfhaaGreat.Fw
open Go.RowKit Go.Proofs
theorem fitsV8 (v : Vc) : fits [K1.int .u32, .int .u32, .int .u32, .int .u32, .int .u32, .int .u32, .int .u32, .int .u32] (vE v) = True := eq_true rfl
theorem fitsI8 (v : Nat → Int) : fits [K1.int .i64, .int .i64, .int .i64, .int .i64, .int .i64, .int .i64, .int .i64, .int .i64] (iE v) = True := eq_true rfl
theorem fitsW8 (v : Nat → Bool) : fits [K1.bool, .bool, .bool, .bool, .bool, .bool, .bool, .bool] (wE v) = True := eq_true rfl
theorem fitsId1 (i : Idn) : fits [K1.int .i64, .int .u32] [.i .i64 i.1, .i .u32 i.2] = True := eq_true rfl
def stEqEn (f g : Bool) (l : List Ent) (k : Nat) : FS := mk [(13, .pv (.i .i64 k)), (12, .pv (.i .i64 l.length)), (0, .pv (.sl f 15 (l.map entE))), (1, .pv (.sl g 15 (l.map entE)))] []
theorem okEqualEn {f g : Bool} {l : List Ent} {h d} (hn : l.length ≤ 1000) :
 FunOk Tryz.prog 43 [.pv (.sl f 15 (l.map entE)), .pv (.sl g 15 (l.map entE))] h d (.pv (.b true)) [] := by
 refine fun_pure mixed fn43 (by simp) rfl rfl fun F => ?_
 simp (disch := omega) only [ir43, List.length_map, go_sem]
 refine loop_ok mixed (stEqEn f g l) (fun k => k ≤ l.length) (fun k => l.length - k) 0 (by simp) (weak_mk ?_ ?_) fun k hk => ?_
 · simp (disch := omega) only [go_sem]
 · simp (disch := omega) only [go_sem]
 by_cases hlt : k < l.length
 · have h2 : (l.map entE)[k]? = some (entE l[k]) := by simp [hlt]
   generalize l[k] = v at *
   have hp := peq_refl (entE v)
   have hf := fits_ent v
   simp (disch := omega) only [stEqEn, List.length_map, h2, ld_ent, hp, hf, go_sem]
   refine loop_next (k + 1) _ _ rfl (by omega) (by omega) ?_ ?_
   · simp (disch := omega) only [go_sem]
   · simp (disch := omega) only [go_sem]
 · simp (disch := omega) only [stEqEn, List.length_map, go_sem]
def stEqVe (f g : Bool) (l : List Ver) (k : Nat) : FS := mk [(13, .pv (.i .i64 k)), (12, .pv (.i .i64 l.length)), (0, .pv (.sl f 11 (l.map verE))), (1, .pv (.sl g 11 (l.map verE)))] []
theorem okEqualVe {f g : Bool} {l : List Ver} {h d} (hn : l.length ≤ 1000) :
 FunOk Tryz.prog 46 [.pv (.sl f 11 (l.map verE)), .pv (.sl g 11 (l.map verE))] h d (.pv (.b true)) [] := by
 refine fun_pure mixed fn46 (by simp) rfl rfl fun F => ?_
 simp (disch := omega) only [ir46, List.length_map, go_sem]
 refine loop_ok mixed (stEqVe f g l) (fun k => k ≤ l.length) (fun k => l.length - k) 0 (by simp) (weak_mk ?_ ?_) fun k hk => ?_
 · simp (disch := omega) only [go_sem]
 · simp (disch := omega) only [go_sem]
 by_cases hlt : k < l.length
 · have h2 : (l.map verE)[k]? = some (verE l[k]) := by simp [hlt]
   generalize l[k] = v at *
   have hp := peq_refl (verE v)
   have hf := fits_ver v
   simp (disch := omega) only [stEqVe, List.length_map, h2, ld_ver, hp, hf, go_sem]
   refine loop_next (k + 1) _ _ rfl (by omega) (by omega) ?_ ?_
   · simp (disch := omega) only [go_sem]
   · simp (disch := omega) only [go_sem]
 · simp (disch := omega) only [stEqVe, List.length_map, go_sem]
theorem okSameOb (o : Obj) {h d} (hn : o.vers.length ≤ 1000) : FunOk Tryz.prog 45 [.vec 15 (objE o), .vec 15 (objE o)] h d (.pv (.b true)) [] := by
 refine fun_pure mixed fn45 (by simp) rfl rfl fun F => ?_
 have p1 := peq_refl [.i .i64 o.id.1, .i .u32 o.id.2]
 have p2 := peq_refl [.i .i64 o.last.1, .i .u32 o.last.2]
 have p3 := peq_refl (vE o.seen)
 have p4 := fitsV8 o.seen
 simp (disch := omega) only [ir45, ld_objId, ld_objDir, ld_objLast, ld_objName, ld_objSeen, ld_objVers, fitsId1, p1, p2, p3, p4, go_sem]
 refine call_with (okEqualVe (l := o.vers) hn) ?_
 simp (disch := omega) only [go_sem]
def stEqOb (f g : Bool) (l : List Obj) (k : Nat) : FS := mk [(17, .pv (.i .i64 k)), (16, .pv (.i .i64 l.length)), (15, .pv (.sl f 15 (l.map objE))), (1, .pv (.sl g 15 (l.map objE))), (2, .fn (.func 45) [])] []
set_option maxHeartbeats 1000000 in
theorem okEqualOb {f g : Bool} {l : List Obj} {h d} (hn : l.length ≤ 1000) (hv : ∀ o ∈ l, o.vers.length ≤ 1000) :
 FunOk Tryz.prog 44 [.pv (.sl f 15 (l.map objE)), .pv (.sl g 15 (l.map objE)), .fn (.func 45) []] h d (.pv (.b true)) [] := by
 refine fun_pure mixed fn44 (by simp) rfl rfl fun F => ?_
 simp (disch := omega) only [ir44, List.length_map, go_sem]
 refine loop_ok mixed (stEqOb f g l) (fun k => k ≤ l.length) (fun k => l.length - k) 0 (by simp) (weak_mk ?_ ?_) fun k hk => ?_
 · simp (disch := omega) only [go_sem]
 · simp (disch := omega) only [go_sem]
 by_cases hlt : k < l.length
 · have h2 : (l.map objE)[k]? = some (objE l[k]) := by simp [hlt]
   have hvk := hv _ (List.getElem_mem hlt)
   generalize l[k] = v at *
   have hol := objE_len v
   simp (disch := omega) only [stEqOb, List.length_map, h2, ld_obj, hol, go_sem]
   refine call_with (okSameOb v hvk) ?_
   simp (disch := omega) only [go_sem]
   refine loop_next (k + 1) _ _ rfl (by omega) (by omega) ?_ ?_
   · simp (disch := omega) only [go_sem]
   · simp (disch := omega) only [go_sem]
 · simp (disch := omega) only [stEqOb, List.length_map, go_sem]
theorem okSameS {s : St} (hs : Fine s) {h d} : FunOk Tryz.prog 18 [.agg (segS s), .agg (segS s)] h d (.pv (.b true)) [] := by
 refine fun_pure mixed fn18 (by simp) rfl rfl fun F => ?_
 have p1 := peq_refl (vE s.known)
 have p2 := peq_refl (iE s.wards)
 have p3 := peq_refl (wE s.ret)
 have f1 := fitsV8 s.known
 have f2 := fitsI8 s.wards
 have f3 := fitsW8 s.ret
 simp (disch := omega) only [ir18, segS, segX, p1, p2, p3, f1, f2, f3, go_sem]
 refine call_with (okEqualEn (l := s.ents) (Nat.le_trans hs.en (by omega))) ?_
 simp (disch := omega) only [go_sem]
 refine call_with (okEqualOb (l := s.objs) (Nat.le_trans hs.on (by omega)) fun o ho => Nat.le_trans (hs.ov o ho) (by omega)) ?_
 simp (disch := omega) only [go_sem]
def stSm12 (s : St) (k : Nat) : FS := mk [(5, .pv (.i .i64 k)), (2, .p 2 0), (3, .p 3 0)] [(2, some (.var (.agg (segS s)))), (3, some (.var (.agg (segS s))))]
set_option maxHeartbeats 2000000 in
theorem okSame12 {s : St} (hs : Fine s) {h d} : FunOk Tryz.prog 14 [.agg (segS s), .agg (segS s)] h d (.pv (.b true)) [] := by
 refine fun_pure mixed fn14 (by simp) rfl rfl fun F => ?_
 have p1 := peq_refl (vE s.known)
 have p2 := peq_refl (iE s.wards)
 have p3 := peq_refl (wE s.ret)
 have f1 := fitsV8 s.known
 have f2 := fitsI8 s.wards
 have f3 := fitsW8 s.ret
 simp (disch := omega) only [ir14, segS, segX, p1, p2, p3, f1, f2, f3, go_sem]
 refine call_with (okSameEn (l := s.ents) rfl rfl rfl (Nat.le_trans hs.en (by omega))) ?_
 simp (disch := omega) only [List.length_map, go_sem]
 refine loop_ok mixed (stSm12 s) (fun k => k ≤ s.objs.length) (fun k => s.objs.length - k) 0 (by simp) (weak_mk ?_ ?_) fun k hk => ?_
 · simp (disch := omega) only [go_sem]
 · simp (disch := omega) only [segS, segX, go_sem]
 by_cases hlt : k < s.objs.length
 · have h2 : (s.objs.map objE)[k]? = some (objE s.objs[k]) := by simp [hlt]
   have hvk := hs.ov _ (List.getElem_mem hlt)
   have hon := hs.on
   generalize s.objs[k] = o at *
   have hol := objE_len o
   have q1 := peq_refl [.i .i64 o.id.1, .i .u32 o.id.2]
   have q2 := peq_refl [.i .i64 o.last.1, .i .u32 o.last.2]
   have q3 := peq_refl (vE o.seen)
   have q4 := fitsV8 o.seen
   simp (disch := omega) only [stSm12, segS, segX, List.length_map, go_sem]
   refine anyP_now ?_
   simp (disch := omega) only [h2, List.length_map, ld_obj, hol, ld_objId, ld_objDir, ld_objLast, ld_objName, ld_objSeen, ld_objVers, fitsId1, q1, q2, q3, q4, go_sem]
   refine call_with (okSame (l := o.vers) (m := o.vers) rfl rfl rfl (by omega)) ?_
   simp (disch := omega) only [go_sem]
   refine loop_next (k + 1) _ _ rfl (by omega) (by omega) ?_ ?_
   · simp (disch := omega) only [go_sem]
   · simp (disch := omega) only [segS, segX, go_sem]
 · obtain rfl : k = s.objs.length := by omega
   simp (disch := omega) only [stSm12, segS, segX, List.length_map, go_sem]
set_option maxHeartbeats 1000000 in
theorem okObjectS {s : St} (i : Idn) (hs : StOk s) {h d} : FunOk Tryz.prog 15 [.agg (segS s), .vec 2 [.i .i64 i.1, .i .u32 i.2]] h d (.tup [.vec 15 (objE ((objAt s.objs i).getD obj0)), .pv (.b (objAt s.objs i).isSome)]) [] := by
 refine fun_pureI mixed fn15 (by simp) rfl rfl fun F => ?_
 have a1 := hs.fine.on
 simp (disch := omega) only [ir15, segS, segX, go_sem]
 refine call_with (okAtO (l := s.objs) i rfl rfl hs.so (by omega)) ?_
 have hiso := isO_objAt hs.so i
 cases ho : objAt s.objs i with
 | none =>
   rw [ho] at hiso
   have hiso' : isO s.objs i = false := hiso
   simp (disch := omega) only [hiso', go_sem]
   refine deep_end ?_
   simp (disch := omega) only [go_sem]
   exact tup_imp imp_obj0'
 | some o =>
   rw [ho] at hiso
   have hiso' : isO s.objs i = true := hiso
   obtain ⟨h1, h2⟩ := objAt_some ho
   have hlt := (List.getElem?_eq_some_iff.1 h1).1
   have he : (s.objs.map objE)[posO s.objs i]? = some (objE o) := by rw [List.getElem?_map, h1]; rfl
   have hol := objE_len o
   have hov := hs.fine.ov o (List.mem_of_getElem? h1)
   have hsp := spo_vers o false 11 o.vers
   simp (disch := omega) only [hiso', List.length_map, he, ld_obj, hol, ld_objVers, go_sem]
   refine call_with (okCloneVD (es := o.vers.map verE) (.inr rfl) (by rw [List.length_map]; omega)) ?_
   simp (disch := omega) only [hsp, hol, ld_obj, go_sem]
   refine deep_end ?_
   simp (disch := omega) only [hol, go_sem]
   exact Imp.refl _
end Go.Proofs.YthhomcfimdkfhaaGreat.Fw
namespace Go.Proofs.YthhomcfimdkfhaaGreat.Fw
open Go.RowKit Go.Proofs
noncomputable def stTk (f : Bool) (l : List Evt) (k : Nat) : FS := mk [(4, .pv (.i .i64 k)), (3, .os 40), (0, .pv (.sl f 21 (l.map evE)))] [(40, some (.row 21 ((takeL (l.take k)).map evE)))]
structure EvIn (e : Evt) : Prop where
 ev : ev e
 dep : ∀ i, i < 8 → e.dep i < 4294967296
set_option maxHeartbeats 4000000 in
theorem okTake {f : Bool} {l : List Evt} {h d} (hn : l.length ≤ 400) (hev : ∀ e ∈ l, EvIn e) : FunOk Tryz.prog 19 [.pv (.sl f 21 (l.map evE))] h d (.pv (.sl false 21 ((takeL l).map evE))) [] := by
 refine fun_rowD mixed fn19 (by simp) rfl fun F => ?_
 simp (disch := omega) only [ir19, go_sem]
 refine loop_ok mixed (stTk f l) (fun k => k ≤ l.length) (fun k => l.length - k) 0 (by simp) (wk_nil 3 40 21 rfl (by omega) (weak_mk ?_ ?_)) fun k hk => ?_
 · simp (disch := omega) only [go_sem]
 · simp (disch := omega) only [takeL, List.take_zero, List.foldl_nil, List.map_nil, go_sem]
 by_cases hlt : k < l.length
 · have hx : l[k]? = some l[k] := List.getElem?_eq_getElem hlt
   have he : (l.map evE)[k]? = some (evE l[k]) := by rw [List.getElem?_map, hx]; rfl
   have ht := take_snoc hx
   have hsn := takeL_snoc (l.take k) l[k]
   rw [← ht] at hsn
   obtain ⟨t1, t2, t3⟩ := takeL_ok (l.take k) fun e he => (hev e (List.mem_of_mem_take he)).ev
   have tl : (takeL (l.take k)).length ≤ 400 := by have := List.length_take_le k l; omega
   have hek := hev _ (List.getElem_mem hlt)
   generalize l[k] = e at *
   have hel := evE_len e
   generalize hT : takeL (l.take k) = T at *
   have hin := val_in t1 tl
   simp (disch := omega) only [stTk, hT, go_sem]
   refine call_with (okBuildI (val_evs t1 tl) (val_rep t1) rfl) ?_
   simp (disch := omega) only [List.length_map, he, ld_ev, hel, go_sem]
   refine ⟨rfl, call_with (okWhy hin hek.ev hek.dep) ?_⟩
   by_cases hw : whyS (buildS T) e = 0
   · have e1 : takS T e = T ++ [e] := if_pos hw
     rw [e1] at hsn
     simp (disch := omega) only [hw, List.length_map, he, ld_ev, hel, go_sem]
     refine ⟨k + 1, by omega, by omega, wk_ren 25 40 (by decide) rfl (weak_mk ?_ ?_)⟩
     · simp (disch := omega) only [go_sem]
     · simp (disch := omega) only [hsn, List.map_append, List.map_cons, List.map_nil, go_sem]
   · have e1 : takS T e = T := if_neg hw
     rw [e1] at hsn
     simp (disch := omega) only [hw, go_sem]
     refine loop_next (k + 1) _ _ rfl (by omega) (by omega) ?_ ?_
     · simp (disch := omega) only [go_sem]
     · simp (disch := omega) only [hsn, go_sem]
 · obtain rfl : k = l.length := by omega
   have htk : l.take l.length = l := List.take_length
   simp (disch := omega) only [stTk, List.length_map, htk, go_sem]
def FitE (e : Evt) : Prop := e.name.length ≤ 30 ∧ e.data.length ≤ 250 ∧ e.gone.l.length ≤ 10 ∧ e.base.l.length ≤ 10
def FitsL (l : List Evt) : Prop := l.length ≤ 30 ∧ ∀ e ∈ l, FitE e
open Classical in
noncomputable def fitsL (l : List Evt) : Bool := decide (FitsL l)
theorem fitsL_t {l : List Evt} (h : FitsL l) : fitsL l = true := by simp [fitsL, h]
theorem fitsL_f {l : List Evt} (h : ¬ FitsL l) : fitsL l = false := by simp [fitsL, h]
def stFit (f : Bool) (l : List Evt) (k : Nat) : FS := mk [(10, .pv (.i .i64 k)), (9, .pv (.i .i64 l.length)), (8, .pv (.sl f 21 (l.map evE)))] []
set_option maxHeartbeats 2000000 in
theorem okFits12 {x : SV} {f : Bool} {l : List Evt} {h d} (hx : lents h [x] = [.pv (.sl f 21 (l.map evE))]) (hl : lendable [x] = true) :
 FunOk Tryz.prog 10 [x] h d (.pv (.b (fitsL l))) [] := by
 refine fun_scalar mixed fn10 (by simp) hl rfl fun F => ?_
 rw [hx]
 by_cases h30 : 30 < (l.length : Int)
 · have hf := fitsL_f (l := l) fun h => by have := h.1; omega
   simp (disch := omega) only [ir10, List.length_map, hf, go_sem]
 simp (disch := omega) only [ir10, List.length_map, go_sem]
 refine loop_ok mixed (stFit f l) (fun k => k ≤ l.length ∧ ∀ j e, j < k → l[j]? = some e → FitE e) (fun k => l.length - k) 0 ⟨by simp, fun j e hj => absurd hj (Nat.not_lt_zero j)⟩ (weak_mk ?_ ?_) fun k hk => ?_
 · simp (disch := omega) only [List.length_map, go_sem]
 · simp (disch := omega) only [go_sem]
 obtain ⟨hk1, hk2⟩ := hk
 by_cases hlt : k < l.length
 · have hx' : l[k]? = some l[k] := List.getElem?_eq_getElem hlt
   have he : (l.map evE)[k]? = some (evE l[k]) := by rw [List.getElem?_map, hx']; rfl
   have hm := List.getElem_mem hlt
   generalize l[k] = e at *
   have hel := evE_len e
   have hg : e.gone.pv = .sl e.gone.f e.gone.z (e.gone.l.map idE) := rfl
   have hb : e.base.pv = .sl e.base.f e.base.z (e.base.l.map idE) := rfl
   have hno : ¬ FitE e → fitsL l = false := fun q => fitsL_f fun h => q (h.2 e hm)
   by_cases c1 : 30 < (e.name.length : Int)
   · have hf := hno fun q => by have := q.1; omega
     simp (disch := omega) only [stFit, List.length_map, he, ld_ev, hel, ld_ev15, c1, hf, go_sem]
   by_cases c2 : 250 < (e.data.length : Int)
   · have hf := hno fun q => by have := q.2.1; omega
     simp (disch := omega) only [stFit, List.length_map, he, ld_ev, hel, ld_ev15, c1, ld_ev19, c2, hf, go_sem]
   by_cases c3 : 10 < (e.gone.l.length : Int)
   · have hf := hno fun q => by have := q.2.2.1; omega
     simp (disch := omega) only [stFit, List.length_map, he, ld_ev, hel, ld_ev15, c1, ld_ev19, c2, ld_ev16, hg, c3, hf, go_sem]
   by_cases c4 : 10 < (e.base.l.length : Int)
   · have hf := hno fun q => by have := q.2.2.2; omega
     simp (disch := omega) only [stFit, List.length_map, he, ld_ev, hel, ld_ev15, c1, ld_ev19, c2, ld_ev16, hg, c3, ld_ev17, hb, c4, hf, go_sem]
   simp (disch := omega) only [stFit, List.length_map, he, ld_ev, hel, ld_ev15, c1, ld_ev19, c2, ld_ev16, hg, c3, ld_ev17, hb, c4, go_sem]
   refine loop_next (k + 1) _ _ rfl ⟨by omega, fun j x hj hjx => ?_⟩ (by omega) ?_ ?_
   · by_cases ej : j = k
     · subst ej; rw [hx'] at hjx; cases hjx; exact ⟨by omega, by omega, by omega, by omega⟩
     · exact hk2 j x (by omega) hjx
   · simp (disch := omega) only [go_sem]
   · simp (disch := omega) only [go_sem]
 · obtain rfl : k = l.length := by omega
   have hf := fitsL_t (l := l) ⟨by omega, fun e he => by
    obtain ⟨j, hj⟩ := List.mem_iff_getElem?.1 he
    exact hk2 j e (List.getElem?_eq_some_iff.1 hj).1 hj⟩
   simp (disch := omega) only [stFit, hf, go_sem]
def evD : Evt := ⟨1, 1, fun _ => 0, 2, 0, 0, 0, 0, [100], .nil, .nil, 0, [], 0⟩
def evF : Evt := ⟨1, 2, fun i => if i = 0 then 1 else 0, 1, 0, 0, 1, 1, [102], .nil, .nil, 0, [], 0⟩
theorem ck_D : checkB evD = true := by
 have h1 : BaseP evD := ⟨by decide, by decide, by decide, by decide, rfl, by decide, by decide⟩
 have h2 : DepP evD := fun i _ => by simp [evD]
 rw [check_zk h1 h2, zb_2 rfl, kindK_2 rfl]
 decide
theorem ck_F : checkB evF = true := by
 have h1 : BaseP evF := ⟨by decide, by decide, by decide, by decide, rfl, by decide, by decide⟩
 have h2 : DepP evF := fun i _ => by simp only [evF]; split <;> omega
 rw [check_zk h1 h2, zb_1 rfl, kindK_1 rfl]
 decide
theorem ev_D : ev evD := ⟨.inl rfl, .inl rfl, by decide, by decide, by decide⟩
theorem ev_F : ev evF := ⟨.inl rfl, .inl rfl, by decide, by decide, by decide⟩
theorem acc_D : Acc (buildS []) evD := ⟨ck_D, rfl, fun i _ => Nat.le_refl _, rfl, rfl⟩
theorem val_D : Val [evD] := Val.snoc (l := []) Val.nil ev_D (acc_iff.2 acc_D)
theorem bld_D : buildS [evD] = applyS (buildS []) evD := build_snoc (l := []) Val.nil acc_D
theorem acc_F : Acc (buildS [evD]) evF := by
 rw [bld_D]
 refine ⟨ck_F, rfl, fun i hi => ?_, rfl, ?_⟩
 · have : i = 0 ∨ i = 1 ∨ i = 2 ∨ i = 3 ∨ i = 4 ∨ i = 5 ∨ i = 6 ∨ i = 7 := by omega
   rcases this with rfl | rfl | rfl | rfl | rfl | rfl | rfl | rfl <;> decide
 · unfold whyD
   rw [if_neg (by decide), if_pos (by decide)]
   rfl
theorem val_F : Val [evD, evF] := Val.snoc (l := [evD]) val_D ev_F (acc_iff.2 acc_F)
theorem bld_F : buildS [evD, evF] = applyS (buildS [evD]) evF := build_snoc (l := [evD]) val_D acc_F
theorem objs_F : (buildS [evD, evF]).objs = [newO evD, newO evF] := by rw [bld_F, bld_D]; rfl
theorem ents_F : (buildS [evD, evF]).ents = [newEnt evD (1, 1), newEnt evF (1, 2)] := by rw [bld_F, bld_D]; rfl
theorem at_F : objAt (buildS [evD, evF]).objs (1, 2) = some (newO evF) := by rw [objs_F]; rfl
theorem tops_seg (s : St) : tops (segS s) = [] := by simp [segS, segX, tops, tn]
theorem okLives12 {h d} : FunOk Tryz.prog 9 [] h d (.pv (.b true)) [] := by
 refine fun_pure mixed fn9 (by simp) rfl rfl fun F => ?_
 have i0 := val_in Val.nil (by simp)
 have i1 := val_in val_D (by simp)
 have i2 := val_in val_F (by simp)
 have r1 : resS (buildS []) evD = buildS [evD] := resS_ok (l := []) Val.nil (acc_iff.2 acc_D)
 have w1 := acc_iff.2 acc_D
 have r2 : resS (buildS [evD]) evF = buildS [evD, evF] := resS_ok val_D (acc_iff.2 acc_F)
 have w2 := acc_iff.2 acc_F
 simp (disch := omega) only [ir9, go_sem]
 refine call_with (FunOk.imp (okApply i0 ev_D) ⟨seg0_imp, imp_agg (cs := evE evD) rfl (evE_len _), trivial⟩ (by simp [tops, tn, tops_seg])) ?_
 rw [r1, w1]
 simp (disch := omega) only [segS, segX, go_sem]
 refine call_with (FunOk.imp (okApply i1 ev_F) ⟨Imp.refl _, imp_agg (cs := evE evF) rfl (evE_len _), trivial⟩ (by simp [tops, tn, tops_seg])) ?_
 rw [r2, w2]
 simp (disch := omega) only [segS, segX, go_sem]
 refine call_with (FunOk.imp (okObjectS (s := buildS [evD, evF]) (1, 2) i2.toStOk) ⟨Imp.refl _, imp_agg (cs := idE (1, 2)) rfl rfl, trivial⟩ (by simp [tops, tn, tops_seg])) ?_
 rw [at_F]
 have hol := objE_len (newO evF)
 have hnm : (newO evF).name = [102] := rfl
 have hdr : (newO evF).dir = false := rfl
 have hlo : (buildS [evD, evF]).objs.length = 2 := by rw [objs_F]; rfl
 have hle : (buildS [evD, evF]).ents.length = 2 := by rw [ents_F]; rfl
 simp (disch := omega) only [segS, segX, hlo, hle, Option.getD_some, Option.isSome_some, List.length_map, hol, ld_objName, ld_objDir, hnm, hdr, go_sem]
 refine call_with (okSameS (s := buildS [evD, evF]) i2.fine) ?_
 simp (disch := omega) only [go_sem]
abbrev shEvt : Sh := .st [shId, .arr 8 (.int .u32), .int .i64, shId, shId, .str, .sl shId, .sl shId, .int .i64, .str, .int .i64]
theorem GC_evt {cs : List PV} (h : GC shEvt cs) : ∃ e : Evt, cs = evE e ∧ (∀ i, i < 8 → e.dep i < 4294967296) ∧ e.gone.ok ∧ e.base.ok ∧ e.name.length ≤ maxLen ∧ e.data.length ≤ maxLen := by
 simp only [GC] at h
 simp only [GCL] at h
 obtain ⟨c0, r0, rfl, g0, c1, r1, rfl, g1, c2, r2, rfl, ⟨n2, rfl, w2⟩, c3, r3, rfl, g3, c4, r4, rfl, g4, c5, r5, rfl, ⟨s5, rfl, w5⟩, c6, r6, rfl, g6, c7, r7, rfl, g7, c8, r8, rfl, ⟨n8, rfl, w8⟩, c9, r9, rfl, ⟨s9, rfl, w9⟩, c10, r10, rfl, ⟨n10, rfl, w10⟩, rfl⟩ := h
 obtain ⟨b0, rfl, hb0⟩ := GC_id (by simp only [GC]; exact g0)
 obtain ⟨a, rfl, ha⟩ := GC_vE (by simp only [GC]; exact g1)
 obtain ⟨b3, rfl, hb3⟩ := GC_id (by simp only [GC]; exact g3)
 obtain ⟨b4, rfl, hb4⟩ := GC_id (by simp only [GC]; exact g4)
 obtain ⟨e6, rfl, l6, g6⟩ := GC_sl (s := shId) (by simp only [GC]; exact g6)
 obtain ⟨e7, rfl, l7, g7⟩ := GC_sl (s := shId) (by simp only [GC]; exact g7)
 obtain ⟨m6, rfl, _⟩ := els_of (f := idE) GC_id g6
 obtain ⟨m7, rfl, _⟩ := els_of (f := idE) GC_id g7
 exact ⟨⟨b0.1, b0.2, a, n2, b3.1, b3.2, b4.1, b4.2, s5, ⟨false, 2, m6⟩, ⟨false, 2, m7⟩, n8, s9, n10⟩, by simp [evE, idE, SlI.pv]; rfl, ha, .inr rfl, .inr rfl, w5, w9⟩
structure EvRaw (e : Evt) : Prop where
 dep : ∀ i, i < 8 → e.dep i < 4294967296
 gone : e.gone.ok
 base : e.base.ok
theorem raw_in {e : Evt} (h : EvRaw e) (k : FitE e) : EvIn e := by
 obtain ⟨k1, k2, k3, k4⟩ := k
 exact ⟨⟨h.gone, h.base, by omega, by omega, by omega⟩, h.dep⟩
theorem GC_evR {cs : List PV} (h : GC shEvt cs) : ∃ e : Evt, cs = evE e ∧ EvRaw e := by
 obtain ⟨e, h1, h2, h3, h4, _, _⟩ := GC_evt h
 exact ⟨e, h1, ⟨h2, h3, h4⟩⟩
theorem GC_evs {cs : List PV} (h : GC (.sl shEvt) cs) : ∃ l : List Evt, cs = [.sl false 21 (l.map evE)] ∧ ∀ e ∈ l, EvRaw e := by
 obtain ⟨es, rfl, _, g⟩ := GC_sl h
 obtain ⟨l, rfl, hl⟩ := els_of (f := evE) (p := EvRaw) GC_evR g
 exact ⟨l, rfl, hl⟩
theorem lens_snoc {l : List Evt} {e : Evt} (h : Val l) (ha : Acc (buildS l) e) : (buildS (l ++ [e])).objs.length = (buildS l).objs.length + (if e.kind = 1 ∨ e.kind = 2 then 1 else 0) ∧ (buildS (l ++ [e])).ents.length = (buildS l).ents.length + (if e.kind = 1 ∨ e.kind = 2 ∨ e.kind = 7 then 1 else 0) := by
 obtain ⟨_, _, _, _, _, b6, b7⟩ := check_base ha.ck
 constructor
 · rw [objs_snoc h ha]
   by_cases h12 : e.kind = 1 ∨ e.kind = 2
   · have hd : (applyS (buildS l) e).objs = insO (buildS l).objs (newO e) := by
      unfold applyS doS
      rw [if_neg (by omega), if_neg (by omega), if_pos h12]; rfl
     rw [hd, insO_len, if_pos h12]
   · rw [if_neg h12]
     by_cases hk : e.kind = 3 ∨ e.kind = 4 ∨ e.kind = 5 ∨ e.kind = 6 ∨ e.kind = 7
     · obtain ⟨f0, hf0, _, _, ho, _⟩ := acc_obj h ha hk
       have hd := do_objs (s := knowS (buildS l) e) (mem_objs h.nod).1 hk ho
       unfold applyS
       rw [hd, List.length_map]; rfl
     · have hd : (applyS (buildS l) e).objs = (buildS l).objs := by
        unfold applyS doS
        by_cases h8 : e.kind = 8
        · rw [if_pos h8]; rfl
        · rw [if_neg h8, if_pos (by omega)]; rfl
       rw [hd]; rfl
 · rw [bld_entsS, bld_entsS, ents_snoc h ha]
   have hs := (mem_entsG (l := l) l h.nod).1
   have hnew : ∀ m : List Ent, (∀ x ∈ m, ∃ f ∈ l, x.id = evId f) → ∀ o, (addL m (newEnt e o)).length = m.length + 1 := fun m hm o => by
    have hl : look m (newEnt e o).id = none := look_none.2 fun x hx q => by
     obtain ⟨f, hf, hi⟩ := hm x hx
     exact acc_new h ha f hf (by rw [← hi, q]; rfl)
    unfold addL; rw [if_neg (by rw [show isE m (newEnt e o).id = false from isE_f.2 hl]; simp), len_ins]
   have hold : ∀ x ∈ entsG l l, ∃ f ∈ l, x.id = evId f := fun x hx => by
    obtain ⟨f, hf, _, rfl⟩ := ((mem_entsG (l := l) l h.nod).2 x).1 hx; exact ⟨f, hf, rfl⟩
   have hgold : ∀ x ∈ goneE e (entsG l l) (entsG l l), ∃ f ∈ l, x.id = evId f := fun x hx => by
    rw [goneE_eq hs] at hx
    obtain ⟨y, hy, rfl⟩ := List.mem_map.1 hx
    obtain ⟨f, hf, hi⟩ := hold y hy
    refine ⟨f, hf, ?_⟩
    split <;> exact hi
   by_cases h12 : e.kind = 1 ∨ e.kind = 2
   · rw [if_pos h12, if_pos (by omega), hnew _ hold]
   rw [if_neg h12]
   by_cases h7 : e.kind = 7
   · rw [if_pos h7, if_pos (by omega), hnew _ hgold, goneE_len]
   have hno : ¬ (e.kind = 1 ∨ e.kind = 2 ∨ e.kind = 7) := by omega
   rw [if_neg h7, if_neg hno]
   by_cases h6 : e.kind = 6
   · rw [if_pos h6, goneE_len]; rfl
   · rw [if_neg h6]; rfl
end Go.Proofs.YthhomcfimdkfhaaGreat.Fw
