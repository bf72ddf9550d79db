/- What the function of the law StateGrows computes, and what it leans on. -/
import Derived.Test.YthhomcfimdkfhaaGreatWalk3
import Derived.OpenShut
import Derived.ShutString
import Derived.ChangeOld
import Derived.SizedLaws
import Derived.ChangeOld
import Derived.Lib.Bytealg
import Derived.Lib.Overlaps
import Derived.OpenShut
import Derived.ShutString
import Derived.SizedLaws
set_option linter.unusedVariables false
set_option linter.unusedSimpArgs false
set_option linter.unusedSectionVars false
set_option maxRecDepth 100000
namespace Go.Proofs.YthhomcfimdkfhaaGreat.Fw
open Go.RowKit Go.Proofs
theorem u64_rem (c : Int) (n : Nat) : ∃ q : Nat, (IntKind.u64.wrap c).tmod (n : Int) = q ∧ (0 < n → q < n) := by
 have h0 := wrap_u64_mod c
 have h1 : 0 ≤ IntKind.u64.wrap c := by omega
 refine ⟨((IntKind.u64.wrap c).tmod n).toNat, ?_, fun hn => ?_⟩
 · have : 0 ≤ (IntKind.u64.wrap c).tmod n := Int.tmod_nonneg _ h1
   omega
 · have h2 := Int.tmod_lt_of_pos (IntKind.u64.wrap c) (b := (n : Int)) (by omega)
   have : 0 ≤ (IntKind.u64.wrap c).tmod n := Int.tmod_nonneg _ h1
   omega
theorem byG_le (l m : List Evt) (obj id : Idn) : vLe (byG l obj id) (byG (l ++ m) obj id) :=
 snocR (P := fun m => vLe (byG l obj id) (byG (l ++ m) obj id)) (fun i _ => by simp) (fun m e ih i hi => by
  rw [← List.append_assoc, byG_snoc]
  split
  · exact Nat.le_trans (ih i hi) (with_le i)
  · exact ih i hi) m
theorem ents_grow {l m : List Evt} (h : Val (l ++ m)) : ∀ x ∈ (buildS l).ents, ∃ y ∈ (buildS (l ++ m)).ents, y.id = x.id ∧ y.dir = x.dir ∧ y.name = x.name ∧ y.obj = x.obj ∧ vLe x.gone y.gone := fun x hx => by
 rw [bld_entsS] at hx ⊢
 obtain ⟨f, hf, hm, rfl⟩ := ((mem_entsG (l := l) l h.pre.nod).2 x).1 hx
 exact ⟨entB (l ++ m) f, ((mem_entsG (l := l ++ m) _ h.nod).2 _).2 ⟨f, List.mem_append_left _ hf, hm, rfl⟩, rfl, rfl, rfl, rfl, byG_le l m _ _⟩
structure GrewO (x y : Obj) : Prop where
 id : y.id = x.id
 dir : y.dir = x.dir
 seen : vLe x.seen y.seen
 len : x.vers.length ≤ y.vers.length
theorem GrewO.same (x : Obj) : GrewO x x := ⟨rfl, rfl, fun _ _ => Nat.le_refl _, Nat.le_refl _⟩
theorem GrewO.trans {x y z : Obj} (h : GrewO x y) (k : GrewO y z) : GrewO x z := ⟨k.id.trans h.id, k.dir.trans h.dir, fun i hi => Nat.le_trans (h.seen i hi) (k.seen i hi), Nat.le_trans h.len k.len⟩
theorem GO_grew (e : Evt) (x : Obj) : GrewO x (GO e x) := by
 unfold GO
 split
 · unfold moveO
   split
   · exact ⟨rfl, rfl, fun _ _ => Nat.le_refl _, Nat.le_refl _⟩
   · exact .same x
 · split
   · exact ⟨rfl, rfl, fun i _ => Nat.le_max_left _ _, Nat.le_refl _⟩
   · exact ⟨rfl, rfl, fun _ _ => Nat.le_refl _, by simp only [addL_len]; omega⟩
theorem objB_grow {l : List Evt} {f : Evt} (hf : f ∈ l) (m : List Evt) : Val (l ++ m) → GrewO (objB l l f) (objB (l ++ m) (l ++ m) f) :=
 snocR (P := fun m => Val (l ++ m) → GrewO (objB l l f) (objB (l ++ m) (l ++ m) f)) (fun _ => by rw [List.append_nil]; exact .same _) (fun m e ih h => by
  rw [← List.append_assoc] at h ⊢
  obtain ⟨h1, h2, h3⟩ := h.inv
  refine (ih h1).trans ?_
  rw [objB_eq h1 (acc_iff.1 h3) (List.mem_append_left _ hf)]
  split
  · exact GO_grew _ _
  · exact .same _) m
theorem objs_grow {l m : List Evt} (h : Val (l ++ m)) : ∀ x ∈ (buildS l).objs, ∃ y, objAt (buildS (l ++ m)).objs x.id = some y ∧ y ∈ (buildS (l ++ m)).objs ∧ GrewO x y := fun x hx => by
 obtain ⟨f, hf, hk, rfl⟩ := ((mem_objs h.pre.nod).2.2 x).1 hx
 obtain ⟨s1, _, m1⟩ := mem_objs h.nod
 have hm := (m1 (objB (l ++ m) (l ++ m) f)).2 ⟨f, List.mem_append_left _ hf, hk, rfl⟩
 have hg := objB_grow hf m h
 refine ⟨_, ?_, hm, hg⟩
 have := objAt_mem s1 hm
 rwa [hg.id] at this
noncomputable def stG1 (T : List Evt) (c : Int) (q j : Nat) : FS := mk [(33, .pv (.i .i64 j)), (32, .pv (.i .i64 T.length)), (31, .pv (.sl false 21 (T.map evE))), (5, .pv (.sl false 21 (T.map evE))), (1, .pv (.i .i64 c)), (6, .p 6 0), (7, .p 7 0)] [(6, some (.var (.agg (segS (buildS (if q < j then T.take (q + 1) else [])))))), (7, some (.var (.agg (segS (buildS (T.take j))))))]
def stG2 (S R : St) (k : Nat) : FS := mk [(62, .pv (.i .i64 k)), (61, .pv (.i .i64 S.ents.length)), (60, .pv (.sl false 15 (S.ents.map entE))), (6, .p 6 0), (7, .p 7 0)] [(6, some (.var (.agg (segS S)))), (7, some (.var (.agg (segS R))))]
def stG3 (S R : St) (k : Nat) (x : Ent) (p j : Nat) : FS := mk [(69, .pv (.i .i64 j)), (68, .pv (.i .i64 R.ents.length)), (67, .pv (.sl false 15 (R.ents.map entE))), (14, .pv (.b (decide (p < j)))), (13, .p 13 0), (62, .pv (.i .i64 k)), (61, .pv (.i .i64 S.ents.length)), (60, .pv (.sl false 15 (S.ents.map entE))), (6, .p 6 0), (7, .p 7 0)] [(13, some (.var (.vec 15 (entE x)))), (6, some (.var (.agg (segS S)))), (7, some (.var (.agg (segS R))))]
def stG4 (S R : St) (k : Nat) : FS := mk [(116, .pv (.i .i64 k)), (115, .pv (.i .i64 S.objs.length)), (114, .pv (.sl false 15 (S.objs.map objE))), (6, .p 6 0), (7, .p 7 0)] [(6, some (.var (.agg (segS S)))), (7, some (.var (.agg (segS R))))]
set_option maxHeartbeats 16000000 in
theorem lawGrows {l : List Evt} (c : Int) (hl : ∀ e ∈ l, EvRaw e) {h d} :
 FunOk Tryz.prog 7 [.pv (.sl false 21 (l.map evE)), .pv (.i .i64 c)] h d (.pv (.b true)) [] := by
 refine fun_pure mixed fn7 (by simp) rfl rfl fun F => ?_
 simp (disch := omega) only [ir7, go_sem]
 refine call_with okLives12 ?_
 simp (disch := omega) only [go_sem]
 refine call_with (okFits12 (l := l) rfl rfl) ?_
 by_cases hf' : FitsL l
 rotate_left
 · have hf := fitsL_f hf'
   simp (disch := omega) only [hf, go_sem]
   refine call_with okLives12 ?_
   simp (disch := omega) only [go_sem]
 have hf := fitsL_t hf'
 have hin : ∀ e ∈ l, EvIn e := fun x hx => raw_in (hl x hx) (hf'.2 x hx)
 obtain ⟨t1, t2, t3⟩ := takeL_ok l fun x hx => (hin x hx).ev
 have hl30 := hf'.1
 simp (disch := omega) only [hf, go_sem]
 refine call_with (okTake (l := l) (by omega) hin) ?_
 generalize takeL l = T at *
 obtain ⟨q, hq, hqn⟩ := u64_rem c T.length
 simp (disch := omega) only [List.length_map, go_sem]
 refine loop_ok mixed (stG1 T c q) (fun k => k ≤ T.length) (fun k => T.length - k) 0 (by simp) (weak_mk ?_ ?_) fun k hk => ?_
 · simp (disch := omega) only [go_sem]
 · simp (disch := omega) only [List.take_zero, Nat.not_lt_zero, go_sem]
   exact ⟨seg0_imp, rfl⟩
 by_cases hlt : k < T.length
 · have hx : T[k]? = some T[k] := List.getElem?_eq_getElem hlt
   have he : (T.map evE)[k]? = some (evE T[k]) := by rw [List.getElem?_map, hx]; rfl
   have ht := take_snoc hx
   have hv : Val (T.take k ++ [T[k]]) := by
    rw [← ht]
    exact Val.pre (m := T.drop (k + 1)) (by rw [List.take_append_drop]; exact t1)
   obtain ⟨v1, v2, v3⟩ := hv.inv
   have hres := resS_ok v1 v3
   rw [← ht] at hres
   generalize T[k] = e at *
   have hel := evE_len e
   have hi := val_in v1 (by have := List.length_take_le k T; omega)
   have hi2 := val_in (l := T.take (k + 1)) (by rw [ht]; exact hv) (by have := List.length_take_le (k + 1) T; omega)
   simp (disch := omega) only [stG1, segS, segX, List.length_map, he, ld_ev, hel, go_sem]
   refine call_with (okApply (s := buildS (T.take k)) hi v2) ?_
   rw [hres, v3]
   by_cases hkq : k = q
   · subst hkq
     simp (disch := omega) only [segS, segX, hq, go_sem]
     refine call_with (okCloneSD (s := buildS (T.take (k + 1))) hi2.fine) ?_
     have e1 : k < k + 1 := by omega
     simp (disch := omega) only [segS, segX, go_sem]
     refine loop_next (k + 1) _ _ rfl (by omega) (by omega) ?_ ?_
     · simp (disch := omega) only [go_sem]
     · simp (disch := omega) only [segS, segX, e1, go_sem]
   · have e1 : (k : Int) ≠ (q : Int) := by omega
     have e2 : (if q < k then T.take (q + 1) else []) = if q < k + 1 then T.take (q + 1) else [] := by
      by_cases hz : q < k
      · rw [if_pos hz, if_pos (by omega)]
      · rw [if_neg hz, if_neg (by omega)]
     simp (disch := omega) only [segS, segX, hq, e1, go_sem]
     refine loop_next (k + 1) _ _ rfl (by omega) (by omega) ?_ ?_
     · simp (disch := omega) only [go_sem]
     · simp (disch := omega) only [segS, segX, e2, go_sem]
 obtain rfl : k = T.length := by omega
 have htk : T.take T.length = T := List.take_length
 obtain ⟨A, B, hA, hT⟩ : ∃ A B, (if q < T.length then T.take (q + 1) else []) = A ∧ T = A ++ B := by
  by_cases hz : q < T.length
  · exact ⟨T.take (q + 1), T.drop (q + 1), if_pos hz, (List.take_append_drop _ _).symm⟩
  · exact ⟨[], T, if_neg hz, rfl⟩
 have hAB : Val (A ++ B) := hT ▸ t1
 have hlA : A.length ≤ 30 := by rw [hT, List.length_append] at t2; omega
 have iA := val_in hAB.pre (by omega)
 have iT := val_in t1 (by omega)
 have gE := ents_grow hAB
 have gO := objs_grow hAB
 have gK : vLe (buildS A).known (buildS T).known := by rw [bld_known, bld_known, hT]; exact knownG_app A B
 rw [← hT] at gE gO
 have sT := (mem_entsG (l := T) T t1.nod).1
 rw [← bld_entsS] at sT
 simp (disch := omega) only [stG1, segS, segX, htk, hA, List.length_map, go_sem]
 generalize buildS A = S at *
 generalize buildS T = R at *
 have en := iA.fine.en
 have on := iA.fine.on
 have en2 := iT.fine.en
 refine loop_ok mixed (stG2 S R) (fun k => k ≤ S.ents.length) (fun k => S.ents.length - k) 0 (by simp) (weak_mk ?_ ?_) fun k hk => ?_
 · simp (disch := omega) only [go_sem]
 · simp (disch := omega) only [segS, segX, go_sem]
 by_cases hlt : k < S.ents.length
 · have hx : S.ents[k]? = some S.ents[k] := List.getElem?_eq_getElem hlt
   have he : (S.ents.map entE)[k]? = some (entE S.ents[k]) := by rw [List.getElem?_map, hx]; rfl
   obtain ⟨y0, hy0, y1, y2, y3, y4, y5⟩ := gE _ (List.getElem_mem hlt)
   generalize S.ents[k] = x at *
   obtain ⟨p, hp⟩ := List.mem_iff_getElem?.1 hy0
   have hpl := (List.getElem?_eq_some_iff.1 hp).1
   have hel := entE_len x
   simp (disch := omega) only [stG2, segS, segX, List.length_map, he, ld_ent, hel, go_sem]
   refine loop_ok mixed (stG3 S R k x p) (fun j => j ≤ R.ents.length) (fun j => R.ents.length - j) 0 (by simp) (weak_mk ?_ ?_) fun j hj => ?_
   · simp (disch := omega) only [Nat.not_lt_zero, go_sem]
   · simp (disch := omega) only [segS, segX, go_sem]
   by_cases hjl : j < R.ents.length
   · have hxj : R.ents[j]? = some R.ents[j] := List.getElem?_eq_getElem hjl
     have hej : (R.ents.map entE)[j]? = some (entE R.ents[j]) := by rw [List.getElem?_map, hxj]; rfl
     generalize R.ents[j] = y at *
     have hely := entE_len y
     rcases Nat.lt_trichotomy j p with hjp | hjp | hjp
     · have hne : y.id ≠ x.id := fun q => by
        have := sort_get sT hxj hp hjp
        rw [q, y1] at this; exact ilt_irr this
       have hpq := peqI_f hne
       have d1 : decide (p < j) = false := decide_eq_false (by omega)
       have d2 : decide (p < j + 1) = false := decide_eq_false (by omega)
       simp (disch := omega) only [stG3, segS, segX, List.length_map, hej, ld_ent, hely, d1, ld_entId, fits_id, fitsId2, hpq, go_sem]
       refine loop_next (j + 1) _ _ rfl (by omega) (by omega) ?_ ?_
       · simp (disch := omega) only [d2, go_sem]
       · simp (disch := omega) only [segS, segX, go_sem]
     · subst hjp
       rw [hxj] at hp; cases hp
       have hpq := peqI_t y1
       have hpd := peqI_t y2
       have hpo := peqI_t y4
       have d1 : decide (j < j) = false := decide_eq_false (by omega)
       have d2 : decide (j < j + 1) = true := decide_eq_true (by omega)
       have d3 := decide_eq_true y5
       simp (disch := omega) only [stG3, segS, segX, List.length_map, hej, ld_ent, hely, d1, ld_entId, ld_entDir, ld_entName, ld_entObj, ld_entBy, fits_id, fitsId2, hpq, hpd, hpo, y3, go_sem]
       refine call_with (okLeqR _ _) ?_
       simp (disch := omega) only [d3, go_sem]
       refine loop_next (j + 1) _ _ rfl (by omega) (by omega) ?_ ?_
       · simp (disch := omega) only [d2, go_sem]
       · simp (disch := omega) only [segS, segX, go_sem]
     · have d1 : decide (p < j) = true := decide_eq_true (by omega)
       have d2 : decide (p < j + 1) = true := decide_eq_true (by omega)
       simp (disch := omega) only [stG3, segS, segX, List.length_map, hej, ld_ent, hely, d1, go_sem]
       refine loop_next (j + 1) _ _ rfl (by omega) (by omega) ?_ ?_
       · simp (disch := omega) only [d2, go_sem]
       · simp (disch := omega) only [segS, segX, go_sem]
   · have d1 : decide (p < j) = true := decide_eq_true (by omega)
     simp (disch := omega) only [stG3, segS, segX, List.length_map, d1, go_sem]
     refine loop_next (k + 1) _ _ rfl (by omega) (by omega) ?_ ?_
     · simp (disch := omega) only [go_sem]
     · simp (disch := omega) only [segS, segX, go_sem]
 simp (disch := omega) only [stG2, segS, segX, List.length_map, go_sem]
 refine loop_ok mixed (stG4 S R) (fun k => k ≤ S.objs.length) (fun k => S.objs.length - k) 0 (by simp) (weak_mk ?_ ?_) fun k hk => ?_
 · simp (disch := omega) only [go_sem]
 · simp (disch := omega) only [segS, segX, go_sem]
 by_cases hlt : k < S.objs.length
 · have hx : S.objs[k]? = some S.objs[k] := List.getElem?_eq_getElem hlt
   have he : (S.objs.map objE)[k]? = some (objE S.objs[k]) := by rw [List.getElem?_map, hx]; rfl
   obtain ⟨y, hy, _, g⟩ := gO _ (List.getElem_mem hlt)
   generalize S.objs[k] = x at *
   have hel := objE_len x
   have hely := objE_len y
   have gd := g.dir
   have gs := decide_eq_true g.seen
   have gl : ¬ (y.vers.length : Int) < (x.vers.length : Int) := by have := g.len; omega
   simp (disch := omega) only [stG4, segS, segX, List.length_map, he, ld_obj, hel, ld_objId, go_sem]
   refine call_with (okObjectS (s := R) x.id iT.toStOk) ?_
   rw [hy]
   simp (disch := omega) only [Option.getD_some, Option.isSome_some, hely, ld_objDir, gd, ld_objSeen, go_sem]
   refine call_with (okLeqR _ _) ?_
   simp (disch := omega) only [gs, ld_objVers, List.length_map, gl, go_sem]
   refine loop_next (k + 1) _ _ rfl (by omega) (by omega) ?_ ?_
   · simp (disch := omega) only [go_sem]
   · simp (disch := omega) only [segS, segX, go_sem]
 have gk := decide_eq_true gK
 simp (disch := omega) only [stG4, segS, segX, List.length_map, go_sem]
 refine call_with (okLeqR _ _) ?_
 simp (disch := omega) only [gk, go_sem]
theorem holdsStateGrows {c0 c1 : List PV} (g0 : GC (.sl shEvt) c0) (g1 : GC (.int .i64) c1) {h d} :
 FunOk Tryz.prog 7 [toSV (.sl shEvt) c0, toSV (.int .i64) c1] h d (.pv (.b true)) [] := by
 obtain ⟨l, rfl, hl⟩ := GC_evs g0
 simp only [GC] at g1
 obtain ⟨n, rfl, hn⟩ := g1
 exact lawGrows n hl
end Go.Proofs.YthhomcfimdkfhaaGreat.Fw
