/- What the functions that the law BagPlays reaches compute. -/
import Derived.Test.YtfkmlmckihmihaaWalkBagPlays2
import Derived.OpenShut
import Derived.ShutString
import Derived.ChangeOld
import Derived.SizedLaws
import Derived.ChangeOld
import Derived.Lib.Bytealg
import Derived.OpenShut
import Derived.ShutString
import Derived.SizedLaws
set_option linter.unusedVariables false
set_option linter.unusedSimpArgs false
set_option linter.unusedSectionVars false
set_option maxRecDepth 100000
namespace Go.Proofs.Ytfkmlmckihmihaa.Fw
open Go.RowKit Go.Proofs
theorem sameM_refl (m : Msg) : sameM (canM m) m = true := by
 rw [sameM_can]
 have h := sameM_self m
 have e : sameM m (canM m) = sameM m m := by
  show (decide (m.k = m.k) && (decide (m.fr = m.fr) && (decide (m.to = m.to) && (decide (vEq m.kn m.kn) && (decide (tEq m.tb m.tb) && sameL m.evs (m.evs.map canon)))))) = _
  have e2 : ∀ l m : List Evt, sameL l (m.map canon) = sameL l m := by
   intro l m
   unfold sameL
   rw [List.length_map]
   congr 1
   induction l generalizing m with
   | nil => rfl
   | cons e l ih =>
     cases m with
     | nil => rfl
     | cons x m => simp only [List.map_cons, List.zip_cons_cons, List.all_cons, ih]; rfl
  rw [e2]; rfl
 rw [← e]; exact h
theorem okSame0 {h d} : FunOk Try.prog 15 [.agg seg0, .agg seg0] h d (.pv (.b true)) [] := by
 have e : sameM zeroM zeroM = true := sameM_refl zeroM
 have := (okSameM zeroM zeroM zeroM_mv zeroM_mv (h := h) (d := d)).imp (args := [.agg seg0, .agg seg0]) ⟨imp_agg (segM_cells zeroM) (msgE_len zeroM), imp_agg (segM_cells zeroM) (msgE_len zeroM), trivial⟩ (by simp [tops, tn])
 rwa [e] at this
set_option maxHeartbeats 16000000 in
theorem okStep {M : List Msg} {most most' : Int} (a : Act) (hmm : ∀ n : Nat, most' ≤ (n : Int) ↔ most ≤ (n : Int)) (hmv : mv a.m) (hM : ∀ m ∈ M, mv m ∧ checkM m = true) (hn : M.length ≤ 100) :
 ∃ M' : List Msg, (∀ m ∈ M', mv m ∧ checkM m = true) ∧ M'.length ≤ M.length + 1 ∧ ∀ {g : Nat} {h : Nat → Option Blk} {d : Nat}, h g = some (.var (bagV false 1 (M.map writeM) most')) →
  FunOk Try.prog 19 [.p g 0, refV M most, .vec 78 (actE a)] h d (.tup [refV M' most, .pv (.b true)]) [.upd g (.var (bagV false 1 (M'.map writeM) most'))] := by
 obtain ⟨q, hq, hq7⟩ : ∃ q : Nat, (IntKind.u64.wrap a.kind).tmod 7 = q ∧ q < 7 := by
  have h0 := wrap_u64_mod a.kind
  have h1 : 0 ≤ IntKind.u64.wrap a.kind := by omega
  refine ⟨((IntKind.u64.wrap a.kind).tmod 7).toNat, ?_, ?_⟩ <;> rw [Int.tmod_eq_emod_of_nonneg h1] <;> omega
 have hWl : (M.map writeM).length = M.length := List.length_map _
 have hMl : (M.map writeM).length ≤ 1000 := by omega
 have hq3 : q = 3 ∨ ¬ (q : Int) = 3 := by omega
 have hq4 : q = 4 ∨ ¬ (q : Int) = 4 := by omega
 have hq5 : q = 5 ∨ ¬ (q : Int) = 5 := by omega
 have hq6 : q = 6 ∨ ¬ (q : Int) = 6 := by omega
 have hfull := hmm M.length
 by_cases hput : ¬ (q : Int) = 3 ∧ ¬ (q : Int) = 4 ∧ ¬ (q : Int) = 5 ∧ ¬ (q : Int) = 6
 · obtain ⟨n3, n4, n5, n6⟩ := hput
   by_cases hc : checkM a.m = true
   rotate_left
   · have hc' : checkM a.m = false := by simpa using hc
     refine ⟨M, hM, (by omega), fun {g h d} hg => ?_⟩
     refine FunOk.io (fun h d hg => ?_) rfl rfl rfl rfl hg
     refine fun_io1 (g := 900) mixed fn19 (by simp) (by simp [tops, tn, refV]) (by simp [tops, tn]) hg rfl (by simp [Blk.ptr, SV.kill]) rfl (fun _ => rfl) fun F => ?_
     (try simp only [bK1, bK2, bK3, bK4, bK5, bK6, bK7, bK8]); simp (maxSteps := 10000000) (disch := omega) only [ir19, Blk.ptr, refV, hq, n3, n4, n5, n6, go_sem, ↓reduceIte, Nat.reduceEqDiff, Nat.reduceSub, Nat.reduceLeDiff, Nat.reduceAdd, Int.reduceEq, Int.reduceLT, Int.reduceLE]
     refine call_with (okPutB_bad a.m hmv hc' rfl) ?_
     (try simp only [bK1, bK2, bK3, bK4, bK5, bK6, bK7, bK8]); simp (maxSteps := 10000000) (disch := omega) only [go_sem, ↓reduceIte, Nat.reduceEqDiff, Nat.reduceSub, Nat.reduceLeDiff, Nat.reduceAdd, Int.reduceEq, Int.reduceLT, Int.reduceLE]
     refine call_with (okPutR_bad a.m hmv hc') ?_
     (try simp only [bK1, bK2, bK3, bK4, bK5, bK6, bK7, bK8]); simp (maxSteps := 10000000) (disch := omega) only [refV, go_sem, ↓reduceIte, Nat.reduceEqDiff, Nat.reduceSub, Nat.reduceLeDiff, Nat.reduceAdd, Int.reduceEq, Int.reduceLT, Int.reduceLE]
     refine ⟨_, .same _, ?_⟩
     (try simp only [bK1, bK2, bK3, bK4, bK5, bK6, bK7, bK8]); simp (maxSteps := 10000000) (disch := omega) only [refV, go_sem, ↓reduceIte, Nat.reduceEqDiff, Nat.reduceSub, Nat.reduceLeDiff, Nat.reduceAdd, Int.reduceEq, Int.reduceLT, Int.reduceLE]
     exact ⟨900, rfl, rfl⟩
   by_cases hf : most ≤ (M.length : Int)
   ·
    refine ⟨M, hM, (by omega), fun {g h d} hg => ?_⟩
    refine FunOk.io (fun h d hg => ?_) rfl rfl rfl rfl hg
    refine fun_io1 (g := 900) mixed fn19 (by simp) (by simp [tops, tn, refV]) (by simp [tops, tn]) hg rfl (by simp [Blk.ptr, SV.kill]) rfl (fun _ => rfl) fun F => ?_
    (try simp only [bK1, bK2, bK3, bK4, bK5, bK6, bK7, bK8]); simp (maxSteps := 10000000) (disch := omega) only [ir19, Blk.ptr, refV, hq, n3, n4, n5, n6, go_sem, ↓reduceIte, Nat.reduceEqDiff, Nat.reduceSub, Nat.reduceLeDiff, Nat.reduceAdd, Int.reduceEq, Int.reduceLT, Int.reduceLE]
    refine call_with (okPutB_full a.m hmv hc (by rw [hWl]; exact hfull.2 hf) rfl) ?_
    (try simp only [bK1, bK2, bK3, bK4, bK5, bK6, bK7, bK8]); simp (maxSteps := 10000000) (disch := omega) only [go_sem, ↓reduceIte, Nat.reduceEqDiff, Nat.reduceSub, Nat.reduceLeDiff, Nat.reduceAdd, Int.reduceEq, Int.reduceLT, Int.reduceLE]
    refine call_with (okPutR_full a.m hmv hc hf) ?_
    (try simp only [bK1, bK2, bK3, bK4, bK5, bK6, bK7, bK8]); simp (maxSteps := 10000000) (disch := omega) only [refV, go_sem, ↓reduceIte, Nat.reduceEqDiff, Nat.reduceSub, Nat.reduceLeDiff, Nat.reduceAdd, Int.reduceEq, Int.reduceLT, Int.reduceLE]
    refine ⟨_, .same _, ?_⟩
    (try simp only [bK1, bK2, bK3, bK4, bK5, bK6, bK7, bK8]); simp (maxSteps := 10000000) (disch := omega) only [refV, go_sem, ↓reduceIte, Nat.reduceEqDiff, Nat.reduceSub, Nat.reduceLeDiff, Nat.reduceAdd, Int.reduceEq, Int.reduceLT, Int.reduceLE]
    exact ⟨900, rfl, rfl⟩
   · have hf' : ¬ most' ≤ ((M.map writeM).length : Int) := by rw [hWl]; exact fun h => hf (hfull.1 h)
     refine ⟨M ++ [a.m], (fun m hm => (List.mem_append.1 hm).elim (hM m) fun h => by rw [List.mem_singleton.1 h]; exact ⟨hmv, hc⟩), (by simp), fun {g h d} hg => ?_⟩
     refine FunOk.io (fun h d hg => ?_) rfl rfl rfl rfl hg
     refine fun_io1 (g := 900) mixed fn19 (by simp) (by simp [tops, tn, refV]) (by simp [tops, tn]) hg rfl (by simp [Blk.ptr, SV.kill]) rfl (fun _ => rfl) fun F => ?_
     (try simp only [bK1, bK2, bK3, bK4, bK5, bK6, bK7, bK8]); simp (maxSteps := 10000000) (disch := omega) only [ir19, Blk.ptr, refV, hq, n3, n4, n5, n6, go_sem, ↓reduceIte, Nat.reduceEqDiff, Nat.reduceSub, Nat.reduceLeDiff, Nat.reduceAdd, Int.reduceEq, Int.reduceLT, Int.reduceLE]
     refine call_with (okPutB a.m hmv hc hf' (.inr rfl) hMl rfl) ?_
     rw [show M.map writeM ++ [writeM a.m] = (M ++ [a.m]).map writeM by simp]
     (try simp only [bK1, bK2, bK3, bK4, bK5, bK6, bK7, bK8]); simp (maxSteps := 10000000) (disch := omega) only [go_sem, ↓reduceIte, Nat.reduceEqDiff, Nat.reduceSub, Nat.reduceLeDiff, Nat.reduceAdd, Int.reduceEq, Int.reduceLT, Int.reduceLE]
     refine call_with (okPutR a.m hmv hc hf (by omega)) ?_
     (try simp only [bK1, bK2, bK3, bK4, bK5, bK6, bK7, bK8]); simp (maxSteps := 10000000) (disch := omega) only [refV, go_sem, ↓reduceIte, Nat.reduceEqDiff, Nat.reduceSub, Nat.reduceLeDiff, Nat.reduceAdd, Int.reduceEq, Int.reduceLT, Int.reduceLE]
     refine ⟨_, .same _, ?_⟩
     (try simp only [bK1, bK2, bK3, bK4, bK5, bK6, bK7, bK8]); simp (maxSteps := 10000000) (disch := omega) only [refV, go_sem, ↓reduceIte, Nat.reduceEqDiff, Nat.reduceSub, Nat.reduceLeDiff, Nat.reduceAdd, Int.reduceEq, Int.reduceLT, Int.reduceLE]
     exact ⟨900, rfl, rfl⟩
 by_cases hv : 0 ≤ a.at_ ∧ a.at_ < ((M.map writeM).length : Int)
 rotate_left
 · have hv' : ¬ (0 ≤ a.at_ ∧ a.at_ < (M.length : Int)) := by rw [hWl] at hv; exact hv
   rcases hq3 with rfl | n3
   · have z : ((3 : Nat) : Int) = 3 := rfl
     refine ⟨M, hM, (by omega), fun {g h d} hg => ?_⟩
     refine FunOk.io (fun h d hg => ?_) rfl rfl rfl rfl hg
     refine fun_io1 (g := 900) mixed fn19 (by simp) (by simp [tops, tn, refV]) (by simp [tops, tn]) hg rfl (by simp [Blk.ptr, SV.kill]) rfl (fun _ => rfl) fun F => ?_
     (try simp only [bK1, bK2, bK3, bK4, bK5, bK6, bK7, bK8]); simp (maxSteps := 10000000) (disch := omega) only [ir19, Blk.ptr, refV, hq, z, go_sem, ↓reduceIte, Nat.reduceEqDiff, Nat.reduceSub, Nat.reduceLeDiff, Nat.reduceAdd, Int.reduceEq, Int.reduceLT, Int.reduceLE]
     refine call_with (okTakeB_bad hv rfl) ?_
     (try simp only [bK1, bK2, bK3, bK4, bK5, bK6, bK7, bK8]); simp (maxSteps := 10000000) (disch := omega) only [go_sem, ↓reduceIte, Nat.reduceEqDiff, Nat.reduceSub, Nat.reduceLeDiff, Nat.reduceAdd, Int.reduceEq, Int.reduceLT, Int.reduceLE]
     refine call_with (okTakeR_bad hv') ?_
     (try simp only [bK1, bK2, bK3, bK4, bK5, bK6, bK7, bK8]); simp (maxSteps := 10000000) (disch := omega) only [refV, go_sem, ↓reduceIte, Nat.reduceEqDiff, Nat.reduceSub, Nat.reduceLeDiff, Nat.reduceAdd, Int.reduceEq, Int.reduceLT, Int.reduceLE]
     refine call_with okSame0 ?_
     (try simp only [bK1, bK2, bK3, bK4, bK5, bK6, bK7, bK8]); simp (maxSteps := 10000000) (disch := omega) only [go_sem, ↓reduceIte, Nat.reduceEqDiff, Nat.reduceSub, Nat.reduceLeDiff, Nat.reduceAdd, Int.reduceEq, Int.reduceLT, Int.reduceLE]
     refine ⟨_, .same _, ?_⟩
     (try simp only [bK1, bK2, bK3, bK4, bK5, bK6, bK7, bK8]); simp (maxSteps := 10000000) (disch := omega) only [refV, go_sem, ↓reduceIte, Nat.reduceEqDiff, Nat.reduceSub, Nat.reduceLeDiff, Nat.reduceAdd, Int.reduceEq, Int.reduceLT, Int.reduceLE]
     exact ⟨900, rfl, rfl⟩
   rcases hq4 with rfl | n4
   · have z : ((4 : Nat) : Int) = 4 := rfl
     refine ⟨M, hM, (by omega), fun {g h d} hg => ?_⟩
     refine FunOk.io (fun h d hg => ?_) rfl rfl rfl rfl hg
     refine fun_io1 (g := 900) mixed fn19 (by simp) (by simp [tops, tn, refV]) (by simp [tops, tn]) hg rfl (by simp [Blk.ptr, SV.kill]) rfl (fun _ => rfl) fun F => ?_
     (try simp only [bK1, bK2, bK3, bK4, bK5, bK6, bK7, bK8]); simp (maxSteps := 10000000) (disch := omega) only [ir19, Blk.ptr, refV, hq, z, go_sem, ↓reduceIte, Nat.reduceEqDiff, Nat.reduceSub, Nat.reduceLeDiff, Nat.reduceAdd, Int.reduceEq, Int.reduceLT, Int.reduceLE]
     refine call_with (okCopyB_bad hv rfl) ?_
     (try simp only [bK1, bK2, bK3, bK4, bK5, bK6, bK7, bK8]); simp (maxSteps := 10000000) (disch := omega) only [go_sem, ↓reduceIte, Nat.reduceEqDiff, Nat.reduceSub, Nat.reduceLeDiff, Nat.reduceAdd, Int.reduceEq, Int.reduceLT, Int.reduceLE]
     refine call_with (okCopyR_bad hv') ?_
     (try simp only [bK1, bK2, bK3, bK4, bK5, bK6, bK7, bK8]); simp (maxSteps := 10000000) (disch := omega) only [refV, go_sem, ↓reduceIte, Nat.reduceEqDiff, Nat.reduceSub, Nat.reduceLeDiff, Nat.reduceAdd, Int.reduceEq, Int.reduceLT, Int.reduceLE]
     refine ⟨_, .same _, ?_⟩
     (try simp only [bK1, bK2, bK3, bK4, bK5, bK6, bK7, bK8]); simp (maxSteps := 10000000) (disch := omega) only [refV, go_sem, ↓reduceIte, Nat.reduceEqDiff, Nat.reduceSub, Nat.reduceLeDiff, Nat.reduceAdd, Int.reduceEq, Int.reduceLT, Int.reduceLE]
     exact ⟨900, rfl, rfl⟩
   rcases hq5 with rfl | n5
   · have z : ((5 : Nat) : Int) = 5 := rfl
     refine ⟨M, hM, (by omega), fun {g h d} hg => ?_⟩
     refine FunOk.io (fun h d hg => ?_) rfl rfl rfl rfl hg
     refine fun_io1 (g := 900) mixed fn19 (by simp) (by simp [tops, tn, refV]) (by simp [tops, tn]) hg rfl (by simp [Blk.ptr, SV.kill]) rfl (fun _ => rfl) fun F => ?_
     (try simp only [bK1, bK2, bK3, bK4, bK5, bK6, bK7, bK8]); simp (maxSteps := 10000000) (disch := omega) only [ir19, Blk.ptr, refV, hq, z, go_sem, ↓reduceIte, Nat.reduceEqDiff, Nat.reduceSub, Nat.reduceLeDiff, Nat.reduceAdd, Int.reduceEq, Int.reduceLT, Int.reduceLE]
     refine call_with (okLateB_bad hv rfl) ?_
     (try simp only [bK1, bK2, bK3, bK4, bK5, bK6, bK7, bK8]); simp (maxSteps := 10000000) (disch := omega) only [go_sem, ↓reduceIte, Nat.reduceEqDiff, Nat.reduceSub, Nat.reduceLeDiff, Nat.reduceAdd, Int.reduceEq, Int.reduceLT, Int.reduceLE]
     refine call_with (okLateR_bad hv') ?_
     (try simp only [bK1, bK2, bK3, bK4, bK5, bK6, bK7, bK8]); simp (maxSteps := 10000000) (disch := omega) only [refV, go_sem, ↓reduceIte, Nat.reduceEqDiff, Nat.reduceSub, Nat.reduceLeDiff, Nat.reduceAdd, Int.reduceEq, Int.reduceLT, Int.reduceLE]
     refine ⟨_, .same _, ?_⟩
     (try simp only [bK1, bK2, bK3, bK4, bK5, bK6, bK7, bK8]); simp (maxSteps := 10000000) (disch := omega) only [refV, go_sem, ↓reduceIte, Nat.reduceEqDiff, Nat.reduceSub, Nat.reduceLeDiff, Nat.reduceAdd, Int.reduceEq, Int.reduceLT, Int.reduceLE]
     exact ⟨900, rfl, rfl⟩
   rcases hq6 with rfl | n6
   · have z : ((6 : Nat) : Int) = 6 := rfl
     refine ⟨M, hM, (by omega), fun {g h d} hg => ?_⟩
     refine FunOk.io (fun h d hg => ?_) rfl rfl rfl rfl hg
     refine fun_io1 (g := 900) mixed fn19 (by simp) (by simp [tops, tn, refV]) (by simp [tops, tn]) hg rfl (by simp [Blk.ptr, SV.kill]) rfl (fun _ => rfl) fun F => ?_
     (try simp only [bK1, bK2, bK3, bK4, bK5, bK6, bK7, bK8]); simp (maxSteps := 10000000) (disch := omega) only [ir19, Blk.ptr, refV, hq, z, go_sem, ↓reduceIte, Nat.reduceEqDiff, Nat.reduceSub, Nat.reduceLeDiff, Nat.reduceAdd, Int.reduceEq, Int.reduceLT, Int.reduceLE]
     refine call_with (okAtB_bad hv rfl) ?_
     (try simp only [bK1, bK2, bK3, bK4, bK5, bK6, bK7, bK8]); simp (maxSteps := 10000000) (disch := omega) only [go_sem, ↓reduceIte, Nat.reduceEqDiff, Nat.reduceSub, Nat.reduceLeDiff, Nat.reduceAdd, Int.reduceEq, Int.reduceLT, Int.reduceLE]
     refine call_with (okAtR_bad hv') ?_
     (try simp only [bK1, bK2, bK3, bK4, bK5, bK6, bK7, bK8]); simp (maxSteps := 10000000) (disch := omega) only [refV, go_sem, ↓reduceIte, Nat.reduceEqDiff, Nat.reduceSub, Nat.reduceLeDiff, Nat.reduceAdd, Int.reduceEq, Int.reduceLT, Int.reduceLE]
     refine call_with okSame0 ?_
     (try simp only [bK1, bK2, bK3, bK4, bK5, bK6, bK7, bK8]); simp (maxSteps := 10000000) (disch := omega) only [go_sem, ↓reduceIte, Nat.reduceEqDiff, Nat.reduceSub, Nat.reduceLeDiff, Nat.reduceAdd, Int.reduceEq, Int.reduceLT, Int.reduceLE]
     refine ⟨_, .same _, ?_⟩
     (try simp only [bK1, bK2, bK3, bK4, bK5, bK6, bK7, bK8]); simp (maxSteps := 10000000) (disch := omega) only [refV, go_sem, ↓reduceIte, Nat.reduceEqDiff, Nat.reduceSub, Nat.reduceLeDiff, Nat.reduceAdd, Int.reduceEq, Int.reduceLT, Int.reduceLE]
     exact ⟨900, rfl, rfl⟩
   exact absurd ⟨n3, n4, n5, n6⟩ hput
 obtain ⟨i, hi⟩ : ∃ i : Nat, a.at_ = i := ⟨a.at_.toNat, by omega⟩
 have hiM : i < M.length := by have := hv.2; rw [List.length_map] at this; omega
 have hMi : M[i]? = some M[i] := List.getElem?_eq_getElem hiM
 have hm := hM _ (List.getElem_mem hiM)
 generalize M[i] = m at *
 have hgi : (M.map writeM)[i]? = some (writeM m) := by rw [List.getElem?_map, hMi]; rfl
 have hgT : ∀ x ∈ M.take i ++ M.drop (i + 1), mv x ∧ checkM x = true := fun x hx => (List.mem_append.1 hx).elim (fun h => hM x (List.mem_of_mem_take h)) fun h => hM x (List.mem_of_mem_drop h)
 have hTl : (M.take i ++ M.drop (i + 1)).length ≤ M.length := by simp; omega
 have hgM : ∀ x ∈ M ++ [m], mv x ∧ checkM x = true := fun x hx => (List.mem_append.1 hx).elim (hM x) fun h => by rw [List.mem_singleton.1 h]; exact hm
 have hgL : ∀ x ∈ M.take i ++ M.drop (i + 1) ++ [m], mv x ∧ checkM x = true := fun x hx => (List.mem_append.1 hx).elim (hgT x) fun h => by rw [List.mem_singleton.1 h]; exact hm
 have hsm := sameM_refl m
 rcases hq3 with rfl | n3
 · have z : ((3 : Nat) : Int) = 3 := rfl
   refine ⟨M.take i ++ M.drop (i + 1), hgT, (by omega), fun {g h d} hg => ?_⟩
   refine FunOk.io (fun h d hg => ?_) rfl rfl rfl rfl hg
   refine fun_io1 (g := 900) mixed fn19 (by simp) (by simp [tops, tn, refV]) (by simp [tops, tn]) hg rfl (by simp [Blk.ptr, SV.kill]) rfl (fun _ => rfl) fun F => ?_
   (try simp only [bK1, bK2, bK3, bK4, bK5, bK6, bK7, bK8]); simp (maxSteps := 10000000) (disch := omega) only [ir19, Blk.ptr, refV, hq, z, hi, go_sem, ↓reduceIte, Nat.reduceEqDiff, Nat.reduceSub, Nat.reduceLeDiff, Nat.reduceAdd, Int.reduceEq, Int.reduceLT, Int.reduceLE]
   refine call_with (okTakeB (.inr rfl) hgi hm.1 hm.2 hMl rfl) ?_
   rw [show (M.map writeM).take i ++ (M.map writeM).drop (i + 1) = (M.take i ++ M.drop (i + 1)).map writeM by simp]
   (try simp only [bK1, bK2, bK3, bK4, bK5, bK6, bK7, bK8]); simp (maxSteps := 10000000) (disch := omega) only [hi, go_sem, ↓reduceIte, Nat.reduceEqDiff, Nat.reduceSub, Nat.reduceLeDiff, Nat.reduceAdd, Int.reduceEq, Int.reduceLT, Int.reduceLE]
   refine call_with (okTakeR hMi (by omega)) ?_
   (try simp only [bK1, bK2, bK3, bK4, bK5, bK6, bK7, bK8]); simp (maxSteps := 10000000) (disch := omega) only [tkX, segM_cells, mkOr_sgM, go_sem, ↓reduceIte, Nat.reduceEqDiff, Nat.reduceSub, Nat.reduceLeDiff, Nat.reduceAdd, Int.reduceEq, Int.reduceLT, Int.reduceLE]
   refine call_with (okSameMA (canM m) m (mv_can hm.1) hm.1) ?_
   rw [hsm]
   (try simp only [bK1, bK2, bK3, bK4, bK5, bK6, bK7, bK8]); simp (maxSteps := 10000000) (disch := omega) only [go_sem, ↓reduceIte, Nat.reduceEqDiff, Nat.reduceSub, Nat.reduceLeDiff, Nat.reduceAdd, Int.reduceEq, Int.reduceLT, Int.reduceLE]
   refine ⟨_, wk_frz 43 rfl (.same _), ?_⟩
   (try simp only [bK1, bK2, bK3, bK4, bK5, bK6, bK7, bK8]); simp (maxSteps := 10000000) (disch := omega) only [refV, go_sem, ↓reduceIte, Nat.reduceEqDiff, Nat.reduceSub, Nat.reduceLeDiff, Nat.reduceAdd, Int.reduceEq, Int.reduceLT, Int.reduceLE]
   exact ⟨900, rfl, rfl⟩
 rcases hq4 with rfl | n4
 · have z : ((4 : Nat) : Int) = 4 := rfl
   by_cases hf : most ≤ (M.length : Int)
   ·
    refine ⟨M, hM, (by omega), fun {g h d} hg => ?_⟩
    refine FunOk.io (fun h d hg => ?_) rfl rfl rfl rfl hg
    refine fun_io1 (g := 900) mixed fn19 (by simp) (by simp [tops, tn, refV]) (by simp [tops, tn]) hg rfl (by simp [Blk.ptr, SV.kill]) rfl (fun _ => rfl) fun F => ?_
    (try simp only [bK1, bK2, bK3, bK4, bK5, bK6, bK7, bK8]); simp (maxSteps := 10000000) (disch := omega) only [ir19, Blk.ptr, refV, hq, z, hi, go_sem, ↓reduceIte, Nat.reduceEqDiff, Nat.reduceSub, Nat.reduceLeDiff, Nat.reduceAdd, Int.reduceEq, Int.reduceLT, Int.reduceLE]
    refine call_with (okCopyB_full (.inr rfl) hgi hm.1 hm.2 (by rw [hWl]; exact hfull.2 hf) rfl) ?_
    (try simp only [bK1, bK2, bK3, bK4, bK5, bK6, bK7, bK8]); simp (maxSteps := 10000000) (disch := omega) only [hi, go_sem, ↓reduceIte, Nat.reduceEqDiff, Nat.reduceSub, Nat.reduceLeDiff, Nat.reduceAdd, Int.reduceEq, Int.reduceLT, Int.reduceLE]
    refine call_with (okCopyR_full hMi hm.1 hm.2 hf) ?_
    (try simp only [bK1, bK2, bK3, bK4, bK5, bK6, bK7, bK8]); simp (maxSteps := 10000000) (disch := omega) only [refV, go_sem, ↓reduceIte, Nat.reduceEqDiff, Nat.reduceSub, Nat.reduceLeDiff, Nat.reduceAdd, Int.reduceEq, Int.reduceLT, Int.reduceLE]
    refine ⟨_, .same _, ?_⟩
    (try simp only [bK1, bK2, bK3, bK4, bK5, bK6, bK7, bK8]); simp (maxSteps := 10000000) (disch := omega) only [refV, go_sem, ↓reduceIte, Nat.reduceEqDiff, Nat.reduceSub, Nat.reduceLeDiff, Nat.reduceAdd, Int.reduceEq, Int.reduceLT, Int.reduceLE]
    exact ⟨900, rfl, rfl⟩
   · have hf' : ¬ most' ≤ ((M.map writeM).length : Int) := by rw [hWl]; exact fun h => hf (hfull.1 h)
     refine ⟨M ++ [m], hgM, (by simp), fun {g h d} hg => ?_⟩
     refine FunOk.io (fun h d hg => ?_) rfl rfl rfl rfl hg
     refine fun_io1 (g := 900) mixed fn19 (by simp) (by simp [tops, tn, refV]) (by simp [tops, tn]) hg rfl (by simp [Blk.ptr, SV.kill]) rfl (fun _ => rfl) fun F => ?_
     (try simp only [bK1, bK2, bK3, bK4, bK5, bK6, bK7, bK8]); simp (maxSteps := 10000000) (disch := omega) only [ir19, Blk.ptr, refV, hq, z, hi, go_sem, ↓reduceIte, Nat.reduceEqDiff, Nat.reduceSub, Nat.reduceLeDiff, Nat.reduceAdd, Int.reduceEq, Int.reduceLT, Int.reduceLE]
     refine call_with (okCopyB (.inr rfl) hgi hm.1 hm.2 hf' hMl rfl) ?_
     rw [show M.map writeM ++ [writeM m] = (M ++ [m]).map writeM by simp]
     (try simp only [bK1, bK2, bK3, bK4, bK5, bK6, bK7, bK8]); simp (maxSteps := 10000000) (disch := omega) only [hi, go_sem, ↓reduceIte, Nat.reduceEqDiff, Nat.reduceSub, Nat.reduceLeDiff, Nat.reduceAdd, Int.reduceEq, Int.reduceLT, Int.reduceLE]
     refine call_with (okCopyR hMi hm.1 hm.2 hf (by omega)) ?_
     (try simp only [bK1, bK2, bK3, bK4, bK5, bK6, bK7, bK8]); simp (maxSteps := 10000000) (disch := omega) only [refV, go_sem, ↓reduceIte, Nat.reduceEqDiff, Nat.reduceSub, Nat.reduceLeDiff, Nat.reduceAdd, Int.reduceEq, Int.reduceLT, Int.reduceLE]
     refine ⟨_, .same _, ?_⟩
     (try simp only [bK1, bK2, bK3, bK4, bK5, bK6, bK7, bK8]); simp (maxSteps := 10000000) (disch := omega) only [refV, go_sem, ↓reduceIte, Nat.reduceEqDiff, Nat.reduceSub, Nat.reduceLeDiff, Nat.reduceAdd, Int.reduceEq, Int.reduceLT, Int.reduceLE]
     exact ⟨900, rfl, rfl⟩
 rcases hq5 with rfl | n5
 · have z : ((5 : Nat) : Int) = 5 := rfl
   refine ⟨M.take i ++ M.drop (i + 1) ++ [m], hgL, (by simp only [List.length_append, List.length_singleton] at hTl ⊢; omega), fun {g h d} hg => ?_⟩
   refine FunOk.io (fun h d hg => ?_) rfl rfl rfl rfl hg
   refine fun_io1 (g := 900) mixed fn19 (by simp) (by simp [tops, tn, refV]) (by simp [tops, tn]) hg rfl (by simp [Blk.ptr, SV.kill]) rfl (fun _ => rfl) fun F => ?_
   (try simp only [bK1, bK2, bK3, bK4, bK5, bK6, bK7, bK8]); simp (maxSteps := 10000000) (disch := omega) only [ir19, Blk.ptr, refV, hq, z, hi, go_sem, ↓reduceIte, Nat.reduceEqDiff, Nat.reduceSub, Nat.reduceLeDiff, Nat.reduceAdd, Int.reduceEq, Int.reduceLT, Int.reduceLE]
   refine call_with (okLateB (.inr rfl) hgi hMl rfl) ?_
   rw [show (M.map writeM).take i ++ (M.map writeM).drop (i + 1) ++ [writeM m] = (M.take i ++ M.drop (i + 1) ++ [m]).map writeM by simp]
   (try simp only [bK1, bK2, bK3, bK4, bK5, bK6, bK7, bK8]); simp (maxSteps := 10000000) (disch := omega) only [hi, go_sem, ↓reduceIte, Nat.reduceEqDiff, Nat.reduceSub, Nat.reduceLeDiff, Nat.reduceAdd, Int.reduceEq, Int.reduceLT, Int.reduceLE]
   refine call_with (okLateR hMi (by omega)) ?_
   (try simp only [bK1, bK2, bK3, bK4, bK5, bK6, bK7, bK8]); simp (maxSteps := 10000000) (disch := omega) only [refV, go_sem, ↓reduceIte, Nat.reduceEqDiff, Nat.reduceSub, Nat.reduceLeDiff, Nat.reduceAdd, Int.reduceEq, Int.reduceLT, Int.reduceLE]
   refine ⟨_, .same _, ?_⟩
   (try simp only [bK1, bK2, bK3, bK4, bK5, bK6, bK7, bK8]); simp (maxSteps := 10000000) (disch := omega) only [refV, go_sem, ↓reduceIte, Nat.reduceEqDiff, Nat.reduceSub, Nat.reduceLeDiff, Nat.reduceAdd, Int.reduceEq, Int.reduceLT, Int.reduceLE]
   exact ⟨900, rfl, rfl⟩
 rcases hq6 with rfl | n6
 · have z : ((6 : Nat) : Int) = 6 := rfl
   refine ⟨M, hM, (by omega), fun {g h d} hg => ?_⟩
   refine FunOk.io (fun h d hg => ?_) rfl rfl rfl rfl hg
   refine fun_io1 (g := 900) mixed fn19 (by simp) (by simp [tops, tn, refV]) (by simp [tops, tn]) hg rfl (by simp [Blk.ptr, SV.kill]) rfl (fun _ => rfl) fun F => ?_
   (try simp only [bK1, bK2, bK3, bK4, bK5, bK6, bK7, bK8]); simp (maxSteps := 10000000) (disch := omega) only [ir19, Blk.ptr, refV, hq, z, hi, go_sem, ↓reduceIte, Nat.reduceEqDiff, Nat.reduceSub, Nat.reduceLeDiff, Nat.reduceAdd, Int.reduceEq, Int.reduceLT, Int.reduceLE]
   refine call_with (okAtB (.inr rfl) hgi hm.1 hm.2 rfl) ?_
   (try simp only [bK1, bK2, bK3, bK4, bK5, bK6, bK7, bK8]); simp (maxSteps := 10000000) (disch := omega) only [hi, segM_cells, mkOr_sgM, go_sem, ↓reduceIte, Nat.reduceEqDiff, Nat.reduceSub, Nat.reduceLeDiff, Nat.reduceAdd, Int.reduceEq, Int.reduceLT, Int.reduceLE]
   refine call_with (okAtR hMi) ?_
   (try simp only [bK1, bK2, bK3, bK4, bK5, bK6, bK7, bK8]); simp (maxSteps := 10000000) (disch := omega) only [refV, segM_cells, mkOr_sgM, go_sem, ↓reduceIte, Nat.reduceEqDiff, Nat.reduceSub, Nat.reduceLeDiff, Nat.reduceAdd, Int.reduceEq, Int.reduceLT, Int.reduceLE]
   refine call_with (okSameMA (canM m) m (mv_can hm.1) hm.1) ?_
   rw [hsm]
   (try simp only [bK1, bK2, bK3, bK4, bK5, bK6, bK7, bK8]); simp (maxSteps := 10000000) (disch := omega) only [go_sem, ↓reduceIte, Nat.reduceEqDiff, Nat.reduceSub, Nat.reduceLeDiff, Nat.reduceAdd, Int.reduceEq, Int.reduceLT, Int.reduceLE]
   refine ⟨_, .same _, ?_⟩
   (try simp only [bK1, bK2, bK3, bK4, bK5, bK6, bK7, bK8]); simp (maxSteps := 10000000) (disch := omega) only [refV, go_sem, ↓reduceIte, Nat.reduceEqDiff, Nat.reduceSub, Nat.reduceLeDiff, Nat.reduceAdd, Int.reduceEq, Int.reduceLT, Int.reduceLE]
   exact ⟨900, rfl, rfl⟩
 exact absurd ⟨n3, n4, n5, n6⟩ hput
end Go.Proofs.Ytfkmlmckihmihaa.Fw
namespace Go.Proofs.Ytfkmlmckihmihaa.Fw
open Go.RowKit Go.Proofs
theorem k_ref (n M m) : SV.kill n (refV M m) = refV M m := (rfl)
theorem r_ref (a b M m) : SV.ren a b (refV M m) = refV M m := (rfl)
theorem w_ref (M m) : (refV M m).width = 2 := (rfl)
attribute [go_sem] k_ref r_ref w_ref
theorem rng_ren {P : Program} {r : Option Nat} {X : Frs} {N f n m : Nat} {cap : List SV} {ps : List Nat} {ca cb : C} {Q : Post} {t : List (Nat × SV)} {hh : List (Nat × Option Blk)} (hne : n ≠ m) (hm : lk none m hh = none) (hc : SV.renL n m cap = cap)
 (h : (envX P r X N).rng f cap ps ca cb Q (mk (renT n m t) ((n, none) :: (m, (lk none n hh).map (Blk.ren n m)) :: renH n m hh))) : (envX P r X N).rng f cap ps ca cb Q (mk t hh) := by
 rw [← ren_mk _ _ _ _ hne] at h
 have hm' : (mk t hh).h m = none := hm
 show RngOk P r X N f cap ps ca cb Q (mk t hh)
 generalize mk t hh = s at *
 intro assign bd g qs h1 h2 h3 h4 F ρ a w hX hR hg
 refine (h : RngOk P r X N f cap ps ca cb Q (s.ren n m)) assign bd g qs h1 h2 h3 h4 F (Fw.upd ρ m (ρ n)) a w hX (hR.ren hne hm') ?_
 have hle : (vw F w ρ s).le (vw F w (Fw.upd ρ m (ρ n)) (s.ren n m)) := viewOf_le fun b c ho hc => ⟨fun hb => ho (hb.imp_left fun ⟨k, x, hk, hb⟩ => by
  simp only [FS.ren] at hk
  split at hk
  · rename_i e
    obtain ⟨y, h1, _⟩ := Option.map_eq_some_iff.1 hk
    rw [e, upd_self] at hb
    exact ⟨n, y, h1, hb⟩
  · rename_i e
    split at hk
    · cases hk
    · obtain ⟨y, h1, _⟩ := Option.map_eq_some_iff.1 hk
      rw [upd_ne e] at hb
      exact ⟨k, y, h1, hb⟩), hc⟩
 have := (hg.mono hle).ren (n := n) (m := m)
 simp only [SV.ren, hc] at this
 exact this
theorem FunOk.same {P : Program} {f : Nat} {args : List SV} {h : Nat → Option Blk} {d g : Nat} {x : SV} {blk : Blk} (hf : FunOk P f args h d x [.upd g blk]) (hg : h g = some blk) (hin : g ∈ tops args) : FunOk P f args h d x [] :=
 ⟨hf.1, fun F N ρ s a w hR hh vs hc => by
  have hs : s.h g = some blk := (hh g hin).trans hg
  have e : s.hup [.upd g blk] = s := FS.ext' (fun _ => rfl) fun n => by
   simp only [FS.hup, FS.seth]
   split
   · rename_i e; rw [e]; exact hs.symm
   · rfl
  have := hf.2 F N ρ s a w hR hh vs hc
  rw [e] at this
  exact this⟩
theorem imp_ref0 (n : Int) : Imp (.agg [.pv (.sl true 0 []), .pv (.i .i64 n)]) (.agg [.pv (.sl false 76 []), .pv (.i .i64 n)]) = True := by
 refine eq_true fun V ρ v h => ?_
 simp only [Conc, Cells] at h ⊢
 obtain ⟨vs, rfl, u, us, e1, h1, h2, h3, h4⟩ := h
 refine ⟨vs, rfl, u, us, e1, ?_, h2, h3, h4⟩
 cases h1 with
 | sl _ _ _ a cap cs bl off arr hcap hfull hsz ha hcs hel =>
   exact .sl false 76 [] a cap cs bl off arr hcap (by simp) (by simp) (by simp) (by simp) (by simp)
def stPl (l : List Act) (most stop : Int) (x : Nat × List Msg) : FS := mk [(31, .pv (.i .i64 x.1)), (30, .pv (.i .i64 l.length)), (29, .pv (.sl false 78 (l.map actE))), (8, .p 8 0), (7, .p 26 0), (6, .p 6 0), (2, .pv (.i .i64 stop))] [(26, some (.var (bagV false 1 (x.2.map writeM) (max 0 most)))), (8, some (.var (refV x.2 most))), (6, some (.var (.pv (.b false))))]
def stAp (l0 : Nat) (most : Int) (M : List Msg) (K j : Nat) : FS := mk [(15, .pv (.i .i64 j)), (14, .pv (.i .i64 M.length)), (13, .os 50), (0, .fn (.yield l0) []), (1000000, .pv (.i .i64 0)), (1000007, .p 6 0), (1000009, .p 8 0), (1000014, .p 70 0), (1000015, .p 71 0)] [(50, some (.row 1 ((M.map writeM).map bE))), (70, some (.var (.pv (.i .i64 j)))), (71, some (.var (.pv (.i .i64 K)))), (8, some (.var (refV M most))), (6, some (.var (.pv (.b false))))]
theorem ps_61 : ∀ p ∈ [61, 62], p < big := by
 intro p hp
 have : big = 1000000 := rfl
 simp at hp; omega
set_option maxHeartbeats 16000000 in
theorem lawPlays {l : List Act} {most stop : Int} (hl : ∀ a ∈ l, okM a.m) {h d} : FunOk Try.prog 5 [.pv (.i .i64 most), .pv (.sl false 78 (l.map actE)), .pv (.i .i64 stop)] h d (.pv (.b true)) [] := by
 refine fun_pure mixed fn5 (by simp) rfl rfl fun F => ?_
 (try simp only [bK1, bK2, bK3, bK4, bK5, bK6, bK7, bK8]); simp (maxSteps := 10000000) (disch := omega) only [ir5, List.length_map, go_sem, ↓reduceIte, Nat.reduceEqDiff, Nat.reduceSub, Nat.reduceLeDiff, Nat.reduceAdd, Int.reduceEq, Int.reduceLT, Int.reduceLE]
 refine call_with livesBag ?_
 (try simp only [bK1, bK2, bK3, bK4, bK5, bK6, bK7, bK8]); simp (maxSteps := 10000000) (disch := omega) only [go_sem, ↓reduceIte, Nat.reduceEqDiff, Nat.reduceSub, Nat.reduceLeDiff, Nat.reduceAdd, Int.reduceEq, Int.reduceLT, Int.reduceLE]
 refine call_with (okFits fun a ha => (hl a ha).1) ?_
 cases hft : fitsB l with
 | false =>
   (try simp only [bK1, bK2, bK3, bK4, bK5, bK6, bK7, bK8]); simp (maxSteps := 10000000) (disch := omega) only [go_sem, ↓reduceIte, Nat.reduceEqDiff, Nat.reduceSub, Nat.reduceLeDiff, Nat.reduceAdd, Int.reduceEq, Int.reduceLT, Int.reduceLE]
   refine call_with livesBag ?_
   (try simp only [bK1, bK2, bK3, bK4, bK5, bK6, bK7, bK8]); simp (maxSteps := 10000000) (disch := omega) only [go_sem, ↓reduceIte, Nat.reduceEqDiff, Nat.reduceSub, Nat.reduceLeDiff, Nat.reduceAdd, Int.reduceEq, Int.reduceLT, Int.reduceLE]
 | true =>
 obtain ⟨f1, f2⟩ := fits_of hft
 have hmm : ∀ n : Nat, max 0 most ≤ (n : Int) ↔ most ≤ (n : Int) := fun n => by omega
 (try simp only [bK1, bK2, bK3, bK4, bK5, bK6, bK7, bK8]); simp (maxSteps := 10000000) (disch := omega) only [go_sem, ↓reduceIte, Nat.reduceEqDiff, Nat.reduceSub, Nat.reduceLeDiff, Nat.reduceAdd, Int.reduceEq, Int.reduceLT, Int.reduceLE]
 refine call_with (okNewB most) ?_
 (try simp only [bK1, bK2, bK3, bK4, bK5, bK6, bK7, bK8]); simp (maxSteps := 10000000) (disch := omega) only [List.length_map, go_sem, ↓reduceIte, Nat.reduceEqDiff, Nat.reduceSub, Nat.reduceLeDiff, Nat.reduceAdd, Int.reduceEq, Int.reduceLT, Int.reduceLE]
 refine loop_ok mixed (stPl l most stop) (fun x => x.1 ≤ l.length ∧ x.2.length ≤ x.1 ∧ ∀ m ∈ x.2, mv m ∧ checkM m = true) (fun x => l.length - x.1) (0, []) ⟨Nat.zero_le _, Nat.zero_le _, fun m hm => by cases hm⟩ (weak_mk ?_ ?_) fun x hx => ?_
 · (try simp only [bK1, bK2, bK3, bK4, bK5, bK6, bK7, bK8]); simp (maxSteps := 10000000) (disch := omega) only [go_sem, ↓reduceIte, Nat.reduceEqDiff, Nat.reduceSub, Nat.reduceLeDiff, Nat.reduceAdd, Int.reduceEq, Int.reduceLT, Int.reduceLE]
 · (try simp only [bK1, bK2, bK3, bK4, bK5, bK6, bK7, bK8]); simp (maxSteps := 10000000) (disch := omega) only [bagV, refV, imp_bag0, imp_ref0, List.map_nil, go_sem, ↓reduceIte, Nat.reduceEqDiff, Nat.reduceSub, Nat.reduceLeDiff, Nat.reduceAdd, Int.reduceEq, Int.reduceLT, Int.reduceLE]
 obtain ⟨k, M⟩ := x
 obtain ⟨hk1, hk2, hk3⟩ := hx
 simp only at hk1 hk2 hk3
 by_cases hlt : k < l.length
 · have he : (l.map actE)[k]? = some (actE l[k]) := by simp [hlt]
   have hmem := List.getElem_mem hlt
   have hmv := mv_of (f2 _ hmem) (hl _ hmem)
   generalize l[k] = a at *
   obtain ⟨M', hg', hl', hs⟩ := okStep (most := most) (most' := max 0 most) a hmm hmv hk3 (by omega)
   (try simp only [bK1, bK2, bK3, bK4, bK5, bK6, bK7, bK8]); simp (maxSteps := 10000000) (disch := omega) only [stPl, List.length_map, he, go_sem, ↓reduceIte, Nat.reduceEqDiff, Nat.reduceSub, Nat.reduceLeDiff, Nat.reduceAdd, Int.reduceEq, Int.reduceLT, Int.reduceLE]
   (try simp only [bK1, bK2, bK3, bK4, bK5, bK6, bK7, bK8]); simp (maxSteps := 10000000) (disch := omega) only [refV, go_sem, ↓reduceIte, Nat.reduceEqDiff, Nat.reduceSub, Nat.reduceLeDiff, Nat.reduceAdd, Int.reduceEq, Int.reduceLT, Int.reduceLE]
   refine call_with (hs rfl) ?_
   (try simp only [bK1, bK2, bK3, bK4, bK5, bK6, bK7, bK8]); simp (maxSteps := 10000000) (disch := omega) only [refV, go_sem, ↓reduceIte, Nat.reduceEqDiff, Nat.reduceSub, Nat.reduceLeDiff, Nat.reduceAdd, Int.reduceEq, Int.reduceLT, Int.reduceLE]
   refine call_with ((okLenB (L := M'.map writeM) rfl).same rfl (by simp [tops, tn])) ?_
   (try simp only [bK1, bK2, bK3, bK4, bK5, bK6, bK7, bK8]); simp (maxSteps := 10000000) (disch := omega) only [List.length_map, go_sem, ↓reduceIte, Nat.reduceEqDiff, Nat.reduceSub, Nat.reduceLeDiff, Nat.reduceAdd, Int.reduceEq, Int.reduceLT, Int.reduceLE]
   refine loop_next (x := (k, M)) (k + 1, M') _ _ rfl ⟨by show k + 1 ≤ _; omega, by show M'.length ≤ k + 1; omega, hg'⟩ (by show _ - (k + 1) < _; omega) ?_ ?_
   · (try simp only [bK1, bK2, bK3, bK4, bK5, bK6, bK7, bK8]); simp (maxSteps := 10000000) (disch := omega) only [go_sem, ↓reduceIte, Nat.reduceEqDiff, Nat.reduceSub, Nat.reduceLeDiff, Nat.reduceAdd, Int.reduceEq, Int.reduceLT, Int.reduceLE]
   · (try simp only [bK1, bK2, bK3, bK4, bK5, bK6, bK7, bK8]); simp (maxSteps := 10000000) (disch := omega) only [refV, go_sem, ↓reduceIte, Nat.reduceEqDiff, Nat.reduceSub, Nat.reduceLeDiff, Nat.reduceAdd, Int.reduceEq, Int.reduceLT, Int.reduceLE]
 obtain rfl : k = l.length := by omega
 have hMl : (M.map writeM).length ≤ 40 := by simp; omega
 obtain ⟨K, hK, hK20⟩ : ∃ K : Nat, (IntKind.u64.wrap stop).tmod 20 = K ∧ K < 20 := by
  have h0 := wrap_u64_mod stop
  have h1 : 0 ≤ IntKind.u64.wrap stop := by omega
  refine ⟨((IntKind.u64.wrap stop).tmod 20).toNat, ?_, ?_⟩ <;> rw [Int.tmod_eq_emod_of_nonneg h1] <;> omega
 have hK1 : (1 : Int) + (K : Int) = ((K + 1 : Nat) : Int) := by omega
 (try simp only [bK1, bK2, bK3, bK4, bK5, bK6, bK7, bK8]); simp (maxSteps := 10000000) (disch := omega) only [stPl, List.length_map, hK, hK1, go_sem, ↓reduceIte, Nat.reduceEqDiff, Nat.reduceSub, Nat.reduceLeDiff, Nat.reduceAdd, Int.reduceEq, Int.reduceLT, Int.reduceLE]
 refine call_with (okAllB (by decide) rfl) ?_
 (try simp only [bK1, bK2, bK3, bK4, bK5, bK6, bK7, bK8]); simp (maxSteps := 10000000) (disch := omega) only [go_sem, ↓reduceIte, Nat.reduceEqDiff, Nat.reduceSub, Nat.reduceLeDiff, Nat.reduceAdd, Int.reduceEq, Int.reduceLT, Int.reduceLE]
 refine rng_ren (n := 13) (m := 70) (by decide) rfl rfl (rng_ren (n := 14) (m := 71) (by decide) rfl rfl ?_)
 (try simp only [bK1, bK2, bK3, bK4, bK5, bK6, bK7, bK8]); simp (maxSteps := 10000000) (disch := omega) only [go_sem, ↓reduceIte, Nat.reduceEqDiff, Nat.reduceSub, Nat.reduceLeDiff, Nat.reduceAdd, Int.reduceEq, Int.reduceLT, Int.reduceLE]
 refine rng_ok mixed fn40 (by simp) fun l0 XI hc => ?_
 rw [enter_mk _ _ _ (by show 2 ≤ 1000000; omega)]
 (try simp only [bK1, bK2, bK3, bK4, bK5, bK6, bK7, bK8]); simp (maxSteps := 10000000) (disch := omega) only [ir40, bagV, go_sem, ↓reduceIte, Nat.reduceEqDiff, Nat.reduceSub, Nat.reduceLeDiff, Nat.reduceAdd, Int.reduceEq, Int.reduceLT, Int.reduceLE]
 refine call_with (okCloneN (.inr rfl) (by simp; omega)) ?_
 (try simp only [bK1, bK2, bK3, bK4, bK5, bK6, bK7, bK8]); simp (maxSteps := 10000000) (disch := omega) only [List.length_map, go_sem, ↓reduceIte, Nat.reduceEqDiff, Nat.reduceSub, Nat.reduceLeDiff, Nat.reduceAdd, Int.reduceEq, Int.reduceLT, Int.reduceLE]
 refine loop_ok mixed (stAp l0 most M (K + 1)) (fun j => j ≤ M.length ∧ j < K + 1) (fun j => M.length - j) 0 (by simp) (wk_ren 13 50 (by decide) rfl (weak_mk ?_ ?_)) fun j hj => ?_
 · (try simp only [bK1, bK2, bK3, bK4, bK5, bK6, bK7, bK8]); simp (maxSteps := 10000000) (disch := omega) only [go_sem, ↓reduceIte, Nat.reduceEqDiff, Nat.reduceSub, Nat.reduceLeDiff, Nat.reduceAdd, Int.reduceEq, Int.reduceLT, Int.reduceLE]
 · (try simp only [bK1, bK2, bK3, bK4, bK5, bK6, bK7, bK8]); simp (maxSteps := 10000000) (disch := omega) only [go_sem, ↓reduceIte, Nat.reduceEqDiff, Nat.reduceSub, Nat.reduceLeDiff, Nat.reduceAdd, Int.reduceEq, Int.reduceLT, Int.reduceLE]
 obtain ⟨hj1, hj2⟩ := hj
 by_cases hltj : j < M.length
 · have hmj : M[j]? = some M[j] := List.getElem?_eq_getElem hltj
   have hm := hk3 _ (List.getElem_mem hltj)
   generalize M[j] = m at *
   have hej : ((M.map writeM).map bE)[j]? = some [.sl false 1 (bytesE (writeM m))] := by rw [List.getElem?_map, List.getElem?_map, hmj]; rfl
   have hme : (M.map msgE)[j]? = some (msgE m) := by rw [List.getElem?_map, hmj]; rfl
   have hsm := sameM_refl m
   have hge : ¬ (M.length : Int) ≤ (j : Int) := by omega
   (try simp only [bK1, bK2, bK3, bK4, bK5, bK6, bK7, bK8]); simp (maxSteps := 10000000) (disch := omega) only [stAp, List.length_map, hej, ld_sl, go_sem, ↓reduceIte, Nat.reduceEqDiff, Nat.reduceSub, Nat.reduceLeDiff, Nat.reduceAdd, Int.reduceEq, Int.reduceLT, Int.reduceLE]
   refine call_with (okReadM m hm.1 hm.2) ?_
   (try simp only [bK1, bK2, bK3, bK4, bK5, bK6, bK7, bK8]); simp (maxSteps := 10000000) (disch := omega) only [segM_cells, mkOr_sgM, go_sem, ↓reduceIte, Nat.reduceEqDiff, Nat.reduceSub, Nat.reduceLeDiff, Nat.reduceAdd, Int.reduceEq, Int.reduceLT, Int.reduceLE]
   refine yld_ok mixed hc ?_ rfl fun XA XB => ?_
   · (try simp only [bK1, bK2, bK3, bK4, bK5, bK6, bK7, bK8]); simp (maxSteps := 10000000) (disch := omega) only [go_sem, ↓reduceIte, Nat.reduceEqDiff, Nat.reduceSub, Nat.reduceLeDiff, Nat.reduceAdd, Int.reduceEq, Int.reduceLT, Int.reduceLE]
   rw [round_mk _ _ _ _ ps_61]
   (try simp only [bK1, bK2, bK3, bK4, bK5, bK6, bK7, bK8]); simp (maxSteps := 10000000) (disch := omega) only [segM_cells, mkOr_sgM, refV, List.length_map, hge, hme, go_sem, ↓reduceIte, Nat.reduceEqDiff, Nat.reduceSub, Nat.reduceLeDiff, Nat.reduceAdd, Int.reduceEq, Int.reduceLT, Int.reduceLE]
   refine call_with (okSameMA (canM m) m (mv_can hm.1) hm.1) ?_
   rw [hsm]
   by_cases hjk : (j : Int) + 1 = ((K + 1 : Nat) : Int)
   · have hmin : min (((K + 1 : Nat)) : Int) (M.length : Int) = ((K + 1 : Nat) : Int) := by omega
     (try simp only [bK1, bK2, bK3, bK4, bK5, bK6, bK7, bK8]); simp (maxSteps := 10000000) (disch := omega) only [hjk, hmin, refV, List.length_map, go_sem, ↓reduceIte, Nat.reduceEqDiff, Nat.reduceSub, Nat.reduceLeDiff, Nat.reduceAdd, Int.reduceEq, Int.reduceLT, Int.reduceLE]
   · (try simp only [bK1, bK2, bK3, bK4, bK5, bK6, bK7, bK8]); simp (maxSteps := 10000000) (disch := omega) only [hjk, go_sem, ↓reduceIte, Nat.reduceEqDiff, Nat.reduceSub, Nat.reduceLeDiff, Nat.reduceAdd, Int.reduceEq, Int.reduceLT, Int.reduceLE]
     refine loop_next (j + 1) _ _ rfl ⟨by omega, by omega⟩ (by omega) ?_ ?_
     · (try simp only [bK1, bK2, bK3, bK4, bK5, bK6, bK7, bK8]); simp (maxSteps := 10000000) (disch := omega) only [go_sem, ↓reduceIte, Nat.reduceEqDiff, Nat.reduceSub, Nat.reduceLeDiff, Nat.reduceAdd, Int.reduceEq, Int.reduceLT, Int.reduceLE]
     · (try simp only [bK1, bK2, bK3, bK4, bK5, bK6, bK7, bK8]); simp (maxSteps := 10000000) (disch := omega) only [refV, go_sem, ↓reduceIte, Nat.reduceEqDiff, Nat.reduceSub, Nat.reduceLeDiff, Nat.reduceAdd, Int.reduceEq, Int.reduceLT, Int.reduceLE]
 obtain rfl : j = M.length := by omega
 (try simp only [bK1, bK2, bK3, bK4, bK5, bK6, bK7, bK8]); simp (maxSteps := 10000000) (disch := omega) only [stAp, refV, List.length_map, go_sem, ↓reduceIte, Nat.reduceEqDiff, Nat.reduceSub, Nat.reduceLeDiff, Nat.reduceAdd, Int.reduceEq, Int.reduceLT, Int.reduceLE]
theorem holdsBagPlays {c0 c1 c2 : List PV} (g0 : GC (.int .i64) c0) (g1 : GC (.sl shAct) c1) (g2 : GC (.int .i64) c2) {h d} :
 FunOk Try.prog 5 [toSV (.int .i64) c0, toSV (.sl shAct) c1, toSV (.int .i64) c2] h d (.pv (.b true)) [] := by
 obtain ⟨n, rfl, _⟩ := GC_i64 g0
 obtain ⟨es, rfl, h1, g1⟩ := GC_sl g1
 obtain ⟨l, rfl, hA⟩ := els_of (f := actE) GC_act g1
 obtain ⟨k, rfl, _⟩ := GC_i64 g2
 exact lawPlays hA
end Go.Proofs.Ytfkmlmckihmihaa.Fw
