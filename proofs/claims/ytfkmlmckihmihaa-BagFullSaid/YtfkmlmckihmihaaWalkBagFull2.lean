/- What the functions that the law BagFull reaches compute. -/
import Derived.Test.YtfkmlmckihmihaaWalkBagFull1
import Derived.OpenShut
import Derived.ShutString
import Derived.ChangeOld
import Derived.SizedLaws
import Derived.ChangeOld
import Derived.Lib.Bytealg
import Derived.OpenShut
import Derived.ShutString
import Derived.SizedLaws
set_option linter.unusedVariables false
set_option linter.unusedSimpArgs false
set_option linter.unusedSectionVars false
set_option maxRecDepth 100000
namespace Go.Proofs.Ytfkmlmckihmihaa.Fw
open Go.RowKit Go.Proofs
structure Msg where
 k : Int
 fr : Int
 to : Int
 kn : Vc
 tb : Nat → Vc
 f : Bool
 z : Nat
 evs : List Evt
def msgE (m : Msg) : List PV := [.i .i64 m.k, .i .i64 m.fr, .i .i64 m.to] ++ vE m.kn ++ tE m.tb ++ [.sl m.f m.z (m.evs.map evE)]
def segM (m : Msg) : List SV := [.pv (.i .i64 m.k), .pv (.i .i64 m.fr), .pv (.i .i64 m.to), .vec 8 (vE m.kn), .vec 64 (tE m.tb), .pv (.sl m.f m.z (m.evs.map evE))]
theorem msgE_len (m : Msg) : (msgE m).length = 76 := by simp [msgE, vE, tE, arrF]
theorem segM_cells (m : Msg) : SV.cellsL? (segM m) = some (msgE m) := rfl
theorem ld_ms0 (m : Msg) (K : KK) : LoadK (some (msgE m)) 0 1 false K = K (.pv (.i .i64 m.k)) [] := by
 simp only [LoadK, ldX, eq_iff_iff]
 exact ⟨fun h => h.2.2, fun h => ⟨by simp [msgE, vE, tE, arrF], .inr trivial, h⟩⟩
theorem ld_ms1 (m : Msg) (K : KK) : LoadK (some (msgE m)) 1 1 false K = K (.pv (.i .i64 m.fr)) [] := by
 simp only [LoadK, ldX, eq_iff_iff]
 exact ⟨fun h => h.2.2, fun h => ⟨by simp [msgE, vE, tE, arrF], .inr trivial, h⟩⟩
theorem ld_ms2 (m : Msg) (K : KK) : LoadK (some (msgE m)) 2 1 false K = K (.pv (.i .i64 m.to)) [] := by
 simp only [LoadK, ldX, eq_iff_iff]
 exact ⟨fun h => h.2.2, fun h => ⟨by simp [msgE, vE, tE, arrF], .inr trivial, h⟩⟩
theorem ld_ms75 (m : Msg) (K : KK) : LoadK (some (msgE m)) 75 1 false K = K (.pv (.sl m.f m.z (m.evs.map evE))) [] := by
 simp only [LoadK, ldX, eq_iff_iff]
 exact ⟨fun h => h.2.2, fun h => ⟨by simp [msgE, vE, tE, arrF], .inr trivial, h⟩⟩
theorem ld_msK (m : Msg) (K : KK) : LoadK (some (msgE m)) 3 8 true K = K (.vec 8 (vE m.kn)) [] := by
 simp only [LoadK, ldX, eq_iff_iff]
 exact ⟨fun h => h.2.2, fun h => ⟨by simp [msgE, vE, tE, arrF], .inl trivial, h⟩⟩
theorem ld_msT (m : Msg) (K : KK) : LoadK (some (msgE m)) 11 64 true K = K (.vec 64 (tE m.tb)) [] := by
 simp only [LoadK, ldX, eq_iff_iff]
 exact ⟨fun h => h.2.2, fun h => ⟨by simp [msgE, vE, tE, arrF], .inl trivial, h⟩⟩
attribute [go_sem] ld_ms0 ld_ms1 ld_ms2 ld_ms75 ld_msK ld_msT msgE_len
theorem kL_sgM (n : Nat) (m : Msg) : SV.killL n (segM m) = segM m := rfl
theorem wL_sgM (m : Msg) : SV.widthL (segM m) = 76 := rfl
theorem fbL_sgM (m : Msg) : SV.flatBL (segM m) = true := rfl
theorem frL_sgM (n : Nat) (v : PV) (m : Msg) : SV.frzL n v (segM m) = segM m := rfl
attribute [go_sem] kL_sgM wL_sgM fbL_sgM frL_sgM
def mv (m : Msg) : Prop := (m.evs = [] ∨ m.z = 21) ∧ m.evs.length ≤ 1000 ∧ (∀ e ∈ m.evs, ev e ∧ ∀ i, i < 8 → e.dep i < 4294967296) ∧ (∀ i, i < 8 → m.kn i < 4294967296) ∧ ∀ i, i < 8 → ∀ j, j < 8 → m.tb i j < 4294967296
def HeadM (m : Msg) : Prop := (m.k = 1 ∨ m.k = 2) ∧ (1 ≤ m.fr ∧ m.fr ≤ 8) ∧ (1 ≤ m.to ∧ m.to ≤ 8) ∧ m.fr ≠ m.to ∧ m.evs.length ≤ 8 ∧ (m.k = 1 → m.evs.length = 0)
noncomputable def checkM (m : Msg) : Bool := open Classical in decide (HeadM m) && m.evs.all checkB
theorem checkM_h {m : Msg} (h : ¬ HeadM m) : checkM m = false := by simp [checkM, h]
theorem checkM_e {m : Msg} (h : HeadM m) : checkM m = m.evs.all checkB := by simp [checkM, h]
def repB (n : Int) : Bool := decide (1 ≤ n ∧ n ≤ 8)
theorem okRepM (n : Int) {h d} : FunOk Try.prog 54 [.pv (.i .i64 n)] h d (.pv (.b (repB n))) [] := by
 refine fun_pure mixed fn54 (by simp) rfl rfl fun F => ?_
 by_cases h1 : 1 ≤ n
 · have e : repB n = decide (n ≤ 8) := by simp [repB, h1]
   (try simp only [bK1, bK2, bK3, bK4, bK5, bK6, bK7, bK8]); simp (maxSteps := 10000000) (disch := omega) only [ir54, h1, e, go_sem, ↓reduceIte, Nat.reduceEqDiff, Nat.reduceSub, Nat.reduceLeDiff, Nat.reduceAdd, Int.reduceEq, Int.reduceLT, Int.reduceLE]
 · have e : repB n = false := by simp [repB, h1]
   (try simp only [bK1, bK2, bK3, bK4, bK5, bK6, bK7, bK8]); simp (maxSteps := 10000000) (disch := omega) only [ir54, h1, e, go_sem, ↓reduceIte, Nat.reduceEqDiff, Nat.reduceSub, Nat.reduceLeDiff, Nat.reduceAdd, Int.reduceEq, Int.reduceLT, Int.reduceLE]
theorem okBadM (e : Evt) (he : ev e) {h d} : FunOk Try.prog 56 [.vec 21 (evE e)] h d (.pv (.b (!checkB e))) [] := by
 refine fun_pure mixed fn56 (by simp) rfl rfl fun F => ?_
 (try simp only [bK1, bK2, bK3, bK4, bK5, bK6, bK7, bK8]); simp (maxSteps := 10000000) (disch := omega) only [ir56, go_sem, ↓reduceIte, Nat.reduceEqDiff, Nat.reduceSub, Nat.reduceLeDiff, Nat.reduceAdd, Int.reduceEq, Int.reduceLT, Int.reduceLE]
 refine call_with (okCheck e he) ?_
 (try simp only [bK1, bK2, bK3, bK4, bK5, bK6, bK7, bK8]); simp (maxSteps := 10000000) (disch := omega) only [go_sem, ↓reduceIte, Nat.reduceEqDiff, Nat.reduceSub, Nat.reduceLeDiff, Nat.reduceAdd, Int.reduceEq, Int.reduceLT, Int.reduceLE]
def stIdxM (f : Bool) (z : Nat) (l : List Evt) (k : Nat) : FS := mk [(8, .pv (.i .i64 k)), (7, .pv (.i .i64 l.length)), (0, .pv (.sl f z (l.map evE))), (1, .fn (.func 56) [])] []
theorem okIndexM {f : Bool} {z : Nat} {l : List Evt} (hz : l = [] ∨ z = 21) (hl : ∀ e ∈ l, ev e) (hn : l.length ≤ 1000) :
 ∃ n : Int, (0 ≤ n ↔ l.all checkB = false) ∧ ∀ h d, FunOk Try.prog 68 [.pv (.sl f z (l.map evE)), .fn (.func 56) []] h d (.pv (.i .i64 n)) [] := by
 refine ⟨if l.findIdx (fun e => !checkB e) < l.length then (l.findIdx (fun e => !checkB e) : Int) else -1, ?_, ?_⟩
 · by_cases hi : l.findIdx (fun e => !checkB e) < l.length
   · rw [if_pos hi]
     obtain ⟨x, hx, hp⟩ := List.findIdx_lt_length.1 hi
     refine ⟨fun _ => ?_, fun _ => by omega⟩
     rw [List.all_eq_false]
     exact ⟨x, hx, by simpa using hp⟩
   · rw [if_neg hi]
     refine ⟨fun h => by omega, fun h => ?_⟩
     rw [List.all_eq_false] at h
     obtain ⟨x, hx, hp⟩ := h
     exact absurd (List.findIdx_lt_length.2 ⟨x, hx, by simpa using hp⟩) hi
 intro h d
 refine fun_pure mixed fn68 (by simp) rfl rfl fun F => ?_
 (try simp only [bK1, bK2, bK3, bK4, bK5, bK6, bK7, bK8]); simp (maxSteps := 10000000) (disch := omega) only [ir68, List.length_map, go_sem, ↓reduceIte, Nat.reduceEqDiff, Nat.reduceSub, Nat.reduceLeDiff, Nat.reduceAdd, Int.reduceEq, Int.reduceLT, Int.reduceLE]
 refine loop_ok mixed (stIdxM f z l) (fun k => k ≤ l.length ∧ ∀ j, (hj : j < l.length) → j < k → checkB l[j] = true) (fun k => l.length - k) 0 (by simp) (weak_mk ?_ ?_) fun k hk => ?_
 · (try simp only [bK1, bK2, bK3, bK4, bK5, bK6, bK7, bK8]); simp (maxSteps := 10000000) (disch := omega) only [go_sem, ↓reduceIte, Nat.reduceEqDiff, Nat.reduceSub, Nat.reduceLeDiff, Nat.reduceAdd, Int.reduceEq, Int.reduceLT, Int.reduceLE]
 · (try simp only [bK1, bK2, bK3, bK4, bK5, bK6, bK7, bK8]); simp (maxSteps := 10000000) (disch := omega) only [go_sem, ↓reduceIte, Nat.reduceEqDiff, Nat.reduceSub, Nat.reduceLeDiff, Nat.reduceAdd, Int.reduceEq, Int.reduceLT, Int.reduceLE]
 obtain ⟨hk1, hk2⟩ := hk
 by_cases hlt : k < l.length
 · have hz2 : z = 21 := hz.resolve_left fun e => by subst e; simp at hlt
   subst hz2
   have he : (l.map evE)[k]? = some (evE l[k]) := by simp [hlt]
   have hv := evE_len l[k]
   (try simp only [bK1, bK2, bK3, bK4, bK5, bK6, bK7, bK8]); simp (maxSteps := 10000000) (disch := omega) only [stIdxM, List.length_map, he, ld_ev, go_sem, ↓reduceIte, Nat.reduceEqDiff, Nat.reduceSub, Nat.reduceLeDiff, Nat.reduceAdd, Int.reduceEq, Int.reduceLT, Int.reduceLE]
   refine call_with (okBadM l[k] (hl _ (List.getElem_mem hlt))) ?_
   by_cases hp : checkB l[k] = true
   · (try simp only [bK1, bK2, bK3, bK4, bK5, bK6, bK7, bK8]); simp (maxSteps := 10000000) (disch := omega) only [hp, go_sem, ↓reduceIte, Nat.reduceEqDiff, Nat.reduceSub, Nat.reduceLeDiff, Nat.reduceAdd, Int.reduceEq, Int.reduceLT, Int.reduceLE]
     refine loop_next (k + 1) _ _ rfl ⟨by omega, fun j hj hjk => ?_⟩ (by omega) ?_ ?_
     · by_cases e : j = k
       · subst e; exact hp
       · exact hk2 j hj (by omega)
     · (try simp only [bK1, bK2, bK3, bK4, bK5, bK6, bK7, bK8]); simp (maxSteps := 10000000) (disch := omega) only [go_sem, ↓reduceIte, Nat.reduceEqDiff, Nat.reduceSub, Nat.reduceLeDiff, Nat.reduceAdd, Int.reduceEq, Int.reduceLT, Int.reduceLE]
     · (try simp only [bK1, bK2, bK3, bK4, bK5, bK6, bK7, bK8]); simp (maxSteps := 10000000) (disch := omega) only [go_sem, ↓reduceIte, Nat.reduceEqDiff, Nat.reduceSub, Nat.reduceLeDiff, Nat.reduceAdd, Int.reduceEq, Int.reduceLT, Int.reduceLE]
   · have hp' : checkB l[k] = false := by simpa using hp
     have e : l.findIdx (fun e => !checkB e) = k := (List.findIdx_eq hlt).2 ⟨by simp [hp'], fun j hj => by simp [hk2 j (by omega) hj]⟩
     (try simp only [bK1, bK2, bK3, bK4, bK5, bK6, bK7, bK8]); simp (maxSteps := 10000000) (disch := omega) only [hp', e, hlt, go_sem, ↓reduceIte, Nat.reduceEqDiff, Nat.reduceSub, Nat.reduceLeDiff, Nat.reduceAdd, Int.reduceEq, Int.reduceLT, Int.reduceLE]
 · obtain rfl : k = l.length := by omega
   have e : l.findIdx (fun e => !checkB e) = l.length := List.findIdx_eq_length.2 fun x hx => by
    obtain ⟨j, hj, rfl⟩ := List.getElem_of_mem hx
    simp [hk2 j hj hj]
   (try simp only [bK1, bK2, bK3, bK4, bK5, bK6, bK7, bK8]); simp (maxSteps := 10000000) (disch := omega) only [stIdxM, e, hlt, go_sem, ↓reduceIte, Nat.reduceEqDiff, Nat.reduceSub, Nat.reduceLeDiff, Nat.reduceAdd, Int.reduceEq, Int.reduceLT, Int.reduceLE]
theorem okContM {f : Bool} {z : Nat} {l : List Evt} (hz : l = [] ∨ z = 21) (hl : ∀ e ∈ l, ev e) (hn : l.length ≤ 1000) {h d} :
 FunOk Try.prog 55 [.pv (.sl f z (l.map evE)), .fn (.func 56) []] h d (.pv (.b (!l.all checkB))) [] := by
 refine fun_pure mixed fn55 (by simp) rfl rfl fun F => ?_
 (try simp only [bK1, bK2, bK3, bK4, bK5, bK6, bK7, bK8]); simp (maxSteps := 10000000) (disch := omega) only [ir55, go_sem, ↓reduceIte, Nat.reduceEqDiff, Nat.reduceSub, Nat.reduceLeDiff, Nat.reduceAdd, Int.reduceEq, Int.reduceLT, Int.reduceLE]
 obtain ⟨n, hn', hc⟩ := okIndexM (f := f) (z := z) hz hl hn
 refine call_with (hc _ _) ?_
 cases ha : l.all checkB
 · have h0 : 0 ≤ n := hn'.2 ha
   (try simp only [bK1, bK2, bK3, bK4, bK5, bK6, bK7, bK8]); simp (maxSteps := 10000000) (disch := omega) only [h0, go_sem, ↓reduceIte, Nat.reduceEqDiff, Nat.reduceSub, Nat.reduceLeDiff, Nat.reduceAdd, Int.reduceEq, Int.reduceLT, Int.reduceLE]
 · have h0 : ¬ 0 ≤ n := fun h => by rw [hn'.1 h] at ha; cases ha
   (try simp only [bK1, bK2, bK3, bK4, bK5, bK6, bK7, bK8]); simp (maxSteps := 10000000) (disch := omega) only [h0, go_sem, ↓reduceIte, Nat.reduceEqDiff, Nat.reduceSub, Nat.reduceLeDiff, Nat.reduceAdd, Int.reduceEq, Int.reduceLT, Int.reduceLE]
set_option maxHeartbeats 8000000 in
theorem okCheckM (m : Msg) (hm : mv m) {h d} : FunOk Try.prog 44 [.vec 76 (msgE m)] h d (.pv (.b (checkM m))) [] := by
 refine fun_pure mixed fn44 (by simp) rfl rfl fun F => ?_
 obtain ⟨h1, h2, h3, h4, h5⟩ := hm
 by_cases k1 : m.k = 1 ∨ m.k = 2
 rotate_left
 · have e := checkM_h (m := m) fun h => k1 h.1
   have n1 : ¬ m.k = 1 := fun h => k1 (.inl h)
   have n2 : ¬ m.k = 2 := fun h => k1 (.inr h)
   (try simp only [bK1, bK2, bK3, bK4, bK5, bK6, bK7, bK8]); simp (maxSteps := 10000000) (disch := omega) only [ir44, List.length_map, n1, n2, e, go_sem, ↓reduceIte, Nat.reduceEqDiff, Nat.reduceSub, Nat.reduceLeDiff, Nat.reduceAdd, Int.reduceEq, Int.reduceLT, Int.reduceLE]
 rcases k1 with hk | hk
 ·
  (try simp only [bK1, bK2, bK3, bK4, bK5, bK6, bK7, bK8]); simp (maxSteps := 10000000) (disch := omega) only [ir44, List.length_map, hk, go_sem, ↓reduceIte, Nat.reduceEqDiff, Nat.reduceSub, Nat.reduceLeDiff, Nat.reduceAdd, Int.reduceEq, Int.reduceLT, Int.reduceLE]
  refine call_with (okRepM m.fr) ?_
  by_cases r1 : 1 ≤ m.fr ∧ m.fr ≤ 8
  rotate_left
  · have e := checkM_h (m := m) fun h => r1 h.2.1
    have er : repB m.fr = false := by simp only [repB, r1, decide_false]
    (try simp only [bK1, bK2, bK3, bK4, bK5, bK6, bK7, bK8]); simp (maxSteps := 10000000) (disch := omega) only [er, e, go_sem, ↓reduceIte, Nat.reduceEqDiff, Nat.reduceSub, Nat.reduceLeDiff, Nat.reduceAdd, Int.reduceEq, Int.reduceLT, Int.reduceLE]
  have er : repB m.fr = true := by simp only [repB, r1, and_self, decide_true]
  (try simp only [bK1, bK2, bK3, bK4, bK5, bK6, bK7, bK8]); simp (maxSteps := 10000000) (disch := omega) only [er, go_sem, ↓reduceIte, Nat.reduceEqDiff, Nat.reduceSub, Nat.reduceLeDiff, Nat.reduceAdd, Int.reduceEq, Int.reduceLT, Int.reduceLE]
  refine call_with (okRepM m.to) ?_
  by_cases r2 : 1 ≤ m.to ∧ m.to ≤ 8
  rotate_left
  · have e := checkM_h (m := m) fun h => r2 h.2.2.1
    have er : repB m.to = false := by simp only [repB, r2, decide_false]
    (try simp only [bK1, bK2, bK3, bK4, bK5, bK6, bK7, bK8]); simp (maxSteps := 10000000) (disch := omega) only [er, e, go_sem, ↓reduceIte, Nat.reduceEqDiff, Nat.reduceSub, Nat.reduceLeDiff, Nat.reduceAdd, Int.reduceEq, Int.reduceLT, Int.reduceLE]
  have er : repB m.to = true := by simp only [repB, r2, and_self, decide_true]
  by_cases r3 : m.fr = m.to
  · have e := checkM_h (m := m) fun h => h.2.2.2.1 r3
    (try simp only [bK1, bK2, bK3, bK4, bK5, bK6, bK7, bK8]); simp (maxSteps := 10000000) (disch := omega) only [er, r3, e, go_sem, ↓reduceIte, Nat.reduceEqDiff, Nat.reduceSub, Nat.reduceLeDiff, Nat.reduceAdd, Int.reduceEq, Int.reduceLT, Int.reduceLE]
  by_cases r4 : (8 : Int) < (m.evs.length : Int)
  · have e := checkM_h (m := m) fun h => by have := h.2.2.2.2.1; omega
    (try simp only [bK1, bK2, bK3, bK4, bK5, bK6, bK7, bK8]); simp (maxSteps := 10000000) (disch := omega) only [er, r3, r4, e, go_sem, ↓reduceIte, Nat.reduceEqDiff, Nat.reduceSub, Nat.reduceLeDiff, Nat.reduceAdd, Int.reduceEq, Int.reduceLT, Int.reduceLE]
  by_cases r5 : (0 : Int) < (m.evs.length : Int)
  · have e := checkM_h (m := m) fun h => by have := h.2.2.2.2.2 hk; omega
    (try simp only [bK1, bK2, bK3, bK4, bK5, bK6, bK7, bK8]); simp (maxSteps := 10000000) (disch := omega) only [er, r3, r4, hk, r5, e, List.length_map, go_sem, ↓reduceIte, Nat.reduceEqDiff, Nat.reduceSub, Nat.reduceLeDiff, Nat.reduceAdd, Int.reduceEq, Int.reduceLT, Int.reduceLE]
  have e := checkM_e (m := m) ⟨.inl hk, r1, r2, r3, by omega, fun _ => by omega⟩
  (try simp only [bK1, bK2, bK3, bK4, bK5, bK6, bK7, bK8]); simp (maxSteps := 10000000) (disch := omega) only [er, r3, r4, hk, r5, List.length_map, go_sem, ↓reduceIte, Nat.reduceEqDiff, Nat.reduceSub, Nat.reduceLeDiff, Nat.reduceAdd, Int.reduceEq, Int.reduceLT, Int.reduceLE]
  refine call_with (okContM h1 (fun e he => (h3 e he).1) h2) ?_
  (try simp only [bK1, bK2, bK3, bK4, bK5, bK6, bK7, bK8]); simp (maxSteps := 10000000) (disch := omega) only [e, Bool.not_not, go_sem, ↓reduceIte, Nat.reduceEqDiff, Nat.reduceSub, Nat.reduceLeDiff, Nat.reduceAdd, Int.reduceEq, Int.reduceLT, Int.reduceLE]
 ·
  (try simp only [bK1, bK2, bK3, bK4, bK5, bK6, bK7, bK8]); simp (maxSteps := 10000000) (disch := omega) only [ir44, List.length_map, hk, go_sem, ↓reduceIte, Nat.reduceEqDiff, Nat.reduceSub, Nat.reduceLeDiff, Nat.reduceAdd, Int.reduceEq, Int.reduceLT, Int.reduceLE]
  refine call_with (okRepM m.fr) ?_
  by_cases r1 : 1 ≤ m.fr ∧ m.fr ≤ 8
  rotate_left
  · have e := checkM_h (m := m) fun h => r1 h.2.1
    have er : repB m.fr = false := by simp only [repB, r1, decide_false]
    (try simp only [bK1, bK2, bK3, bK4, bK5, bK6, bK7, bK8]); simp (maxSteps := 10000000) (disch := omega) only [er, e, go_sem, ↓reduceIte, Nat.reduceEqDiff, Nat.reduceSub, Nat.reduceLeDiff, Nat.reduceAdd, Int.reduceEq, Int.reduceLT, Int.reduceLE]
  have er : repB m.fr = true := by simp only [repB, r1, and_self, decide_true]
  (try simp only [bK1, bK2, bK3, bK4, bK5, bK6, bK7, bK8]); simp (maxSteps := 10000000) (disch := omega) only [er, go_sem, ↓reduceIte, Nat.reduceEqDiff, Nat.reduceSub, Nat.reduceLeDiff, Nat.reduceAdd, Int.reduceEq, Int.reduceLT, Int.reduceLE]
  refine call_with (okRepM m.to) ?_
  by_cases r2 : 1 ≤ m.to ∧ m.to ≤ 8
  rotate_left
  · have e := checkM_h (m := m) fun h => r2 h.2.2.1
    have er : repB m.to = false := by simp only [repB, r2, decide_false]
    (try simp only [bK1, bK2, bK3, bK4, bK5, bK6, bK7, bK8]); simp (maxSteps := 10000000) (disch := omega) only [er, e, go_sem, ↓reduceIte, Nat.reduceEqDiff, Nat.reduceSub, Nat.reduceLeDiff, Nat.reduceAdd, Int.reduceEq, Int.reduceLT, Int.reduceLE]
  have er : repB m.to = true := by simp only [repB, r2, and_self, decide_true]
  by_cases r3 : m.fr = m.to
  · have e := checkM_h (m := m) fun h => h.2.2.2.1 r3
    (try simp only [bK1, bK2, bK3, bK4, bK5, bK6, bK7, bK8]); simp (maxSteps := 10000000) (disch := omega) only [er, r3, e, go_sem, ↓reduceIte, Nat.reduceEqDiff, Nat.reduceSub, Nat.reduceLeDiff, Nat.reduceAdd, Int.reduceEq, Int.reduceLT, Int.reduceLE]
  by_cases r4 : (8 : Int) < (m.evs.length : Int)
  · have e := checkM_h (m := m) fun h => by have := h.2.2.2.2.1; omega
    (try simp only [bK1, bK2, bK3, bK4, bK5, bK6, bK7, bK8]); simp (maxSteps := 10000000) (disch := omega) only [er, r3, r4, e, go_sem, ↓reduceIte, Nat.reduceEqDiff, Nat.reduceSub, Nat.reduceLeDiff, Nat.reduceAdd, Int.reduceEq, Int.reduceLT, Int.reduceLE]
  have e := checkM_e (m := m) ⟨.inr hk, r1, r2, r3, by omega, fun h => by omega⟩
  (try simp only [bK1, bK2, bK3, bK4, bK5, bK6, bK7, bK8]); simp (maxSteps := 10000000) (disch := omega) only [er, r3, r4, hk, List.length_map, go_sem, ↓reduceIte, Nat.reduceEqDiff, Nat.reduceSub, Nat.reduceLeDiff, Nat.reduceAdd, Int.reduceEq, Int.reduceLT, Int.reduceLE]
  refine call_with (okContM h1 (fun e he => (h3 e he).1) h2) ?_
  (try simp only [bK1, bK2, bK3, bK4, bK5, bK6, bK7, bK8]); simp (maxSteps := 10000000) (disch := omega) only [e, Bool.not_not, go_sem, ↓reduceIte, Nat.reduceEqDiff, Nat.reduceSub, Nat.reduceLeDiff, Nat.reduceAdd, Int.reduceEq, Int.reduceLT, Int.reduceLE]
end Go.Proofs.Ytfkmlmckihmihaa.Fw
namespace Go.Proofs.Ytfkmlmckihmihaa.Fw
open Go.RowKit Go.Proofs
abbrev v0 : Vc := fun _ => 0
theorem shrinkM_len (v base : Vc) (hv : ∀ i, i < 8 → v i < 4294967296) (hb : ∀ i, i < 8 → base i < 4294967296) : (shrinkB v base).length ≤ 42 := by
 have := byTo_len v base hv hb 8 (by omega)
 simp [shrinkB]; omega
def headB (m : Msg) : List UInt8 := [UInt8.ofNat m.k.toNat, UInt8.ofNat m.fr.toNat, UInt8.ofNat m.to.toNat]
def rowsB (m : Msg) (k : Nat) : List (List UInt8) := (List.range k).map fun i => shrinkB (m.tb i) m.kn
def fldM (m : Msg) (k j : Nat) : List (List UInt8) := [headB m, shrinkB m.kn v0] ++ (rowsB m k ++ (m.evs.take j).map evB)
def fieldsM (m : Msg) : List (List UInt8) := [headB m, shrinkB m.kn v0] ++ (rowsB m 8 ++ m.evs.map evB)
def writeM (m : Msg) : List UInt8 := packB (fieldsM m)
theorem rowsB_succ (m : Msg) (k : Nat) : rowsB m (k + 1) = rowsB m k ++ [shrinkB (m.tb k) m.kn] := by simp [rowsB, List.range_succ]
theorem head_of {m : Msg} (hc : checkM m = true) : HeadM m := Classical.byContradiction fun hn => by rw [checkM_h hn] at hc; cases hc
theorem evs_of {m : Msg} (hc : checkM m = true) : ∀ e ∈ m.evs, checkB e = true := by
 rw [checkM_e (head_of hc), List.all_eq_true] at hc; exact hc
theorem fldM_len (m : Msg) (k j : Nat) : (fldM m k j).length = 2 + k + min j m.evs.length := by simp [fldM, rowsB]; omega
theorem fldM_row (m : Msg) (k : Nat) : (fldM m (k + 1) 0).map bE = (fldM m k 0).map bE ++ [[PV.sl false 1 (bytesE (shrinkB (m.tb k) m.kn))]] := by
 simp [fldM, rowsB_succ, bE]
theorem fldM_ev {m : Msg} {j : Nat} (h : j < m.evs.length) : (fldM m 8 (j + 1)).map bE = (fldM m 8 j).map bE ++ [[PV.sl false 1 (bytesE (evB m.evs[j]))]] := by
 simp only [fldM, List.take_add_one, List.getElem?_eq_getElem h, List.map_append, List.map_cons, List.map_nil, Option.toList_some, bE, List.append_assoc, List.cons_append, List.nil_append]
theorem fldM_all (m : Msg) : fldM m 8 m.evs.length = fieldsM m := by simp [fldM, fieldsM]
theorem evB_le {e : Evt} (h : checkB e = true) : (evB e).length ≤ 3636 := Nat.le_trans (packB_len _) (fields_pack (good_of_check h))
theorem packLen_le {L : List (List UInt8)} {c : Nat} (h : ∀ b ∈ L, b.length ≤ c) : packLen L ≤ (c + 3) * L.length := by
 induction L with
 | nil => simp [packLen]
 | cons b l ih =>
  have h1 := h b List.mem_cons_self
  have h2 := ih fun x hx => h x (List.mem_cons_of_mem _ hx)
  simp only [packLen, List.length_cons, Nat.mul_add, Nat.mul_one]
  omega
theorem fieldsM_le {m : Msg} (hm : mv m) (hc : checkM m = true) : ∀ b ∈ fieldsM m, b.length ≤ 3636 := fun b hb => by
 obtain ⟨h1, h2, h3, h4, h5⟩ := hm
 have v0ok : ∀ i, i < 8 → v0 i < 4294967296 := fun i _ => by show 0 < _; omega
 simp only [fieldsM, rowsB, List.mem_append, List.mem_cons, List.not_mem_nil, or_false, List.mem_map, List.mem_range] at hb
 rcases hb with (hb | hb) | ⟨i, hi, hb⟩ | ⟨e, he, hb⟩
 · subst hb; simp [headB]
 · subst hb; have := shrinkM_len m.kn v0 h4 v0ok; omega
 · subst hb; have := shrinkM_len (m.tb i) m.kn (h5 i hi) h4; omega
 · subst hb; exact evB_le (evs_of hc e he)
theorem fieldsM_len (m : Msg) : (fieldsM m).length = 10 + m.evs.length := by simp [fieldsM, rowsB]; omega
theorem fieldsM_pack {m : Msg} (hm : mv m) (hc : checkM m = true) : packLen (fieldsM m) ≤ 65502 := by
 have h1 := packLen_le (fieldsM_le hm hc)
 have h2 := (head_of hc).2.2.2.2.1
 have h3 := fieldsM_len m
 rw [h3] at h1
 omega
theorem okWriteM_bad (m : Msg) (hm : mv m) (hc : checkM m = false) {h d} : FunOk Try.prog 29 [.vec 76 (msgE m)] h d (.tup [.pv (.sl true 0 []), .pv (.i .i64 7)]) [] := by
 refine fun_pure mixed fn29 (by simp) rfl rfl fun F => ?_
 (try simp only [bK1, bK2, bK3, bK4, bK5, bK6, bK7, bK8]); simp (maxSteps := 10000000) (disch := omega) only [ir29, go_sem, ↓reduceIte, Nat.reduceEqDiff, Nat.reduceSub, Nat.reduceLeDiff, Nat.reduceAdd, Int.reduceEq, Int.reduceLT, Int.reduceLE]
 refine call_with (okCheckM m hm) ?_
 (try simp only [bK1, bK2, bK3, bK4, bK5, bK6, bK7, bK8]); simp (maxSteps := 10000000) (disch := omega) only [hc, go_sem, ↓reduceIte, Nat.reduceEqDiff, Nat.reduceSub, Nat.reduceLeDiff, Nat.reduceAdd, Int.reduceEq, Int.reduceLT, Int.reduceLE]
def stWM (m : Msg) (k : Nat) : FS := mk [(31, .pv (.i .i64 k)), (30, .vec 64 (tE m.tb)), (4, .os 50), (1, .p 1 0)] [(1, some (.var (.vec 76 (msgE m)))), (50, some (.row 1 ((fldM m k 0).map bE)))]
def stWE (m : Msg) (k : Nat) : FS := mk [(45, .pv (.i .i64 k)), (44, .pv (.i .i64 m.evs.length)), (43, .pv (.sl m.f m.z (m.evs.map evE))), (4, .os 50), (1, .p 1 0)] [(1, some (.var (.vec 76 (msgE m)))), (50, some (.row 1 ((fldM m 8 k).map bE)))]
theorem byteW {n : Int} (h0 : 0 ≤ n) (h1 : n ≤ 8) : IntKind.u8.wrap n = ((UInt8.ofNat n.toNat).toNat : Int) := by
 obtain ⟨k, rfl⟩ : ∃ k : Nat, n = k := ⟨n.toNat, by omega⟩
 rw [Int.toNat_natCast]; exact wrap_u8_nat k
set_option maxHeartbeats 8000000 in
theorem okWriteM (m : Msg) (hm : mv m) (hc : checkM m = true) {h d} : FunOk Try.prog 29 [.vec 76 (msgE m)] h d (.tup [.os d, .pv (.i .i64 0)]) [.new d (.row 1 (bytesE (writeM m)))] := by
 refine fun_row2 mixed fn29 (by simp) rfl (.inr (bytesE_all _)) rfl fun F => ?_
 have hH := head_of hc
 have hE := evs_of hc
 obtain ⟨h1, h2, h3, h4, h5⟩ := id hm
 obtain ⟨q1, q2, q3, q4, q5, q6⟩ := hH
 have w1 := byteW (n := m.k) (by omega) (by omega)
 have w2 := byteW (n := m.fr) (by omega) (by omega)
 have w3 := byteW (n := m.to) (by omega) (by omega)
 (try simp only [bK1, bK2, bK3, bK4, bK5, bK6, bK7, bK8]); simp (maxSteps := 10000000) (disch := omega) only [ir29, go_sem, ↓reduceIte, Nat.reduceEqDiff, Nat.reduceSub, Nat.reduceLeDiff, Nat.reduceAdd, Int.reduceEq, Int.reduceLT, Int.reduceLE]
 refine call_with (okCheckM m hm) ?_
 (try simp only [bK1, bK2, bK3, bK4, bK5, bK6, bK7, bK8]); simp (maxSteps := 10000000) (disch := omega) only [hc, w1, w2, w3, go_sem, ↓reduceIte, Nat.reduceEqDiff, Nat.reduceSub, Nat.reduceLeDiff, Nat.reduceAdd, Int.reduceEq, Int.reduceLT, Int.reduceLE]
 have v0ok : ∀ i, i < 8 → v0 i < 4294967296 := fun i _ => by show 0 < _; omega
 refine call_with (okShrink m.kn v0 h4 v0ok) ?_
 have e1 : [[PV.i IntKind.u8 ((UInt8.ofNat m.k.toNat).toNat : Int)], [PV.i IntKind.u8 ((UInt8.ofNat m.fr.toNat).toNat : Int)], [PV.i IntKind.u8 ((UInt8.ofNat m.to.toNat).toNat : Int)]] = bytesE (headB m) := rfl
 (try simp only [bK1, bK2, bK3, bK4, bK5, bK6, bK7, bK8]); simp (maxSteps := 10000000) (disch := omega) only [e1, go_sem, ↓reduceIte, Nat.reduceEqDiff, Nat.reduceSub, Nat.reduceLeDiff, Nat.reduceAdd, Int.reduceEq, Int.reduceLT, Int.reduceLE]
 refine loop_ok mixed (stWM m) (fun k => k ≤ 8) (fun k => 8 - k) 0 (by simp) (wk_ren 28 50 (by decide) rfl (weak_mk ?_ ?_)) fun k hk => ?_
 · (try simp only [bK1, bK2, bK3, bK4, bK5, bK6, bK7, bK8]); simp (maxSteps := 10000000) (disch := omega) only [go_sem, ↓reduceIte, Nat.reduceEqDiff, Nat.reduceSub, Nat.reduceLeDiff, Nat.reduceAdd, Int.reduceEq, Int.reduceLT, Int.reduceLE]
 · (try simp only [bK1, bK2, bK3, bK4, bK5, bK6, bK7, bK8]); simp (maxSteps := 10000000) (disch := omega) only [go_sem, ↓reduceIte, Nat.reduceEqDiff, Nat.reduceSub, Nat.reduceLeDiff, Nat.reduceAdd, Int.reduceEq, Int.reduceLT, Int.reduceLE]
   rfl
 by_cases hlt : k < 8
 · have hr := rowsB_succ m k
   (try simp only [bK1, bK2, bK3, bK4, bK5, bK6, bK7, bK8]); simp (maxSteps := 10000000) (disch := omega) only [stWM, hlt, go_sem, ↓reduceIte, Nat.reduceEqDiff, Nat.reduceSub, Nat.reduceLeDiff, Nat.reduceAdd, Int.reduceEq, Int.reduceLT, Int.reduceLE]
   refine call_with (okShrink (m.tb k) m.kn (h5 k hlt) h4) ?_
   have hl := fldM_len m k 0
   have hf := fldM_row m k
   (try simp only [bK1, bK2, bK3, bK4, bK5, bK6, bK7, bK8]); simp (maxSteps := 10000000) (disch := omega) only [List.length_map, go_sem, ↓reduceIte, Nat.reduceEqDiff, Nat.reduceSub, Nat.reduceLeDiff, Nat.reduceAdd, Int.reduceEq, Int.reduceLT, Int.reduceLE]
   refine ⟨k + 1, by omega, by omega, wk_ren 40 50 (by decide) rfl (weak_mk ?_ ?_)⟩
   · (try simp only [bK1, bK2, bK3, bK4, bK5, bK6, bK7, bK8]); simp (maxSteps := 10000000) (disch := omega) only [go_sem, ↓reduceIte, Nat.reduceEqDiff, Nat.reduceSub, Nat.reduceLeDiff, Nat.reduceAdd, Int.reduceEq, Int.reduceLT, Int.reduceLE]
   · (try simp only [bK1, bK2, bK3, bK4, bK5, bK6, bK7, bK8]); simp (maxSteps := 10000000) (disch := omega) only [hf, go_sem, ↓reduceIte, Nat.reduceEqDiff, Nat.reduceSub, Nat.reduceLeDiff, Nat.reduceAdd, Int.reduceEq, Int.reduceLT, Int.reduceLE]
 obtain rfl : k = 8 := by omega
 (try simp only [bK1, bK2, bK3, bK4, bK5, bK6, bK7, bK8]); simp (maxSteps := 10000000) (disch := omega) only [stWM, List.length_map, go_sem, ↓reduceIte, Nat.reduceEqDiff, Nat.reduceSub, Nat.reduceLeDiff, Nat.reduceAdd, Int.reduceEq, Int.reduceLT, Int.reduceLE]
 refine loop_ok mixed (stWE m) (fun k => k ≤ m.evs.length) (fun k => m.evs.length - k) 0 (by simp) (weak_mk ?_ ?_) fun j hj => ?_
 · (try simp only [bK1, bK2, bK3, bK4, bK5, bK6, bK7, bK8]); simp (maxSteps := 10000000) (disch := omega) only [go_sem, ↓reduceIte, Nat.reduceEqDiff, Nat.reduceSub, Nat.reduceLeDiff, Nat.reduceAdd, Int.reduceEq, Int.reduceLT, Int.reduceLE]
 · (try simp only [bK1, bK2, bK3, bK4, bK5, bK6, bK7, bK8]); simp (maxSteps := 10000000) (disch := omega) only [go_sem, ↓reduceIte, Nat.reduceEqDiff, Nat.reduceSub, Nat.reduceLeDiff, Nat.reduceAdd, Int.reduceEq, Int.reduceLT, Int.reduceLE]
 by_cases hlj : j < m.evs.length
 · have hz2 : m.z = 21 := h1.resolve_left fun e => by rw [e] at hlj; simp at hlj
   have he : (m.evs.map evE)[j]? = some (evE m.evs[j]) := by simp [hlj]
   have hl := fldM_len m 8 j
   have hf := fldM_ev hlj
   have hmem := List.getElem_mem hlj
   have hce := hE _ hmem
   have hev := (h3 _ hmem).1
   have hvl := evE_len m.evs[j]
   generalize m.evs[j] = e at *
   (try simp only [bK1, bK2, bK3, bK4, bK5, bK6, bK7, bK8]); simp (maxSteps := 10000000) (disch := omega) only [stWE, List.length_map, hz2, he, ld_ev, hlj, go_sem, ↓reduceIte, Nat.reduceEqDiff, Nat.reduceSub, Nat.reduceLeDiff, Nat.reduceAdd, Int.reduceEq, Int.reduceLT, Int.reduceLE]
   refine call_with (okWrite e hev hce) ?_
   (try simp only [bK1, bK2, bK3, bK4, bK5, bK6, bK7, bK8]); simp (maxSteps := 10000000) (disch := omega) only [List.length_map, go_sem, ↓reduceIte, Nat.reduceEqDiff, Nat.reduceSub, Nat.reduceLeDiff, Nat.reduceAdd, Int.reduceEq, Int.reduceLT, Int.reduceLE]
   refine ⟨j + 1, by omega, by omega, wk_ren 60 50 (by decide) rfl (weak_mk ?_ ?_)⟩
   · (try simp only [bK1, bK2, bK3, bK4, bK5, bK6, bK7, bK8]); simp (maxSteps := 10000000) (disch := omega) only [hz2, go_sem, ↓reduceIte, Nat.reduceEqDiff, Nat.reduceSub, Nat.reduceLeDiff, Nat.reduceAdd, Int.reduceEq, Int.reduceLT, Int.reduceLE]
   · (try simp only [bK1, bK2, bK3, bK4, bK5, bK6, bK7, bK8]); simp (maxSteps := 10000000) (disch := omega) only [hf, go_sem, ↓reduceIte, Nat.reduceEqDiff, Nat.reduceSub, Nat.reduceLeDiff, Nat.reduceAdd, Int.reduceEq, Int.reduceLT, Int.reduceLE]
 obtain rfl : j = m.evs.length := by omega
 have hal := fldM_all m
 (try simp only [bK1, bK2, bK3, bK4, bK5, bK6, bK7, bK8]); simp (maxSteps := 10000000) (disch := omega) only [stWE, hal, go_sem, ↓reduceIte, Nat.reduceEqDiff, Nat.reduceSub, Nat.reduceLeDiff, Nat.reduceAdd, Int.reduceEq, Int.reduceLT, Int.reduceLE]
 have hfl := fieldsM_le hm hc
 have hfp := fieldsM_pack hm hc
 refine call_with (okPack (f := false) (z := 1) (L := fieldsM m) rfl rfl (bsEq_map _) (.inr rfl) (by omega) fun b hb => by have := hfl b hb; omega) ?_
 (try simp only [bK1, bK2, bK3, bK4, bK5, bK6, bK7, bK8]); simp (maxSteps := 10000000) (disch := omega) only [writeM, go_sem, ↓reduceIte, Nat.reduceEqDiff, Nat.reduceSub, Nat.reduceLeDiff, Nat.reduceAdd, Int.reduceEq, Int.reduceLT, Int.reduceLE]
end Go.Proofs.Ytfkmlmckihmihaa.Fw
namespace Go.Proofs.Ytfkmlmckihmihaa.Fw
open Go.RowKit Go.Proofs
def canM (m : Msg) : Msg := { m with f := m.evs.isEmpty, z := if m.evs.isEmpty then 0 else 21, evs := m.evs.map canon }
def SegsC : List SV → List PV → Prop
 | [], cs => cs = []
 | .pv x :: l, cs => ∃ r, cs = x :: r ∧ SegsC l r
 | .vec n c :: l, cs => c.length = n ∧ ∃ r, cs = c ++ r ∧ SegsC l r
 | _ :: _, _ => False
theorem cells_seg {V : View} {ρ : Nat → Value} : ∀ {l : List SV} {cs : List PV} {vs : List Value}, SegsC l cs → PCells V cs vs → Cells V ρ l vs
 | [], cs, vs, h, hp => by
  have h : cs = [] := h
  subst h
  simp only [Cells]
  exact List.eq_nil_of_length_eq_zero hp.1.symm
 | .pv x :: l, cs, vs, h, hp => by
  obtain ⟨r, rfl, h⟩ := h
  simp only [Cells]
  obtain ⟨v, hv, hx⟩ := hp.2 0 x rfl
  cases vs with
  | nil => cases hv
  | cons u us =>
   have : u = v := by simpa using hv
   subst this
   have hf : flatV u = [u] := by have := hx.one; cases u <;> simp_all [flatV, oneCell]
   refine ⟨u, us, by rw [hf]; rfl, by simp only [Conc]; exact hx, by rw [hf]; rfl, fun c hc => ?_, cells_seg h ⟨by simpa using hp.1, fun j y hy => by simpa using hp.2 (j + 1) y (by simpa using hy)⟩⟩
   rw [hf] at hc
   rw [List.mem_singleton.1 hc]
   exact hx.one
 | .vec n c :: l, cs, vs, h, hp => by
  obtain ⟨hn, r, rfl, h⟩ := h
  simp only [Cells]
  have hl : c.length + r.length = vs.length := by simpa using hp.1
  have hA : PCells V c (vs.take n) := ⟨by simp; omega, fun j y hy => by
   have hj := (List.getElem?_eq_some_iff.1 hy).1
   obtain ⟨v, h1, h2⟩ := hp.2 j y (by rw [List.getElem?_append_left hj]; exact hy)
   exact ⟨v, by rw [List.getElem?_take_of_lt (by omega)]; exact h1, h2⟩⟩
  refine ⟨.agg ⟨vs.take n⟩, vs.drop n, (List.take_append_drop n vs).symm, by simp only [Conc]; exact ⟨_, rfl, by simp; omega, hA⟩, by simp [flatV, SV.width]; omega, fun x hx => hA.one x hx, cells_seg h ⟨by simp; omega, fun j y hy => by
   obtain ⟨v, h1, h2⟩ := hp.2 (n + j) y (by rw [List.getElem?_append_right (by omega)]; simpa [hn] using hy)
   exact ⟨v, by rw [List.getElem?_drop]; exact h1, h2⟩⟩⟩
 | .agg _ :: _, _, _, h, _ => h.elim
 | .tup _ :: _, _, _, h, _ => h.elim
 | .p _ _ :: _, _, _, h, _ => h.elim
 | .ps _ _ :: _, _, _, h, _ => h.elim
 | .pr _ _ _ _ :: _, _, _, h, _ => h.elim
 | .pi _ _ _ _ :: _, _, _, h, _ => h.elim
 | .os _ :: _, _, _, h, _ => h.elim
 | .ov _ _ _ _ :: _, _, _, h, _ => h.elim
 | .fn _ _ :: _, _, _, h, _ => h.elim
 | .dead :: _, _, _, h, _ => h.elim
theorem imp_seg {l : List SV} {cs : List PV} {n : Nat} (h : SegsC l cs) : Imp (.vec n cs) (.agg l) := by
 intro V ρ v hv
 simp only [Conc] at hv ⊢
 obtain ⟨vs, rfl, _, hp⟩ := hv
 exact ⟨vs, rfl, cells_seg h hp⟩
def evS (l : List Evt) (k : Nat) : SV := if k = 0 then .pv (.sl true 0 []) else if k = l.length then .pv (.sl false 21 (l.map evE)) else .os 60
def evK (l : List Evt) (k : Nat) : Option Blk := if k = 0 ∨ k = l.length then none else some (.row 21 ((l.take k).map evE))
theorem evS_0 (l : List Evt) : evS l 0 = .pv (.sl true 0 []) := if_pos rfl
theorem evK_0 (l : List Evt) : evK l 0 = none := if_pos (.inl rfl)
theorem evS_k {l : List Evt} {k : Nat} (h : 0 < k ∧ k < l.length) : evS l k = .os 60 := by unfold evS; rw [if_neg (by omega), if_neg (by omega)]
theorem evK_k {l : List Evt} {k : Nat} (h : 0 < k ∧ k < l.length) : evK l k = some (.row 21 ((l.take k).map evE)) := if_neg (by omega)
theorem evS_n {l : List Evt} {k : Nat} (h : 0 < k ∧ k = l.length) : evS l k = .pv (.sl false 21 (l.map evE)) := by unfold evS; rw [if_neg (by omega), if_pos h.2]
theorem evK_n {l : List Evt} {k : Nat} (h : 0 < k ∧ k = l.length) : evK l k = none := if_pos (.inr h.2)
def tbM (m : Msg) (t : Nat → Vc) : Msg := { m with tb := t, f := true, z := 0, evs := [] }
theorem splice_tb (m : Msg) (t : Nat → Vc) {k : Nat} (hk : k < 8) (v : Vc) : splice (msgE (tbM m t)) (11 + k * 8) (vE v) = msgE (tbM m (setV t k v)) := by
 have e : tE (setV t k v) = splice (tE t) (k * 8) (vE v) := (splice_tE hk t v).symm
 simp only [splice, msgE, tbM] at e ⊢
 rw [e]
 have hk2 : k = 0 ∨ k = 1 ∨ k = 2 ∨ k = 3 ∨ k = 4 ∨ k = 5 ∨ k = 6 ∨ k = 7 := by omega
 rcases hk2 with rfl | rfl | rfl | rfl | rfl | rfl | rfl | rfl <;> rfl
def segJ (m : Msg) (x : SV) : List SV := [.pv (.i .i64 m.k), .pv (.i .i64 m.fr), .pv (.i .i64 m.to), .vec 8 (vE m.kn), .vec 64 (tE m.tb), x]
abbrev seg0 : List SV := [.pv (.i .i64 0), .pv (.i .i64 0), .pv (.i .i64 0), .vec 8 (vE fun _ => 0), .vec 64 (tE fun _ _ => 0), .pv (.sl true 0 [])]
theorem writeM_can (m : Msg) : writeM (canM m) = writeM m := by
 have e : (canM m).evs.map evB = m.evs.map evB := by show (m.evs.map canon).map evB = _; rw [List.map_map]; exact List.map_congr_left fun e _ => rfl
 unfold writeM fieldsM
 rw [e]; rfl
theorem mv_can {m : Msg} (h : mv m) : mv (canM m) := by
 obtain ⟨h1, h2, h3, h4, h5⟩ := h
 refine ⟨?_, by show (m.evs.map canon).length ≤ _; simpa using h2, fun e he => ?_, h4, h5⟩
 · show m.evs.map canon = [] ∨ (if m.evs.isEmpty then 0 else 21) = 21
   cases m.evs <;> simp
 · obtain ⟨x, hx, rfl⟩ := List.mem_map.1 (show e ∈ m.evs.map canon from he)
   exact ⟨canon_ev (h3 x hx).1, (h3 x hx).2⟩
theorem check_can (m : Msg) : checkM (canM m) = checkM m := by
 have e : (canM m).evs.all checkB = m.evs.all checkB := by
  show (m.evs.map canon).all checkB = _
  rw [List.all_map]
  congr 1
  funext x
  exact check_canon x
 have hH : HeadM (canM m) ↔ HeadM m := by
  unfold HeadM
  rw [show (canM m).evs.length = m.evs.length from List.length_map _]
  exact Iff.rfl
 by_cases h : HeadM m
 · rw [checkM_e h, checkM_e (hH.2 h), e]
 · rw [checkM_h h, checkM_h fun g => h (hH.1 g)]
theorem okWriteC (m : Msg) (hm : mv m) (hc : checkM m = true) {x : SV} (hx : .agg (segM (canM m)) = x) {h d} : FunOk Try.prog 29 [x] h d (.tup [.os d, .pv (.i .i64 0)]) [.new d (.row 1 (bytesE (writeM m)))] := by
 subst hx
 have hwr := okWriteM (canM m) (mv_can hm) ((check_can m).trans hc) (h := h) (d := d)
 rw [writeM_can] at hwr
 exact hwr.imp ⟨imp_agg (segM_cells _) (msgE_len _), trivial⟩ (by simp [tops, tn])
theorem mkOr_sg (e : Evt) (K : KK) : mkOr (cut (segE e) 0 21) true (some (evE e)) 0 21 K = K (.agg (segE e)) [] := (rfl)
def stRE (m : Msg) (l : List UInt8) (k : Nat) : FS := mk [(89, .pv (.i .i64 k)), (88, .pv (.i .i64 m.evs.length)), (87, .pv (.sl false 1 ((m.evs.map evB).map bE))), (2, .p 2 0), (6, .p 6 0), (0, .pv (.sl false 1 (bytesE l)))] [(6, some (.var (.agg (segJ m (evS (m.evs.map canon) k))))), (60, evK (m.evs.map canon) k), (2, some (.var (.agg seg0)))]
def stRT (m : Msg) (l : List UInt8) (E : List (List PV)) (k : Nat) : FS := mk [(65, .pv (.i .i64 k)), (2, .p 2 0), (4, .os 50), (6, .p 6 0), (0, .pv (.sl false 1 (bytesE l)))] [(6, some (.var (.vec 76 (msgE (tbM m fun i => if i < k then m.tb i else v0))))), (50, some (.row 1 E)), (2, some (.var (.agg seg0)))]
set_option maxHeartbeats 8000000 in
theorem okReadM (m : Msg) (hm : mv m) (hc : checkM m = true) {h d} : FunOk Try.prog 41 [.pv (.sl false 1 (bytesE (writeM m)))] h d (.tup [.agg (segM (canM m)), .pv (.i .i64 0)]) [] := by
 refine fun_pureW mixed fn41 (by simp) rfl rfl fun F => ?_
 have hH := head_of hc
 have hE := evs_of hc
 obtain ⟨h1, h2, h3, h4, h5⟩ := id hm
 obtain ⟨q1, q2, q3, q4, q5, q6⟩ := hH
 have hfl := fieldsM_le hm hc
 have hfp := fieldsM_pack hm hc
 have hfn := fieldsM_len m
 have hpl := packB_len (fieldsM m)
 have hu : unpackG (writeM m) [] 18 = (fieldsM m, 0) := unpack_all (fieldsM m) 18 (fun b hb => by have := hfl b hb; omega) (by omega)
 have hwl : (writeM m).length ≤ 65502 := by unfold writeM; omega
 have hel : ((fieldsM m).map bE).length = 10 + m.evs.length := by simp [hfn]
 have f0 : ((fieldsM m).map bE)[0]? = some [.sl false 1 (bytesE (headB m))] := by simp [fieldsM, bE]
 have f1 : ((fieldsM m).map bE)[Int.toNat 1]? = some [.sl false 1 (bytesE (shrinkB m.kn v0))] := by simp [fieldsM, bE]
 have ft : ∀ k, k < 8 → ((fieldsM m).map bE)[2 + k]? = some [.sl false 1 (bytesE (shrinkB (m.tb k) m.kn))] := fun k hk => by
  rw [show 2 + k = k + 1 + 1 by omega]
  simp only [fieldsM, rowsB, bE, List.cons_append, List.nil_append, List.map_cons, List.getElem?_cons_succ, List.map_append, List.map_map]
  rw [List.getElem?_append_left (by simpa using hk)]
  simp [hk]; rfl
 have fe : ((fieldsM m).map bE).drop 10 = (m.evs.map evB).map bE := by
  have : fieldsM m = ([headB m, shrinkB m.kn v0] ++ rowsB m 8) ++ m.evs.map evB := by simp [fieldsM]
  rw [this, List.map_append, List.drop_left' (by simp [rowsB])]
 have b0 : (bytesE (headB m))[0]? = some [.i .u8 ((UInt8.ofNat m.k.toNat).toNat : Int)] := rfl
 have b1 : (bytesE (headB m))[Int.toNat 1]? = some [.i .u8 ((UInt8.ofNat m.fr.toNat).toNat : Int)] := rfl
 have b2 : (bytesE (headB m))[Int.toNat 2]? = some [.i .u8 ((UInt8.ofNat m.to.toNat).toNat : Int)] := rfl
 have bl : (bytesE (headB m)).length = 3 := rfl
 have wb : ∀ n : Int, 0 ≤ n → n ≤ 8 → IntKind.i64.wrap ((UInt8.ofNat n.toNat).toNat : Int) = n := fun n h0 h8 => by
  rw [toNat_ofNat_lt (by omega), Int.toNat_of_nonneg h0]; exact wrap_i64 (by omega)
 have w1 := wb m.k (by omega) (by omega)
 have w2 := wb m.fr (by omega) (by omega)
 have w3 := wb m.to (by omega) (by omega)
 have v0ok : ∀ i, i < 8 → v0 i < 4294967296 := fun i _ => by show 0 < _; omega
 have gk := growB_shrink m.kn v0 h4 v0ok
 have gke : vE (growB (shrinkB m.kn v0) v0).1 = vE m.kn := vE_ext gk.2
 have skl := shrinkM_len m.kn v0 h4 v0ok
 generalize hEE : (fieldsM m).map bE = E at *
 (try simp only [bK1, bK2, bK3, bK4, bK5, bK6, bK7, bK8]); simp (maxSteps := 10000000) (disch := omega) only [ir41, go_sem, ↓reduceIte, Nat.reduceEqDiff, Nat.reduceSub, Nat.reduceLeDiff, Nat.reduceAdd, Int.reduceEq, Int.reduceLT, Int.reduceLE]
 refine call_with (okUnpack (f := false) (z := 1) (b := writeM m) (most := 18) (.inr rfl) (by omega)) ?_
 rw [hu, hEE]
 (try simp only [bK1, bK2, bK3, bK4, bK5, bK6, bK7, bK8]); simp (maxSteps := 10000000) (disch := omega) only [hel, f0, b0, b1, b2, bl, w1, w2, w3, ld_sl, load_c0, f1, go_sem, ↓reduceIte, Nat.reduceEqDiff, Nat.reduceSub, Nat.reduceLeDiff, Nat.reduceAdd, Int.reduceEq, Int.reduceLT, Int.reduceLE]
 refine call_with (okGrow v0 v0ok (by omega) rfl rfl (.inr rfl)) ?_
 (try simp only [bK1, bK2, bK3, bK4, bK5, bK6, bK7, bK8]); simp (maxSteps := 10000000) (disch := omega) only [gk.1, gke, go_sem, ↓reduceIte, Nat.reduceEqDiff, Nat.reduceSub, Nat.reduceLeDiff, Nat.reduceAdd, Int.reduceEq, Int.reduceLT, Int.reduceLE]
 refine loop_ok mixed (stRT m (writeM m) E) (fun k => k ≤ 8) (fun k => 8 - k) 0 (by simp) (wk_ren 16 50 (by decide) rfl (weak_mk ?_ ?_)) fun k hk => ?_
 · (try simp only [bK1, bK2, bK3, bK4, bK5, bK6, bK7, bK8]); simp (maxSteps := 10000000) (disch := omega) only [go_sem, ↓reduceIte, Nat.reduceEqDiff, Nat.reduceSub, Nat.reduceLeDiff, Nat.reduceAdd, Int.reduceEq, Int.reduceLT, Int.reduceLE]
 · (try simp only [bK1, bK2, bK3, bK4, bK5, bK6, bK7, bK8]); simp (maxSteps := 10000000) (disch := omega) only [go_sem, ↓reduceIte, Nat.reduceEqDiff, Nat.reduceSub, Nat.reduceLeDiff, Nat.reduceAdd, Int.reduceEq, Int.reduceLT, Int.reduceLE]
   refine imp_agg ?_ (msgE_len _)
   rw [msgE, show tE (tbM m fun i => if i < 0 then m.tb i else v0).tb = tE (fun _ _ => 0) from tE_none m.tb (fun _ => v0) rfl]
   rfl
 by_cases hlt : k < 8
 · have fk := ft k hlt
   have en : ((2 : Int) + (k : Int)) = ((2 + k : Nat) : Int) := by omega
   have gt := growB_shrink (m.tb k) m.kn (h5 k hlt) h4
   have gte : vE (growB (shrinkB (m.tb k) m.kn) m.kn).1 = vE (m.tb k) := vE_ext gt.2
   have tl := shrinkM_len (m.tb k) m.kn (h5 k hlt) h4
   have hsp := splice_tb m (fun i => if i < k then m.tb i else v0) hlt (m.tb k)
   have hkn : ∀ t, (tbM m t).kn = m.kn := fun _ => rfl
   (try simp only [bK1, bK2, bK3, bK4, bK5, bK6, bK7, bK8]); simp (maxSteps := 10000000) (disch := omega) only [stRT, hlt, en, fk, hel, ld_sl, hkn, go_sem, ↓reduceIte, Nat.reduceEqDiff, Nat.reduceSub, Nat.reduceLeDiff, Nat.reduceAdd, Int.reduceEq, Int.reduceLT, Int.reduceLE]
   refine call_with (okGrow (l := shrinkB (m.tb k) m.kn) m.kn h4 (by omega) rfl rfl (.inr rfl)) ?_
   (try simp only [bK1, bK2, bK3, bK4, bK5, bK6, bK7, bK8]); simp (maxSteps := 10000000) (disch := omega) only [gt.1, gte, hsp, go_sem, ↓reduceIte, Nat.reduceEqDiff, Nat.reduceSub, Nat.reduceLeDiff, Nat.reduceAdd, Int.reduceEq, Int.reduceLT, Int.reduceLE]
   refine loop_next (k + 1) _ _ rfl (by omega) (by omega) ?_ ?_
   · (try simp only [bK1, bK2, bK3, bK4, bK5, bK6, bK7, bK8]); simp (maxSteps := 10000000) (disch := omega) only [go_sem, ↓reduceIte, Nat.reduceEqDiff, Nat.reduceSub, Nat.reduceLeDiff, Nat.reduceAdd, Int.reduceEq, Int.reduceLT, Int.reduceLE]
   · (try simp only [bK1, bK2, bK3, bK4, bK5, bK6, bK7, bK8]); simp (maxSteps := 10000000) (disch := omega) only [go_sem, ↓reduceIte, Nat.reduceEqDiff, Nat.reduceSub, Nat.reduceLeDiff, Nat.reduceAdd, Int.reduceEq, Int.reduceLT, Int.reduceLE]
     refine imp_vec ?_
     rw [msgE, msgE, show tE (tbM m (setV (fun i => if i < k then m.tb i else v0) k (m.tb k))).tb = tE (tbM m fun i => if i < k + 1 then m.tb i else v0).tb from tE_setV_lt _ _ _ fun i hi => rfl]
     rfl
 obtain rfl : k = 8 := by omega
 have htb : tE (tbM m fun i => if i < 8 then m.tb i else v0).tb = tE m.tb := tE_all _ _ (Nat.le_refl 8)
 have etk : List.take (10 + m.evs.length) E = E := List.take_of_length_le (by omega)
 have e10 : Int.toNat 10 = 10 := rfl
 (try simp only [bK1, bK2, bK3, bK4, bK5, bK6, bK7, bK8]); simp (maxSteps := 10000000) (disch := omega) only [stRT, hel, etk, e10, fe, List.length_map, go_sem, ↓reduceIte, Nat.reduceEqDiff, Nat.reduceSub, Nat.reduceLeDiff, Nat.reduceAdd, Int.reduceEq, Int.reduceLT, Int.reduceLE]
 refine loop_ok mixed (stRE m (writeM m)) (fun k => k ≤ m.evs.length) (fun k => m.evs.length - k) 0 (by simp) (weak_mk ?_ ?_) fun k hk => ?_
 · (try simp only [bK1, bK2, bK3, bK4, bK5, bK6, bK7, bK8]); simp (maxSteps := 10000000) (disch := omega) only [go_sem, ↓reduceIte, Nat.reduceEqDiff, Nat.reduceSub, Nat.reduceLeDiff, Nat.reduceAdd, Int.reduceEq, Int.reduceLT, Int.reduceLE]
 · (try simp only [bK1, bK2, bK3, bK4, bK5, bK6, bK7, bK8]); simp (maxSteps := 10000000) (disch := omega) only [segJ, evS_0, evK_0, go_sem, ↓reduceIte, Nat.reduceEqDiff, Nat.reduceSub, Nat.reduceLeDiff, Nat.reduceAdd, Int.reduceEq, Int.reduceLT, Int.reduceLE]
   refine imp_seg ⟨_, rfl, _, rfl, _, rfl, vE_length _, _, rfl, tE_length _, [.sl true 0 []], ?_, _, rfl, rfl⟩
   rw [← htb]; rfl
 by_cases hlt : k < m.evs.length
 · have he : ((m.evs.map evB).map bE)[k]? = some [.sl false 1 (bytesE (evB m.evs[k]))] := by simp [hlt]; rfl
   have hmem := List.getElem_mem hlt
   have hce := hE _ hmem
   have hev := (h3 _ hmem).1
   have ht : ((m.evs.map canon).take (k + 1)).map evE = ((m.evs.map canon).take k).map evE ++ [evE (canon m.evs[k])] := by
    rw [List.take_add_one, List.getElem?_eq_getElem (by simpa using hlt)]; simp
   have hvl := evE_len (canon m.evs[k])
   have hkl : ((m.evs.map canon).take k).length ≤ 8 := by simp; omega
   have hkl' : (((m.evs.map canon).take k).map evE).length ≤ 8 := by simpa using hkl
   have hz := evE_len (canon m.evs[k])
   generalize m.evs[k] = e at *
   generalize hN : m.evs.map canon = N at *
   have hNl : N.length = m.evs.length := by rw [← hN]; simp
   (try simp only [bK1, bK2, bK3, bK4, bK5, bK6, bK7, bK8]); simp (maxSteps := 10000000) (disch := omega) only [stRE, segJ, hlt, he, ld_sl, List.length_map, hN, go_sem, ↓reduceIte, Nat.reduceEqDiff, Nat.reduceSub, Nat.reduceLeDiff, Nat.reduceAdd, Int.reduceEq, Int.reduceLT, Int.reduceLE]
   refine call_with (okRead_ok e hce hev) ?_
   by_cases hk0 : k = 0
   · subst hk0
     rw [List.take_zero, List.map_nil, List.nil_append, Nat.zero_add] at ht
     have h0 : ([evE (canon e)] = []) = False := by simp
     (try simp only [bK1, bK2, bK3, bK4, bK5, bK6, bK7, bK8]); simp (maxSteps := 10000000) (disch := omega) only [evS_0, evK_0, seg_cells, mkOr_sg, hz, h0, go_sem, ↓reduceIte, Nat.reduceEqDiff, Nat.reduceSub, Nat.reduceLeDiff, Nat.reduceAdd, Int.reduceEq, Int.reduceLT, Int.reduceLE]
     by_cases hn : 1 < m.evs.length
     · have sS := evS_k (l := N) (k := 1) ⟨by omega, by omega⟩
       have sK := evK_k (l := N) (k := 1) ⟨by omega, by omega⟩
       refine ⟨1, by omega, by omega, wk_ren 105 60 (by decide) rfl (weak_mk ?_ ?_)⟩
       · (try simp only [bK1, bK2, bK3, bK4, bK5, bK6, bK7, bK8]); simp (maxSteps := 10000000) (disch := omega) only [go_sem, ↓reduceIte, Nat.reduceEqDiff, Nat.reduceSub, Nat.reduceLeDiff, Nat.reduceAdd, Int.reduceEq, Int.reduceLT, Int.reduceLE]
       · (try simp only [bK1, bK2, bK3, bK4, bK5, bK6, bK7, bK8]); simp (maxSteps := 10000000) (disch := omega) only [ht, segJ, sS, sK, hN, go_sem, ↓reduceIte, Nat.reduceEqDiff, Nat.reduceSub, Nat.reduceLeDiff, Nat.reduceAdd, Int.reduceEq, Int.reduceLT, Int.reduceLE]
     · have sS := evS_n (l := N) (k := 1) ⟨by omega, by omega⟩
       have sK := evK_n (l := N) (k := 1) ⟨by omega, by omega⟩
       have htk : N.take (1) = N := List.take_of_length_le (by omega)
       rw [htk] at ht
       refine ⟨1, by omega, by omega, wk_frz 105 rfl (weak_mk ?_ ?_)⟩
       · (try simp only [bK1, bK2, bK3, bK4, bK5, bK6, bK7, bK8]); simp (maxSteps := 10000000) (disch := omega) only [hN, go_sem, ↓reduceIte, Nat.reduceEqDiff, Nat.reduceSub, Nat.reduceLeDiff, Nat.reduceAdd, Int.reduceEq, Int.reduceLT, Int.reduceLE]
       · (try simp only [bK1, bK2, bK3, bK4, bK5, bK6, bK7, bK8]); simp (maxSteps := 10000000) (disch := omega) only [ht, segJ, sS, sK, hN, go_sem, ↓reduceIte, Nat.reduceEqDiff, Nat.reduceSub, Nat.reduceLeDiff, Nat.reduceAdd, Int.reduceEq, Int.reduceLT, Int.reduceLE]
   · have sS0 := evS_k (l := N) (k := k) ⟨by omega, by omega⟩
     have sK0 := evK_k (l := N) (k := k) ⟨by omega, by omega⟩
     (try simp only [bK1, bK2, bK3, bK4, bK5, bK6, bK7, bK8]); simp (maxSteps := 10000000) (disch := omega) only [sS0, sK0, seg_cells, mkOr_sg, hz, go_sem, ↓reduceIte, Nat.reduceEqDiff, Nat.reduceSub, Nat.reduceLeDiff, Nat.reduceAdd, Int.reduceEq, Int.reduceLT, Int.reduceLE]
     by_cases hn : k + 1 < m.evs.length
     · have sS := evS_k (l := N) (k := k + 1) ⟨by omega, by omega⟩
       have sK := evK_k (l := N) (k := k + 1) ⟨by omega, by omega⟩
       refine ⟨k + 1, by omega, by omega, wk_ren 105 60 (by decide) rfl (weak_mk ?_ ?_)⟩
       · (try simp only [bK1, bK2, bK3, bK4, bK5, bK6, bK7, bK8]); simp (maxSteps := 10000000) (disch := omega) only [go_sem, ↓reduceIte, Nat.reduceEqDiff, Nat.reduceSub, Nat.reduceLeDiff, Nat.reduceAdd, Int.reduceEq, Int.reduceLT, Int.reduceLE]
       · (try simp only [bK1, bK2, bK3, bK4, bK5, bK6, bK7, bK8]); simp (maxSteps := 10000000) (disch := omega) only [ht, segJ, sS, sK, hN, go_sem, ↓reduceIte, Nat.reduceEqDiff, Nat.reduceSub, Nat.reduceLeDiff, Nat.reduceAdd, Int.reduceEq, Int.reduceLT, Int.reduceLE]
     · have sS := evS_n (l := N) (k := k + 1) ⟨by omega, by omega⟩
       have sK := evK_n (l := N) (k := k + 1) ⟨by omega, by omega⟩
       have htk : N.take (k + 1) = N := List.take_of_length_le (by omega)
       rw [htk] at ht
       refine ⟨k + 1, by omega, by omega, wk_frz 105 rfl (weak_mk ?_ ?_)⟩
       · (try simp only [bK1, bK2, bK3, bK4, bK5, bK6, bK7, bK8]); simp (maxSteps := 10000000) (disch := omega) only [hN, go_sem, ↓reduceIte, Nat.reduceEqDiff, Nat.reduceSub, Nat.reduceLeDiff, Nat.reduceAdd, Int.reduceEq, Int.reduceLT, Int.reduceLE]
       · (try simp only [bK1, bK2, bK3, bK4, bK5, bK6, bK7, bK8]); simp (maxSteps := 10000000) (disch := omega) only [ht, segJ, sS, sK, hN, go_sem, ↓reduceIte, Nat.reduceEqDiff, Nat.reduceSub, Nat.reduceLeDiff, Nat.reduceAdd, Int.reduceEq, Int.reduceLT, Int.reduceLE]
 obtain rfl : k = m.evs.length := by omega
 by_cases h0 : m.evs = []
 · have hcan : segM (canM m) = segJ m (.pv (.sl true 0 [])) := by simp [segM, canM, segJ, h0]
   have hl0 : m.evs.length = 0 := by simp [h0]
   (try simp only [bK1, bK2, bK3, bK4, bK5, bK6, bK7, bK8]); simp (maxSteps := 10000000) (disch := omega) only [stRE, hl0, evS_0, evK_0, segJ, go_sem, ↓reduceIte, Nat.reduceEqDiff, Nat.reduceSub, Nat.reduceLeDiff, Nat.reduceAdd, Int.reduceEq, Int.reduceLT, Int.reduceLE]
   refine call_with (okWriteC m hm hc (congrArg SV.agg hcan)) ?_
   (try simp only [bK1, bK2, bK3, bK4, bK5, bK6, bK7, bK8]); simp (maxSteps := 10000000) (disch := omega) only [go_sem, ↓reduceIte, Nat.reduceEqDiff, Nat.reduceSub, Nat.reduceLeDiff, Nat.reduceAdd, Int.reduceEq, Int.reduceLT, Int.reduceLE]
   refine call_with (okEqB (f := false) (g := false) (y := 1) (z := 1) (a := writeM m) (b := writeM m) rfl rfl (.inr rfl) (.inr rfl) (by omega) (by omega)) ?_
   (try simp only [bK1, bK2, bK3, bK4, bK5, bK6, bK7, bK8]); simp (maxSteps := 10000000) (disch := omega) only [hcan, segJ, go_sem, ↓reduceIte, Nat.reduceEqDiff, Nat.reduceSub, Nat.reduceLeDiff, Nat.reduceAdd, Int.reduceEq, Int.reduceLT, Int.reduceLE]
   refine ⟨_, .same _, ?_⟩
   (try simp only [bK1, bK2, bK3, bK4, bK5, bK6, bK7, bK8]); simp (maxSteps := 10000000) (disch := omega) only [go_sem, ↓reduceIte, Nat.reduceEqDiff, Nat.reduceSub, Nat.reduceLeDiff, Nat.reduceAdd, Int.reduceEq, Int.reduceLT, Int.reduceLE]
 have hpos := List.length_pos_iff.2 h0
 have sS := evS_n (l := m.evs.map canon) (k := m.evs.length) ⟨hpos, by simp⟩
 have sK := evK_n (l := m.evs.map canon) (k := m.evs.length) ⟨hpos, by simp⟩
 have hcan : segM (canM m) = segJ m (.pv (.sl false 21 ((m.evs.map canon).map evE))) := by
  have : m.evs.isEmpty = false := by simp [h0]
  simp only [segM, canM, segJ, this]; rfl
 (try simp only [bK1, bK2, bK3, bK4, bK5, bK6, bK7, bK8]); simp (maxSteps := 10000000) (disch := omega) only [stRE, sS, sK, segJ, go_sem, ↓reduceIte, Nat.reduceEqDiff, Nat.reduceSub, Nat.reduceLeDiff, Nat.reduceAdd, Int.reduceEq, Int.reduceLT, Int.reduceLE]
 refine call_with (okWriteC m hm hc (congrArg SV.agg hcan)) ?_
 (try simp only [bK1, bK2, bK3, bK4, bK5, bK6, bK7, bK8]); simp (maxSteps := 10000000) (disch := omega) only [go_sem, ↓reduceIte, Nat.reduceEqDiff, Nat.reduceSub, Nat.reduceLeDiff, Nat.reduceAdd, Int.reduceEq, Int.reduceLT, Int.reduceLE]
 refine call_with (okEqB (f := false) (g := false) (y := 1) (z := 1) (a := writeM m) (b := writeM m) rfl rfl (.inr rfl) (.inr rfl) (by omega) (by omega)) ?_
 (try simp only [bK1, bK2, bK3, bK4, bK5, bK6, bK7, bK8]); simp (maxSteps := 10000000) (disch := omega) only [hcan, segJ, go_sem, ↓reduceIte, Nat.reduceEqDiff, Nat.reduceSub, Nat.reduceLeDiff, Nat.reduceAdd, Int.reduceEq, Int.reduceLT, Int.reduceLE]
 refine ⟨_, .same _, ?_⟩
 (try simp only [bK1, bK2, bK3, bK4, bK5, bK6, bK7, bK8]); simp (maxSteps := 10000000) (disch := omega) only [go_sem, ↓reduceIte, Nat.reduceEqDiff, Nat.reduceSub, Nat.reduceLeDiff, Nat.reduceAdd, Int.reduceEq, Int.reduceLT, Int.reduceLE]
end Go.Proofs.Ytfkmlmckihmihaa.Fw
namespace Go.Proofs.Ytfkmlmckihmihaa.Fw
open Go.RowKit Go.Proofs
end Go.Proofs.Ytfkmlmckihmihaa.Fw
namespace Go.Proofs.Ytfkmlmckihmihaa.Fw
open Go.RowKit Go.Proofs
mutual
theorem rn_cl {π : Nat → Nat} : ∀ {x : SV}, x.closed = true → x.rn π = x
 | .pv _, _ => rfl
 | .vec _ _, _ => rfl
 | .pi _ _ _ _, _ => rfl
 | .dead, _ => rfl
 | .agg l, h => by simp only [SV.closed] at h; simp only [SV.rn, rnL_cl h]
 | .tup l, h => by simp only [SV.closed] at h; simp only [SV.rn, rnL_cl h]
 | .fn f l, h => by simp only [SV.closed] at h; simp only [SV.rn, rnL_cl h]
 | .p _ _, h => by simp [SV.closed] at h
 | .ps _ _, h => by simp [SV.closed] at h
 | .pr _ _ _ _, h => by simp [SV.closed] at h
 | .os _, h => by simp [SV.closed] at h
 | .ov _ _ _ _, h => by simp [SV.closed] at h
theorem rnL_cl {π : Nat → Nat} : ∀ {l : List SV}, SV.closedL l = true → SV.rnL π l = l
 | [], _ => rfl
 | x :: l, h => by
  simp only [SV.closedL, Bool.and_eq_true] at h
  simp only [SV.rnL, rn_cl h.1, rnL_cl h.2]
end
mutual
theorem tn_cl : ∀ {x : SV}, x.closed = true → tn x = []
 | .pv _, _ => rfl
 | .vec _ _, _ => rfl
 | .pi _ _ _ _, _ => rfl
 | .dead, _ => rfl
 | .agg l, h => rfl
 | .tup l, h => rfl
 | .fn f l, h => by simp only [SV.closed] at h; simp only [tn, tops_cl h]
 | .p _ _, h => by simp [SV.closed] at h
 | .ps _ _, h => by simp [SV.closed] at h
 | .pr _ _ _ _, h => by simp [SV.closed] at h
 | .os _, h => by simp [SV.closed] at h
 | .ov _ _ _ _, h => by simp [SV.closed] at h
theorem tops_cl : ∀ {l : List SV}, SV.closedL l = true → tops l = []
 | [], _ => rfl
 | x :: l, h => by
  simp only [SV.closedL, Bool.and_eq_true] at h
  simp only [tops, tn_cl h.1, tops_cl h.2, List.append_nil]
end
theorem sw1_a (a m : Nat) : sw1 a m a = m := if_pos rfl
theorem FunOk.io {P : Program} {f : Nat} {a : List SV} {c c' x : SV} (hf : ∀ h d, h 900 = some (.var c) → FunOk P f (.p 900 0 :: a) h d x [.upd 900 (.var c')]) (ha : SV.closedL a = true) (hx : x.closed = true) (hc : c.closed = true) (hc' : c'.closed = true) {g : Nat} {h : Nat → Option Blk} {d : Nat} (hg : h g = some (.var c)) :
 FunOk P f (.p g 0 :: a) h d x [.upd g (.var c')] := by
 have h1 := (hf (fun k => h (sw1 900 g k)) d (by show h (sw1 900 g 900) = _; rw [sw1_a]; exact hg)).rn (π := sw1 900 g) (sw1_inv 900 g) (d' := d)
 simp only [SV.rnL, SV.rn, HU.rn, Blk.rn, List.map_cons, List.map_nil, sw1_a, rnL_cl ha, rn_cl hx, rn_cl hc'] at h1
 refine h1.at fun n hn => ?_
 simp only [tops, tn, tops_cl ha, List.append_nil, List.mem_singleton] at hn
 subst hn
 simp only [sw1_inv, hg, Option.map_some, Blk.rn, rn_cl hc]
theorem FunOk.ownAny {P : Program} {f : Nat} {a : List SV} {sz sz' : Nat} {es es' : List (List PV)} (hf : ∀ h d, h 900 = some (.row sz es) → FunOk P f (.os 900 :: a) h d (.os d) [.del 900, .new d (.row sz' es')]) (ha : SV.closedL a = true) {g : Nat} {h : Nat → Option Blk} {d : Nat} (hg : h g = some (.row sz es)) :
 FunOk P f (.os g :: a) h d (.os d) [.del g, .new d (.row sz' es')] := by
 have h1 := (hf (fun k => h (sw1 900 g k)) (sw1 900 g d) (by show h (sw1 900 g 900) = _; rw [sw1_a]; exact hg)).rn (π := sw1 900 g) (sw1_inv 900 g) (d' := d)
 simp only [SV.rnL, SV.rn, HU.rn, Blk.rn, List.map_cons, List.map_nil, sw1_a, rnL_cl ha, sw1_inv] at h1
 refine h1.at fun n hn => ?_
 simp only [tops, tn, tops_cl ha, List.append_nil, List.mem_singleton] at hn
 subst hn
 simp only [sw1_inv, hg, Option.map_some, Blk.rn]
def bagV (f : Bool) (z : Nat) (L : List (List UInt8)) (most : Int) : SV := .agg [.pv (.sl f z (L.map bE)), .pv (.i .i64 most)]
theorem okNewB (most : Int) {h d} : FunOk Try.prog 11 [.pv (.i .i64 most)] h d (.p d 0) [.new d (.var (bagV true 0 [] (max 0 most)))] := by
 refine fun_var mixed fn11 (by simp) rfl rfl fun F => ?_
 (try simp only [bK1, bK2, bK3, bK4, bK5, bK6, bK7, bK8]); simp (maxSteps := 10000000) (disch := omega) only [ir11, go_sem, ↓reduceIte, Nat.reduceEqDiff, Nat.reduceSub, Nat.reduceLeDiff, Nat.reduceAdd, Int.reduceEq, Int.reduceLT, Int.reduceLE]
 exact ⟨6, rfl, if_pos rfl⟩
theorem okLenB {f : Bool} {z : Nat} {L : List (List UInt8)} {most : Int} {g : Nat} {h d} (hg : h g = some (.var (bagV f z L most))) : FunOk Try.prog 16 [.p g 0] h d (.pv (.i .i64 L.length)) [.upd g (.var (bagV f z L most))] := by
 refine FunOk.io (fun h d hg => ?_) rfl rfl rfl rfl hg
 refine fun_io1 (g := 900) mixed fn16 (by simp) (by simp [tops, tn]) (by simp [tops, tn]) hg rfl (by simp [Blk.ptr, SV.kill]) rfl (fun _ => rfl) fun F => ?_
 (try simp only [bK1, bK2, bK3, bK4, bK5, bK6, bK7, bK8]); simp (maxSteps := 10000000) (disch := omega) only [ir16, bagV, Blk.ptr, go_sem, ↓reduceIte, Nat.reduceEqDiff, Nat.reduceSub, Nat.reduceLeDiff, Nat.reduceAdd, Int.reduceEq, Int.reduceLT, Int.reduceLE]
 refine ⟨_, .same _, ?_⟩
 (try simp only [bK1, bK2, bK3, bK4, bK5, bK6, bK7, bK8]); simp (maxSteps := 10000000) (disch := omega) only [go_sem, ↓reduceIte, Nat.reduceEqDiff, Nat.reduceSub, Nat.reduceLeDiff, Nat.reduceAdd, Int.reduceEq, Int.reduceLT, Int.reduceLE]
 exact ⟨900, rfl, if_pos rfl⟩
def mayB (L : List (List UInt8)) (i : Int) : Int := if 0 ≤ i ∧ i < L.length then 0 else 2
theorem okMayB {f : Bool} {z : Nat} {L : List (List UInt8)} {most i : Int} {g : Nat} {h d} (hg : h g = some (.var (bagV f z L most))) : FunOk Try.prog 31 [.p g 0, .pv (.i .i64 i)] h d (.pv (.i .i64 (mayB L i))) [.upd g (.var (bagV f z L most))] := by
 refine FunOk.io (fun h d hg => ?_) rfl rfl rfl rfl hg
 refine fun_io1 (g := 900) mixed fn31 (by simp) (by simp [tops, tn]) (by simp [tops, tn]) hg rfl (by simp [Blk.ptr, SV.kill]) rfl (fun _ => rfl) fun F => ?_
 by_cases h0 : i < 0
 · have e : mayB L i = 2 := if_neg (by omega)
   (try simp only [bK1, bK2, bK3, bK4, bK5, bK6, bK7, bK8]); simp (maxSteps := 10000000) (disch := omega) only [ir31, bagV, Blk.ptr, h0, go_sem, ↓reduceIte, Nat.reduceEqDiff, Nat.reduceSub, Nat.reduceLeDiff, Nat.reduceAdd, Int.reduceEq, Int.reduceLT, Int.reduceLE]
   refine ⟨_, .same _, ?_⟩
   (try simp only [bK1, bK2, bK3, bK4, bK5, bK6, bK7, bK8]); simp (maxSteps := 10000000) (disch := omega) only [e, go_sem, ↓reduceIte, Nat.reduceEqDiff, Nat.reduceSub, Nat.reduceLeDiff, Nat.reduceAdd, Int.reduceEq, Int.reduceLT, Int.reduceLE]
   exact ⟨900, rfl, if_pos rfl⟩
 by_cases h1 : (L.length : Int) ≤ i
 · have e : mayB L i = 2 := if_neg (by omega)
   (try simp only [bK1, bK2, bK3, bK4, bK5, bK6, bK7, bK8]); simp (maxSteps := 10000000) (disch := omega) only [ir31, bagV, Blk.ptr, h0, h1, List.length_map, go_sem, ↓reduceIte, Nat.reduceEqDiff, Nat.reduceSub, Nat.reduceLeDiff, Nat.reduceAdd, Int.reduceEq, Int.reduceLT, Int.reduceLE]
   refine ⟨_, .same _, ?_⟩
   (try simp only [bK1, bK2, bK3, bK4, bK5, bK6, bK7, bK8]); simp (maxSteps := 10000000) (disch := omega) only [e, go_sem, ↓reduceIte, Nat.reduceEqDiff, Nat.reduceSub, Nat.reduceLeDiff, Nat.reduceAdd, Int.reduceEq, Int.reduceLT, Int.reduceLE]
   exact ⟨900, rfl, if_pos rfl⟩
 · have e : mayB L i = 0 := if_pos (by omega)
   (try simp only [bK1, bK2, bK3, bK4, bK5, bK6, bK7, bK8]); simp (maxSteps := 10000000) (disch := omega) only [ir31, bagV, Blk.ptr, h0, h1, List.length_map, go_sem, ↓reduceIte, Nat.reduceEqDiff, Nat.reduceSub, Nat.reduceLeDiff, Nat.reduceAdd, Int.reduceEq, Int.reduceLT, Int.reduceLE]
   refine ⟨_, .same _, ?_⟩
   (try simp only [bK1, bK2, bK3, bK4, bK5, bK6, bK7, bK8]); simp (maxSteps := 10000000) (disch := omega) only [e, go_sem, ↓reduceIte, Nat.reduceEqDiff, Nat.reduceSub, Nat.reduceLeDiff, Nat.reduceAdd, Int.reduceEq, Int.reduceLT, Int.reduceLE]
   exact ⟨900, rfl, if_pos rfl⟩
theorem okClipB {f : Bool} {z : Nat} {es : List (List PV)} (hz : es = [] ∨ z = 1) {h d} : FunOk Try.prog 30 [.pv (.sl f z es)] h d (.pv (.sl true z es)) [] := by
 refine fun_pure mixed fn30 (by simp) rfl rfl fun F => ?_
 have e := List.take_length (l := es)
 (try simp only [bK1, bK2, bK3, bK4, bK5, bK6, bK7, bK8]); simp (maxSteps := 10000000) (disch := omega) only [ir30, hz, e, List.drop_zero, go_sem, ↓reduceIte, Nat.reduceEqDiff, Nat.reduceSub, Nat.reduceLeDiff, Nat.reduceAdd, Int.reduceEq, Int.reduceLT, Int.reduceLE]
theorem okCloneB {f : Bool} {z : Nat} {es : List (List PV)} (hne : es ≠ []) (hz : es = [] ∨ z = 1) (hn : es.length ≤ 100000) {h d} : FunOk Try.prog 33 [.pv (.sl f z es)] h d (.os d) [.new d (.row 1 es)] := by
 refine fun_row mixed fn33 (by simp) rfl (.inl rfl) fun F => ?_
 (try simp only [bK1, bK2, bK3, bK4, bK5, bK6, bK7, bK8]); simp (maxSteps := 10000000) (disch := omega) only [ir33, hz, go_sem, ↓reduceIte, Nat.reduceEqDiff, Nat.reduceSub, Nat.reduceLeDiff, Nat.reduceAdd, Int.reduceEq, Int.reduceLT, Int.reduceLE]
 intro b hb
 have hb' := hb hne
 subst hb'
 (try simp only [bK1, bK2, bK3, bK4, bK5, bK6, bK7, bK8]); simp (maxSteps := 10000000) (disch := omega) only [hz, go_sem, ↓reduceIte, Nat.reduceEqDiff, Nat.reduceSub, Nat.reduceLeDiff, Nat.reduceAdd, Int.reduceEq, Int.reduceLT, Int.reduceLE]
theorem okDelB {es : List (List PV)} {i : Nat} (hi : i < es.length) (hn : es.length ≤ 100000) {g : Nat} {h d} (hg : h g = some (.row 1 es)) : FunOk Try.prog 32 [.os g, .pv (.i .i64 i), .pv (.i .i64 ((i : Int) + 1))] h d (.os d) [.del g, .new d (.row 1 (es.take i ++ es.drop (i + 1)))] := by
 refine FunOk.ownAny (fun h d hg => ?_) rfl hg
 refine fun_ownV mixed fn32 (by simp) rfl fun F => ?_
 have n1 : ¬ (i : Int) = (i : Int) + 1 := by omega
 have ei : ((i : Int) + 1).toNat = i + 1 := by omega
 have hA : (es.take i ++ es.drop (i + 1)).length = i + (es.drop (i + 1)).length := by simp; omega
 (try simp only [bK1, bK2, bK3, bK4, bK5, bK6, bK7, bK8]); simp (maxSteps := 10000000) (disch := omega) only [ir32, hg, n1, ei, go_sem, ↓reduceIte, Nat.reduceEqDiff, Nat.reduceSub, Nat.reduceLeDiff, Nat.reduceAdd, Int.reduceEq, Int.reduceLT, Int.reduceLE]
 refine ⟨by simp; omega, by simp; omega, by simp; omega, 900, _, _, rfl, if_pos rfl, ?_⟩
 rw [List.take_left' hA, List.append_assoc, List.take_left' hA]
theorem mkOr_sgM (m : Msg) (K : KK) : mkOr (cut (segM m) 0 76) true (some (msgE m)) 0 76 K = K (.agg (segM m)) [] := (rfl)
theorem okAtB_bad {f : Bool} {z : Nat} {L : List (List UInt8)} {most i : Int} (hi : ¬ (0 ≤ i ∧ i < L.length)) {g : Nat} {h d} (hg : h g = some (.var (bagV f z L most))) : FunOk Try.prog 21 [.p g 0, .pv (.i .i64 i)] h d (.tup [.agg seg0, .pv (.i .i64 2)]) [.upd g (.var (bagV f z L most))] := by
 refine FunOk.io (fun h d hg => ?_) rfl rfl rfl rfl hg
 refine fun_io1 (g := 900) mixed fn21 (by simp) (by simp [tops, tn]) (by simp [tops, tn]) hg rfl (by simp [Blk.ptr, SV.kill]) rfl (fun _ => rfl) fun F => ?_
 have e : mayB L i = 2 := if_neg hi
 (try simp only [bK1, bK2, bK3, bK4, bK5, bK6, bK7, bK8]); simp (maxSteps := 10000000) (disch := omega) only [ir21, Blk.ptr, go_sem, ↓reduceIte, Nat.reduceEqDiff, Nat.reduceSub, Nat.reduceLeDiff, Nat.reduceAdd, Int.reduceEq, Int.reduceLT, Int.reduceLE]
 refine call_with (okMayB (by simp [mk, lk]; rfl)) ?_
 (try simp only [bK1, bK2, bK3, bK4, bK5, bK6, bK7, bK8]); simp (maxSteps := 10000000) (disch := omega) only [e, go_sem, ↓reduceIte, Nat.reduceEqDiff, Nat.reduceSub, Nat.reduceLeDiff, Nat.reduceAdd, Int.reduceEq, Int.reduceLT, Int.reduceLE]
 refine ⟨_, .same _, ?_⟩
 (try simp only [bK1, bK2, bK3, bK4, bK5, bK6, bK7, bK8]); simp (maxSteps := 10000000) (disch := omega) only [go_sem, ↓reduceIte, Nat.reduceEqDiff, Nat.reduceSub, Nat.reduceLeDiff, Nat.reduceAdd, Int.reduceEq, Int.reduceLT, Int.reduceLE]
 exact ⟨900, rfl, rfl⟩
theorem okAtB {f : Bool} {z : Nat} {L : List (List UInt8)} {most : Int} {k : Nat} {m : Msg} (hz : L = [] ∨ z = 1) (hk : L[k]? = some (writeM m)) (hm : mv m) (hc : checkM m = true) {g : Nat} {h d} (hg : h g = some (.var (bagV f z L most))) : FunOk Try.prog 21 [.p g 0, .pv (.i .i64 k)] h d (.tup [.agg (segM (canM m)), .pv (.i .i64 0)]) [.upd g (.var (bagV f z L most))] := by
 refine FunOk.io (fun h d hg => ?_) rfl rfl rfl rfl hg
 refine fun_io1 (g := 900) mixed fn21 (by simp) (by simp [tops, tn]) (by simp [tops, tn]) hg rfl (by simp [Blk.ptr, SV.kill]) rfl (fun _ => rfl) fun F => ?_
 have hlt := (List.getElem?_eq_some_iff.1 hk).1
 have e : mayB L k = 0 := if_pos (by omega)
 have hz1 : z = 1 := hz.resolve_left fun e => by subst e; simp at hlt
 subst hz1
 have he : (L.map bE)[k]? = some [.sl false 1 (bytesE (writeM m))] := by rw [List.getElem?_map, hk]; rfl
 (try simp only [bK1, bK2, bK3, bK4, bK5, bK6, bK7, bK8]); simp (maxSteps := 10000000) (disch := omega) only [ir21, Blk.ptr, go_sem, ↓reduceIte, Nat.reduceEqDiff, Nat.reduceSub, Nat.reduceLeDiff, Nat.reduceAdd, Int.reduceEq, Int.reduceLT, Int.reduceLE]
 refine call_with (okMayB (by simp [mk, lk]; rfl)) ?_
 (try simp only [bK1, bK2, bK3, bK4, bK5, bK6, bK7, bK8]); simp (maxSteps := 10000000) (disch := omega) only [e, bagV, List.length_map, he, ld_sl, go_sem, ↓reduceIte, Nat.reduceEqDiff, Nat.reduceSub, Nat.reduceLeDiff, Nat.reduceAdd, Int.reduceEq, Int.reduceLT, Int.reduceLE]
 refine call_with (okReadM m hm hc) ?_
 (try simp only [bK1, bK2, bK3, bK4, bK5, bK6, bK7, bK8]); simp (maxSteps := 10000000) (disch := omega) only [go_sem, ↓reduceIte, Nat.reduceEqDiff, Nat.reduceSub, Nat.reduceLeDiff, Nat.reduceAdd, Int.reduceEq, Int.reduceLT, Int.reduceLE]
 refine ⟨_, .same _, ?_⟩
 (try simp only [bK1, bK2, bK3, bK4, bK5, bK6, bK7, bK8]); simp (maxSteps := 10000000) (disch := omega) only [segM_cells, mkOr_sgM, go_sem, ↓reduceIte, Nat.reduceEqDiff, Nat.reduceSub, Nat.reduceLeDiff, Nat.reduceAdd, Int.reduceEq, Int.reduceLT, Int.reduceLE]
 exact ⟨900, rfl, rfl⟩
theorem okPutB_bad {f : Bool} {z : Nat} {L : List (List UInt8)} {most : Int} (m : Msg) (hm : mv m) (hc : checkM m = false) {g : Nat} {h d} (hg : h g = some (.var (bagV f z L most))) : FunOk Try.prog 12 [.p g 0, .vec 76 (msgE m)] h d (.pv (.i .i64 7)) [.upd g (.var (bagV f z L most))] := by
 refine FunOk.io (fun h d hg => ?_) rfl rfl rfl rfl hg
 refine fun_io1 (g := 900) mixed fn12 (by simp) (by simp [tops, tn]) (by simp [tops, tn]) hg rfl (by simp [Blk.ptr, SV.kill]) rfl (fun _ => rfl) fun F => ?_
 (try simp only [bK1, bK2, bK3, bK4, bK5, bK6, bK7, bK8]); simp (maxSteps := 10000000) (disch := omega) only [ir12, Blk.ptr, go_sem, ↓reduceIte, Nat.reduceEqDiff, Nat.reduceSub, Nat.reduceLeDiff, Nat.reduceAdd, Int.reduceEq, Int.reduceLT, Int.reduceLE]
 refine call_with (okWriteM_bad m hm hc) ?_
 (try simp only [bK1, bK2, bK3, bK4, bK5, bK6, bK7, bK8]); simp (maxSteps := 10000000) (disch := omega) only [go_sem, ↓reduceIte, Nat.reduceEqDiff, Nat.reduceSub, Nat.reduceLeDiff, Nat.reduceAdd, Int.reduceEq, Int.reduceLT, Int.reduceLE]
 refine ⟨_, .same _, ?_⟩
 (try simp only [bK1, bK2, bK3, bK4, bK5, bK6, bK7, bK8]); simp (maxSteps := 10000000) (disch := omega) only [go_sem, ↓reduceIte, Nat.reduceEqDiff, Nat.reduceSub, Nat.reduceLeDiff, Nat.reduceAdd, Int.reduceEq, Int.reduceLT, Int.reduceLE]
 exact ⟨900, rfl, rfl⟩
theorem okPutB_full {f : Bool} {z : Nat} {L : List (List UInt8)} {most : Int} (m : Msg) (hm : mv m) (hc : checkM m = true) (hf : most ≤ L.length) {g : Nat} {h d} (hg : h g = some (.var (bagV f z L most))) : FunOk Try.prog 12 [.p g 0, .vec 76 (msgE m)] h d (.pv (.i .i64 5)) [.upd g (.var (bagV f z L most))] := by
 refine FunOk.io (fun h d hg => ?_) rfl rfl rfl rfl hg
 refine fun_io1 (g := 900) mixed fn12 (by simp) (by simp [tops, tn]) (by simp [tops, tn]) hg rfl (by simp [Blk.ptr, SV.kill]) rfl (fun _ => rfl) fun F => ?_
 (try simp only [bK1, bK2, bK3, bK4, bK5, bK6, bK7, bK8]); simp (maxSteps := 10000000) (disch := omega) only [ir12, Blk.ptr, go_sem, ↓reduceIte, Nat.reduceEqDiff, Nat.reduceSub, Nat.reduceLeDiff, Nat.reduceAdd, Int.reduceEq, Int.reduceLT, Int.reduceLE]
 refine call_with (okWriteM m hm hc) ?_
 (try simp only [bK1, bK2, bK3, bK4, bK5, bK6, bK7, bK8]); simp (maxSteps := 10000000) (disch := omega) only [bagV, List.length_map, hf, go_sem, ↓reduceIte, Nat.reduceEqDiff, Nat.reduceSub, Nat.reduceLeDiff, Nat.reduceAdd, Int.reduceEq, Int.reduceLT, Int.reduceLE]
 refine ⟨_, .same _, ?_⟩
 (try simp only [bK1, bK2, bK3, bK4, bK5, bK6, bK7, bK8]); simp (maxSteps := 10000000) (disch := omega) only [go_sem, ↓reduceIte, Nat.reduceEqDiff, Nat.reduceSub, Nat.reduceLeDiff, Nat.reduceAdd, Int.reduceEq, Int.reduceLT, Int.reduceLE]
 exact ⟨900, rfl, rfl⟩
theorem okPutB {f : Bool} {z : Nat} {L : List (List UInt8)} {most : Int} (m : Msg) (hm : mv m) (hc : checkM m = true) (hf : ¬ most ≤ L.length) (hz : L = [] ∨ z = 1) (hn : L.length ≤ 1000) {g : Nat} {h d} (hg : h g = some (.var (bagV f z L most))) : FunOk Try.prog 12 [.p g 0, .vec 76 (msgE m)] h d (.pv (.i .i64 0)) [.upd g (.var (bagV false 1 (L ++ [writeM m]) most))] := by
 refine FunOk.io (fun h d hg => ?_) rfl rfl rfl rfl hg
 refine fun_io1 (g := 900) mixed fn12 (by simp) (by simp [tops, tn]) (by simp [tops, tn]) hg rfl (by simp [Blk.ptr, SV.kill]) rfl (fun _ => rfl) fun F => ?_
 have hz' : L.map bE = [] ∨ z = 1 := hz.imp_left fun e => by rw [e]; rfl
 (try simp only [bK1, bK2, bK3, bK4, bK5, bK6, bK7, bK8]); simp (maxSteps := 10000000) (disch := omega) only [ir12, Blk.ptr, go_sem, ↓reduceIte, Nat.reduceEqDiff, Nat.reduceSub, Nat.reduceLeDiff, Nat.reduceAdd, Int.reduceEq, Int.reduceLT, Int.reduceLE]
 refine call_with (okWriteM m hm hc) ?_
 (try simp only [bK1, bK2, bK3, bK4, bK5, bK6, bK7, bK8]); simp (maxSteps := 10000000) (disch := omega) only [bagV, List.length_map, hf, go_sem, ↓reduceIte, Nat.reduceEqDiff, Nat.reduceSub, Nat.reduceLeDiff, Nat.reduceAdd, Int.reduceEq, Int.reduceLT, Int.reduceLE]
 refine call_with (okClipB hz') ?_
 have ne : ([[PV.sl false 1 (bytesE (writeM m))]] = ([] : List (List PV))) = False := by simp
 have em : L.map bE ++ [[PV.sl false 1 (bytesE (writeM m))]] = (L ++ [writeM m]).map bE := by simp [bE]
 (try simp only [bK1, bK2, bK3, bK4, bK5, bK6, bK7, bK8]); simp (maxSteps := 10000000) (disch := omega) only [List.length_map, hz', ne, em, go_sem, ↓reduceIte, Nat.reduceEqDiff, Nat.reduceSub, Nat.reduceLeDiff, Nat.reduceAdd, Int.reduceEq, Int.reduceLT, Int.reduceLE]
 refine ⟨_, wk_frz 37 rfl (.same _), ?_⟩
 (try simp only [bK1, bK2, bK3, bK4, bK5, bK6, bK7, bK8]); simp (maxSteps := 10000000) (disch := omega) only [go_sem, ↓reduceIte, Nat.reduceEqDiff, Nat.reduceSub, Nat.reduceLeDiff, Nat.reduceAdd, Int.reduceEq, Int.reduceLT, Int.reduceLE]
 exact ⟨900, rfl, rfl⟩
theorem okLateB {f : Bool} {z : Nat} {L : List (List UInt8)} {most : Int} {k : Nat} {b : List UInt8} (hz : L = [] ∨ z = 1) (hk : L[k]? = some b) (hn : L.length ≤ 1000) {g : Nat} {h d} (hg : h g = some (.var (bagV f z L most))) : FunOk Try.prog 13 [.p g 0, .pv (.i .i64 k)] h d (.pv (.i .i64 0)) [.upd g (.var (bagV false 1 (L.take k ++ L.drop (k + 1) ++ [b]) most))] := by
 refine FunOk.io (fun h d hg => ?_) rfl rfl rfl rfl hg
 refine fun_io1 (g := 900) mixed fn13 (by simp) (by simp [tops, tn]) (by simp [tops, tn]) hg rfl (by simp [Blk.ptr, SV.kill]) rfl (fun _ => rfl) fun F => ?_
 have hlt := (List.getElem?_eq_some_iff.1 hk).1
 have e : mayB L k = 0 := if_pos (by omega)
 have hz1 : z = 1 := hz.resolve_left fun e => by subst e; simp at hlt
 subst hz1
 have hne : L.map bE ≠ [] := by intro e; rw [List.map_eq_nil_iff] at e; subst e; simp at hlt
 have he : (L.map bE)[k]? = some [.sl false 1 (bytesE b)] := by rw [List.getElem?_map, hk]; rfl
 have hml : (L.map bE).length ≤ 100000 := by simp; omega
 have hmk : k < (L.map bE).length := by simpa using hlt
 (try simp only [bK1, bK2, bK3, bK4, bK5, bK6, bK7, bK8]); simp (maxSteps := 10000000) (disch := omega) only [ir13, Blk.ptr, go_sem, ↓reduceIte, Nat.reduceEqDiff, Nat.reduceSub, Nat.reduceLeDiff, Nat.reduceAdd, Int.reduceEq, Int.reduceLT, Int.reduceLE]
 refine call_with (okMayB (by simp [mk, lk]; rfl)) ?_
 (try simp only [bK1, bK2, bK3, bK4, bK5, bK6, bK7, bK8]); simp (maxSteps := 10000000) (disch := omega) only [e, bagV, List.length_map, he, ld_sl, go_sem, ↓reduceIte, Nat.reduceEqDiff, Nat.reduceSub, Nat.reduceLeDiff, Nat.reduceAdd, Int.reduceEq, Int.reduceLT, Int.reduceLE]
 refine call_with (okCloneB hne (.inr rfl) hml) ?_
 (try simp only [bK1, bK2, bK3, bK4, bK5, bK6, bK7, bK8]); simp (maxSteps := 10000000) (disch := omega) only [go_sem, ↓reduceIte, Nat.reduceEqDiff, Nat.reduceSub, Nat.reduceLeDiff, Nat.reduceAdd, Int.reduceEq, Int.reduceLT, Int.reduceLE]
 refine call_with (okDelB hmk hml rfl) ?_
 have em : List.take k (L.map bE) ++ List.drop (k + 1) (L.map bE) ++ [[PV.sl false 1 (bytesE b)]] = (L.take k ++ L.drop (k + 1) ++ [b]).map bE := by simp [bE]
 (try simp only [bK1, bK2, bK3, bK4, bK5, bK6, bK7, bK8]); simp (maxSteps := 10000000) (disch := omega) only [List.length_append, List.length_take, List.length_drop, List.length_map, em, go_sem, ↓reduceIte, Nat.reduceEqDiff, Nat.reduceSub, Nat.reduceLeDiff, Nat.reduceAdd, Int.reduceEq, Int.reduceLT, Int.reduceLE]
 refine ⟨_, wk_frz 32 rfl (.same _), ?_⟩
 (try simp only [bK1, bK2, bK3, bK4, bK5, bK6, bK7, bK8]); simp (maxSteps := 10000000) (disch := omega) only [go_sem, ↓reduceIte, Nat.reduceEqDiff, Nat.reduceSub, Nat.reduceLeDiff, Nat.reduceAdd, Int.reduceEq, Int.reduceLT, Int.reduceLE]
 exact ⟨900, rfl, rfl⟩
theorem okTakeB {f : Bool} {z : Nat} {L : List (List UInt8)} {most : Int} {k : Nat} {m : Msg} (hz : L = [] ∨ z = 1) (hk : L[k]? = some (writeM m)) (hm : mv m) (hc : checkM m = true) (hn : L.length ≤ 1000) {g : Nat} {h d} (hg : h g = some (.var (bagV f z L most))) : FunOk Try.prog 14 [.p g 0, .pv (.i .i64 k)] h d (.tup [.agg (segM (canM m)), .pv (.i .i64 0)]) [.upd g (.var (bagV false 1 (L.take k ++ L.drop (k + 1)) most))] := by
 refine FunOk.io (fun h d hg => ?_) rfl rfl rfl rfl hg
 refine fun_io1 (g := 900) mixed fn14 (by simp) (by simp [tops, tn]) (by simp [tops, tn]) hg rfl (by simp [Blk.ptr, SV.kill]) rfl (fun _ => rfl) fun F => ?_
 have hlt := (List.getElem?_eq_some_iff.1 hk).1
 have hz1 : z = 1 := hz.resolve_left fun e => by subst e; simp at hlt
 subst hz1
 have hne : L.map bE ≠ [] := by intro e; rw [List.map_eq_nil_iff] at e; subst e; simp at hlt
 have hml : (L.map bE).length ≤ 100000 := by simp; omega
 have hmk : k < (L.map bE).length := by simpa using hlt
 (try simp only [bK1, bK2, bK3, bK4, bK5, bK6, bK7, bK8]); simp (maxSteps := 10000000) (disch := omega) only [ir14, Blk.ptr, go_sem, ↓reduceIte, Nat.reduceEqDiff, Nat.reduceSub, Nat.reduceLeDiff, Nat.reduceAdd, Int.reduceEq, Int.reduceLT, Int.reduceLE]
 refine call_with (okAtB hz hk hm hc (by simp [mk, lk]; rfl)) ?_
 (try simp only [bK1, bK2, bK3, bK4, bK5, bK6, bK7, bK8]); simp (maxSteps := 10000000) (disch := omega) only [bagV, go_sem, ↓reduceIte, Nat.reduceEqDiff, Nat.reduceSub, Nat.reduceLeDiff, Nat.reduceAdd, Int.reduceEq, Int.reduceLT, Int.reduceLE]
 refine call_with (okCloneB hne (.inr rfl) hml) ?_
 (try simp only [bK1, bK2, bK3, bK4, bK5, bK6, bK7, bK8]); simp (maxSteps := 10000000) (disch := omega) only [go_sem, ↓reduceIte, Nat.reduceEqDiff, Nat.reduceSub, Nat.reduceLeDiff, Nat.reduceAdd, Int.reduceEq, Int.reduceLT, Int.reduceLE]
 refine call_with (okDelB hmk hml rfl) ?_
 have em : List.take k (L.map bE) ++ List.drop (k + 1) (L.map bE) = (L.take k ++ L.drop (k + 1)).map bE := by simp
 (try simp only [bK1, bK2, bK3, bK4, bK5, bK6, bK7, bK8]); simp (maxSteps := 10000000) (disch := omega) only [em, segM_cells, mkOr_sgM, go_sem, ↓reduceIte, Nat.reduceEqDiff, Nat.reduceSub, Nat.reduceLeDiff, Nat.reduceAdd, Int.reduceEq, Int.reduceLT, Int.reduceLE]
 refine ⟨_, wk_frz 25 rfl (.same _), ?_⟩
 (try simp only [bK1, bK2, bK3, bK4, bK5, bK6, bK7, bK8]); simp (maxSteps := 10000000) (disch := omega) only [segM_cells, mkOr_sgM, go_sem, ↓reduceIte, Nat.reduceEqDiff, Nat.reduceSub, Nat.reduceLeDiff, Nat.reduceAdd, Int.reduceEq, Int.reduceLT, Int.reduceLE]
 exact ⟨900, rfl, rfl⟩
theorem okPutA {f : Bool} {z : Nat} {L : List (List UInt8)} {most : Int} (m : Msg) (hm : mv m) (hc : checkM m = true) (hf : ¬ most ≤ L.length) (hz : L = [] ∨ z = 1) (hn : L.length ≤ 1000) {g : Nat} {h d} (hg : h g = some (.var (bagV f z L most))) : FunOk Try.prog 12 [.p g 0, .agg (segM m)] h d (.pv (.i .i64 0)) [.upd g (.var (bagV false 1 (L ++ [writeM m]) most))] :=
 (okPutB m hm hc hf hz hn hg).imp ⟨Imp.refl _, imp_agg (segM_cells m) (msgE_len m), trivial⟩ (by simp [tops, tn])
theorem okPutA_full {f : Bool} {z : Nat} {L : List (List UInt8)} {most : Int} (m : Msg) (hm : mv m) (hc : checkM m = true) (hf : most ≤ L.length) {g : Nat} {h d} (hg : h g = some (.var (bagV f z L most))) : FunOk Try.prog 12 [.p g 0, .agg (segM m)] h d (.pv (.i .i64 5)) [.upd g (.var (bagV f z L most))] :=
 (okPutB_full m hm hc hf hg).imp ⟨Imp.refl _, imp_agg (segM_cells m) (msgE_len m), trivial⟩ (by simp [tops, tn])
theorem okPutA_bad {f : Bool} {z : Nat} {L : List (List UInt8)} {most : Int} (m : Msg) (hm : mv m) (hc : checkM m = false) {g : Nat} {h d} (hg : h g = some (.var (bagV f z L most))) : FunOk Try.prog 12 [.p g 0, .agg (segM m)] h d (.pv (.i .i64 7)) [.upd g (.var (bagV f z L most))] :=
 (okPutB_bad m hm hc hg).imp ⟨Imp.refl _, imp_agg (segM_cells m) (msgE_len m), trivial⟩ (by simp [tops, tn])
theorem okCopyB_bad {f : Bool} {z : Nat} {L : List (List UInt8)} {most i : Int} (hi : ¬ (0 ≤ i ∧ i < L.length)) {g : Nat} {h d} (hg : h g = some (.var (bagV f z L most))) : FunOk Try.prog 18 [.p g 0, .pv (.i .i64 i)] h d (.pv (.i .i64 2)) [.upd g (.var (bagV f z L most))] := by
 refine FunOk.io (fun h d hg => ?_) rfl rfl rfl rfl hg
 refine fun_io1 (g := 900) mixed fn18 (by simp) (by simp [tops, tn]) (by simp [tops, tn]) hg rfl (by simp [Blk.ptr, SV.kill]) rfl (fun _ => rfl) fun F => ?_
 (try simp only [bK1, bK2, bK3, bK4, bK5, bK6, bK7, bK8]); simp (maxSteps := 10000000) (disch := omega) only [ir18, Blk.ptr, go_sem, ↓reduceIte, Nat.reduceEqDiff, Nat.reduceSub, Nat.reduceLeDiff, Nat.reduceAdd, Int.reduceEq, Int.reduceLT, Int.reduceLE]
 refine call_with (okAtB_bad hi (by simp [mk, lk]; rfl)) ?_
 (try simp only [bK1, bK2, bK3, bK4, bK5, bK6, bK7, bK8]); simp (maxSteps := 10000000) (disch := omega) only [go_sem, ↓reduceIte, Nat.reduceEqDiff, Nat.reduceSub, Nat.reduceLeDiff, Nat.reduceAdd, Int.reduceEq, Int.reduceLT, Int.reduceLE]
 refine ⟨_, .same _, ?_⟩
 (try simp only [bK1, bK2, bK3, bK4, bK5, bK6, bK7, bK8]); simp (maxSteps := 10000000) (disch := omega) only [go_sem, ↓reduceIte, Nat.reduceEqDiff, Nat.reduceSub, Nat.reduceLeDiff, Nat.reduceAdd, Int.reduceEq, Int.reduceLT, Int.reduceLE]
 exact ⟨900, rfl, rfl⟩
theorem okCopyB {f : Bool} {z : Nat} {L : List (List UInt8)} {most : Int} {k : Nat} {m : Msg} (hz : L = [] ∨ z = 1) (hk : L[k]? = some (writeM m)) (hm : mv m) (hc : checkM m = true) (hf : ¬ most ≤ L.length) (hn : L.length ≤ 1000) {g : Nat} {h d} (hg : h g = some (.var (bagV f z L most))) : FunOk Try.prog 18 [.p g 0, .pv (.i .i64 k)] h d (.pv (.i .i64 0)) [.upd g (.var (bagV false 1 (L ++ [writeM m]) most))] := by
 refine FunOk.io (fun h d hg => ?_) rfl rfl rfl rfl hg
 refine fun_io1 (g := 900) mixed fn18 (by simp) (by simp [tops, tn]) (by simp [tops, tn]) hg rfl (by simp [Blk.ptr, SV.kill]) rfl (fun _ => rfl) fun F => ?_
 (try simp only [bK1, bK2, bK3, bK4, bK5, bK6, bK7, bK8]); simp (maxSteps := 10000000) (disch := omega) only [ir18, Blk.ptr, go_sem, ↓reduceIte, Nat.reduceEqDiff, Nat.reduceSub, Nat.reduceLeDiff, Nat.reduceAdd, Int.reduceEq, Int.reduceLT, Int.reduceLE]
 refine call_with (okAtB hz hk hm hc (by simp [mk, lk]; rfl)) ?_
 (try simp only [bK1, bK2, bK3, bK4, bK5, bK6, bK7, bK8]); simp (maxSteps := 10000000) (disch := omega) only [segM_cells, mkOr_sgM, go_sem, ↓reduceIte, Nat.reduceEqDiff, Nat.reduceSub, Nat.reduceLeDiff, Nat.reduceAdd, Int.reduceEq, Int.reduceLT, Int.reduceLE]
 refine call_with (okPutA (canM m) (mv_can hm) ((check_can m).trans hc) hf hz hn rfl) ?_
 (try simp only [bK1, bK2, bK3, bK4, bK5, bK6, bK7, bK8]); simp (maxSteps := 10000000) (disch := omega) only [writeM_can, go_sem, ↓reduceIte, Nat.reduceEqDiff, Nat.reduceSub, Nat.reduceLeDiff, Nat.reduceAdd, Int.reduceEq, Int.reduceLT, Int.reduceLE]
 refine ⟨_, .same _, ?_⟩
 (try simp only [bK1, bK2, bK3, bK4, bK5, bK6, bK7, bK8]); simp (maxSteps := 10000000) (disch := omega) only [go_sem, ↓reduceIte, Nat.reduceEqDiff, Nat.reduceSub, Nat.reduceLeDiff, Nat.reduceAdd, Int.reduceEq, Int.reduceLT, Int.reduceLE]
 exact ⟨900, rfl, rfl⟩
end Go.Proofs.Ytfkmlmckihmihaa.Fw
namespace Go.Proofs.Ytfkmlmckihmihaa.Fw
open Go.RowKit Go.Proofs
def askM (a b : Int) : Msg := ⟨1, a, b, fun _ => 0, fun _ _ => 0, true, 0, []⟩
theorem askM_mv (a b : Int) : mv (askM a b) := ⟨.inl rfl, (by show 0 ≤ 1000; omega), fun e he => (by cases he), fun i _ => by show 0 < 4294967296; omega, fun i _ j _ => by show 0 < 4294967296; omega⟩
theorem askM_check {a b : Int} (ha : 1 ≤ a ∧ a ≤ 8) (hb : 1 ≤ b ∧ b ≤ 8) (hn : a ≠ b) : checkM (askM a b) = true := by
 rw [checkM_e ⟨.inl rfl, ha, hb, hn, by show 0 ≤ 8; omega, fun _ => rfl⟩]; rfl
theorem okAsk (a b : Int) {h d} : FunOk Try.prog 17 [.pv (.i .i64 a), .pv (.i .i64 b)] h d (.agg (segM (askM a b))) [] := by
 refine fun_pure mixed fn17 (by simp) rfl rfl fun F => ?_
 (try simp only [bK1, bK2, bK3, bK4, bK5, bK6, bK7, bK8]); simp (maxSteps := 10000000) (disch := omega) only [ir17, segM, askM, List.map_nil, go_sem, ↓reduceIte, Nat.reduceEqDiff, Nat.reduceSub, Nat.reduceLeDiff, Nat.reduceAdd, Int.reduceEq, Int.reduceLT, Int.reduceLE]
def zeroM : Msg := ⟨0, 0, 0, fun _ => 0, fun _ _ => 0, true, 0, []⟩
theorem zeroM_mv : mv zeroM := askM_mv 0 0
theorem zeroM_check : checkM zeroM = false := checkM_h fun h => by rcases h.1 with h | h <;> cases h
set_option maxHeartbeats 4000000 in
theorem livesBag {h d} : FunOk Try.prog 9 [] h d (.pv (.b true)) [] := by
 refine fun_pure mixed fn9 (by simp) rfl rfl fun F => ?_
 have c1 := askM_check (a := 1) (b := 2) (by omega) (by omega) (by omega)
 have c2 := askM_check (a := 2) (b := 3) (by omega) (by omega) (by omega)
 have m3 : max (0 : Int) 3 = 3 := by omega
 (try simp only [bK1, bK2, bK3, bK4, bK5, bK6, bK7, bK8]); simp (maxSteps := 10000000) (disch := omega) only [ir9, go_sem, ↓reduceIte, Nat.reduceEqDiff, Nat.reduceSub, Nat.reduceLeDiff, Nat.reduceAdd, Int.reduceEq, Int.reduceLT, Int.reduceLE]
 refine call_with (okNewB 3) ?_
 rw [m3]
 (try simp only [bK1, bK2, bK3, bK4, bK5, bK6, bK7, bK8]); simp (maxSteps := 10000000) (disch := omega) only [go_sem, ↓reduceIte, Nat.reduceEqDiff, Nat.reduceSub, Nat.reduceLeDiff, Nat.reduceAdd, Int.reduceEq, Int.reduceLT, Int.reduceLE]
 refine call_with (okAsk 1 2) ?_
 (try simp only [bK1, bK2, bK3, bK4, bK5, bK6, bK7, bK8]); simp (maxSteps := 10000000) (disch := omega) only [go_sem, ↓reduceIte, Nat.reduceEqDiff, Nat.reduceSub, Nat.reduceLeDiff, Nat.reduceAdd, Int.reduceEq, Int.reduceLT, Int.reduceLE]
 refine call_with (okPutA (L := []) (askM 1 2) (askM_mv 1 2) c1 (by simp) (.inl rfl) (by simp) rfl) ?_
 (try simp only [bK1, bK2, bK3, bK4, bK5, bK6, bK7, bK8]); simp (maxSteps := 10000000) (disch := omega) only [go_sem, ↓reduceIte, Nat.reduceEqDiff, Nat.reduceSub, Nat.reduceLeDiff, Nat.reduceAdd, Int.reduceEq, Int.reduceLT, Int.reduceLE]
 refine call_with (okAsk 2 3) ?_
 (try simp only [bK1, bK2, bK3, bK4, bK5, bK6, bK7, bK8]); simp (maxSteps := 10000000) (disch := omega) only [List.nil_append, go_sem, ↓reduceIte, Nat.reduceEqDiff, Nat.reduceSub, Nat.reduceLeDiff, Nat.reduceAdd, Int.reduceEq, Int.reduceLT, Int.reduceLE]
 refine call_with (okPutA (L := [writeM (askM 1 2)]) (askM 2 3) (askM_mv 2 3) c2 (by simp) (.inr rfl) (by simp) rfl) ?_
 (try simp only [bK1, bK2, bK3, bK4, bK5, bK6, bK7, bK8]); simp (maxSteps := 10000000) (disch := omega) only [List.cons_append, List.nil_append, go_sem, ↓reduceIte, Nat.reduceEqDiff, Nat.reduceSub, Nat.reduceLeDiff, Nat.reduceAdd, Int.reduceEq, Int.reduceLT, Int.reduceLE]
 refine call_with (okLateB (k := 0) (L := [writeM (askM 1 2), writeM (askM 2 3)]) (.inr rfl) rfl (by simp) rfl) ?_
 (try simp only [bK1, bK2, bK3, bK4, bK5, bK6, bK7, bK8]); simp (maxSteps := 10000000) (disch := omega) only [List.take_zero, List.drop_succ_cons, List.drop_zero, List.nil_append, List.cons_append, go_sem, ↓reduceIte, Nat.reduceEqDiff, Nat.reduceSub, Nat.reduceLeDiff, Nat.reduceAdd, Int.reduceEq, Int.reduceLT, Int.reduceLE]
 refine call_with (okLenB (L := [writeM (askM 2 3), writeM (askM 1 2)]) rfl) ?_
 (try simp only [bK1, bK2, bK3, bK4, bK5, bK6, bK7, bK8]); simp (maxSteps := 10000000) (disch := omega) only [List.length_cons, List.length_nil, go_sem, ↓reduceIte, Nat.reduceEqDiff, Nat.reduceSub, Nat.reduceLeDiff, Nat.reduceAdd, Int.reduceEq, Int.reduceLT, Int.reduceLE]
 refine call_with (okAtB (k := 1) (L := [writeM (askM 2 3), writeM (askM 1 2)]) (.inr rfl) rfl (askM_mv 1 2) c1 rfl) ?_
 (try simp only [bK1, bK2, bK3, bK4, bK5, bK6, bK7, bK8]); simp (maxSteps := 10000000) (disch := omega) only [segM, show (canM (askM 1 2)).fr = 1 from rfl, go_sem, ↓reduceIte, Nat.reduceEqDiff, Nat.reduceSub, Nat.reduceLeDiff, Nat.reduceAdd, Int.reduceEq, Int.reduceLT, Int.reduceLE]
end Go.Proofs.Ytfkmlmckihmihaa.Fw
namespace Go.Proofs.Ytfkmlmckihmihaa.Fw
open Go.RowKit Go.Proofs
theorem imp_bag0 (n : Int) : Imp (.agg [.pv (.sl true 0 []), .pv (.i .i64 n)]) (.agg [.pv (.sl false 1 []), .pv (.i .i64 n)]) = True := by
 refine eq_true fun V ρ v h => ?_
 simp only [Conc, Cells] at h ⊢
 obtain ⟨vs, rfl, u, us, e1, h1, h2, h3, h4⟩ := h
 refine ⟨vs, rfl, u, us, e1, ?_, h2, h3, h4⟩
 cases h1 with
 | sl _ _ _ a cap cs bl off arr hcap hfull hsz ha hcs hel =>
  exact .sl false 1 [] a cap cs bl off arr hcap (by simp) (by simp) (by simp) (by simp) (by simp)
def ms (k : Nat) : Msg := askM (1 + ((k % 7 : Nat) : Int)) 8
theorem ms_mv (k : Nat) : mv (ms k) := askM_mv _ _
theorem ms_check (k : Nat) : checkM (ms k) = true := askM_check (by omega) (by omega) (by omega)
def msL (k : Nat) : List (List UInt8) := (List.range k).map fun i => writeM (ms i)
theorem msL_len (k : Nat) : (msL k).length = k := by simp [msL]
theorem msL_succ (k : Nat) : msL k ++ [writeM (ms k)] = msL (k + 1) := by simp [msL, List.range_succ]
theorem msL_get {k n : Nat} (h : k < n) : (msL n)[k]? = some (writeM (ms k)) := by simp [msL, h]
def stFull (n k : Nat) : FS := mk [(19, .pv (.i .i64 k)), (18, .pv (.i .i64 ((n : Int) + 2))), (3, .pv (.i .i64 n)), (4, .p 50 0)] [(50, some (.var (bagV false 1 (msL (min k n)) n)))]
set_option maxHeartbeats 8000000 in
theorem lawFull (most : Int) {h d} : FunOk Try.prog 4 [.pv (.i .i64 most)] h d (.pv (.b true)) [] := by
 refine fun_pure mixed fn4 (by simp) rfl rfl fun F => ?_
 obtain ⟨n, hq, hn⟩ : ∃ n : Nat, (IntKind.u64.wrap most).tmod 30 = n ∧ n < 30 := by
  have h0 := wrap_u64_mod most
  have h1 : 0 ≤ IntKind.u64.wrap most := by omega
  refine ⟨((IntKind.u64.wrap most).tmod 30).toNat, ?_, ?_⟩ <;> rw [Int.tmod_eq_emod_of_nonneg h1] <;> omega
 have mn : max (0 : Int) n = n := by omega
 (try simp only [bK1, bK2, bK3, bK4, bK5, bK6, bK7, bK8]); simp (maxSteps := 10000000) (disch := omega) only [ir4, go_sem, ↓reduceIte, Nat.reduceEqDiff, Nat.reduceSub, Nat.reduceLeDiff, Nat.reduceAdd, Int.reduceEq, Int.reduceLT, Int.reduceLE]
 refine call_with livesBag ?_
 (try simp only [bK1, bK2, bK3, bK4, bK5, bK6, bK7, bK8]); simp (maxSteps := 10000000) (disch := omega) only [hq, go_sem, ↓reduceIte, Nat.reduceEqDiff, Nat.reduceSub, Nat.reduceLeDiff, Nat.reduceAdd, Int.reduceEq, Int.reduceLT, Int.reduceLE]
 refine call_with (okNewB n) ?_
 rw [mn]
 (try simp only [bK1, bK2, bK3, bK4, bK5, bK6, bK7, bK8]); simp (maxSteps := 10000000) (disch := omega) only [go_sem, ↓reduceIte, Nat.reduceEqDiff, Nat.reduceSub, Nat.reduceLeDiff, Nat.reduceAdd, Int.reduceEq, Int.reduceLT, Int.reduceLE]
 refine loop_ok mixed (stFull n) (fun k => k ≤ n + 2) (fun k => n + 2 - k) 0 (by simp) (wk_ren 16 50 (by decide) rfl (weak_mk ?_ ?_)) fun k hk => ?_
 · (try simp only [bK1, bK2, bK3, bK4, bK5, bK6, bK7, bK8]); simp (maxSteps := 10000000) (disch := omega) only [go_sem, ↓reduceIte, Nat.reduceEqDiff, Nat.reduceSub, Nat.reduceLeDiff, Nat.reduceAdd, Int.reduceEq, Int.reduceLT, Int.reduceLE]
 · (try simp only [bK1, bK2, bK3, bK4, bK5, bK6, bK7, bK8]); simp (maxSteps := 10000000) (disch := omega) only [bagV, imp_bag0, show msL (min 0 n) = [] from by simp [msL], List.map_nil, go_sem, ↓reduceIte, Nat.reduceEqDiff, Nat.reduceSub, Nat.reduceLeDiff, Nat.reduceAdd, Int.reduceEq, Int.reduceLT, Int.reduceLE]
 by_cases hlt : k < n + 2
 · have hi : (k : Int) < (n : Int) + 2 := by omega
   have hr : (k : Int).tmod 7 = ((k % 7 : Nat) : Int) := by rw [Int.tmod_eq_emod_of_nonneg (by omega)]; omega
   (try simp only [bK1, bK2, bK3, bK4, bK5, bK6, bK7, bK8]); simp (maxSteps := 10000000) (disch := omega) only [stFull, hi, hr, go_sem, ↓reduceIte, Nat.reduceEqDiff, Nat.reduceSub, Nat.reduceLeDiff, Nat.reduceAdd, Int.reduceEq, Int.reduceLT, Int.reduceLE]
   refine call_with (okAsk (1 + ((k % 7 : Nat) : Int)) 8) ?_
   (try simp only [bK1, bK2, bK3, bK4, bK5, bK6, bK7, bK8]); simp (maxSteps := 10000000) (disch := omega) only [go_sem, ↓reduceIte, Nat.reduceEqDiff, Nat.reduceSub, Nat.reduceLeDiff, Nat.reduceAdd, Int.reduceEq, Int.reduceLT, Int.reduceLE]
   by_cases hkn : k < n
   · have e1 : min k n = k := by omega
     have e2 : min (k + 1) n = k + 1 := by omega
     have hz : (k : Int) < (n : Int) := by omega
     rw [e1]
     refine call_with (okPutA (L := msL k) (ms k) (ms_mv k) (ms_check k) (by rw [msL_len]; omega) (.inr rfl) (by rw [msL_len]; omega) rfl) ?_
     rw [msL_succ]
     (try simp only [bK1, bK2, bK3, bK4, bK5, bK6, bK7, bK8]); simp (maxSteps := 10000000) (disch := omega) only [hz, go_sem, ↓reduceIte, Nat.reduceEqDiff, Nat.reduceSub, Nat.reduceLeDiff, Nat.reduceAdd, Int.reduceEq, Int.reduceLT, Int.reduceLE]
     refine loop_next (k + 1) _ _ rfl (by omega) (by omega) ?_ ?_
     · (try simp only [bK1, bK2, bK3, bK4, bK5, bK6, bK7, bK8]); simp (maxSteps := 10000000) (disch := omega) only [go_sem, ↓reduceIte, Nat.reduceEqDiff, Nat.reduceSub, Nat.reduceLeDiff, Nat.reduceAdd, Int.reduceEq, Int.reduceLT, Int.reduceLE]
     · (try simp only [bK1, bK2, bK3, bK4, bK5, bK6, bK7, bK8]); simp (maxSteps := 10000000) (disch := omega) only [e2, go_sem, ↓reduceIte, Nat.reduceEqDiff, Nat.reduceSub, Nat.reduceLeDiff, Nat.reduceAdd, Int.reduceEq, Int.reduceLT, Int.reduceLE]
   · have e1 : min k n = n := by omega
     have e2 : min (k + 1) n = n := by omega
     have hz : ¬ (k : Int) < (n : Int) := by omega
     rw [e1]
     refine call_with (okPutA_full (L := msL n) (ms k) (ms_mv k) (ms_check k) (by rw [msL_len]; omega) rfl) ?_
     (try simp only [bK1, bK2, bK3, bK4, bK5, bK6, bK7, bK8]); simp (maxSteps := 10000000) (disch := omega) only [hz, go_sem, ↓reduceIte, Nat.reduceEqDiff, Nat.reduceSub, Nat.reduceLeDiff, Nat.reduceAdd, Int.reduceEq, Int.reduceLT, Int.reduceLE]
     refine loop_next (k + 1) _ _ rfl (by omega) (by omega) ?_ ?_
     · (try simp only [bK1, bK2, bK3, bK4, bK5, bK6, bK7, bK8]); simp (maxSteps := 10000000) (disch := omega) only [go_sem, ↓reduceIte, Nat.reduceEqDiff, Nat.reduceSub, Nat.reduceLeDiff, Nat.reduceAdd, Int.reduceEq, Int.reduceLT, Int.reduceLE]
     · (try simp only [bK1, bK2, bK3, bK4, bK5, bK6, bK7, bK8]); simp (maxSteps := 10000000) (disch := omega) only [e2, go_sem, ↓reduceIte, Nat.reduceEqDiff, Nat.reduceSub, Nat.reduceLeDiff, Nat.reduceAdd, Int.reduceEq, Int.reduceLT, Int.reduceLE]
 obtain rfl : k = n + 2 := by omega
 have hi : ¬ (((n + 2 : Nat) : Int) < (n : Int) + 2) := by omega
 have hmin : min (n + 2) n = n := by omega
 have hend : ∀ (L : List (List UInt8)), L.length ≤ n → (L.length : Int) ≤ (n : Int) := fun L h => by omega
 have hzs : segM zeroM = seg0 := rfl
 by_cases hn0 : n = 0
 · subst hn0
   have hle : ((msL 0).length : Int) ≤ ((0 : Nat) : Int) := by rw [msL_len]; omega
   have h0 : ¬ (0 : Int) < ((0 : Nat) : Int) := by omega
   (try simp only [bK1, bK2, bK3, bK4, bK5, bK6, bK7, bK8]); simp (maxSteps := 10000000) (disch := omega) only [stFull, hi, hmin, h0, go_sem, ↓reduceIte, Nat.reduceEqDiff, Nat.reduceSub, Nat.reduceLeDiff, Nat.reduceAdd, Int.reduceEq, Int.reduceLT, Int.reduceLE]
   refine call_with (okLenB (L := msL 0) rfl) ?_
   (try simp only [bK1, bK2, bK3, bK4, bK5, bK6, bK7, bK8]); simp (maxSteps := 10000000) (disch := omega) only [hle, go_sem, ↓reduceIte, Nat.reduceEqDiff, Nat.reduceSub, Nat.reduceLeDiff, Nat.reduceAdd, Int.reduceEq, Int.reduceLT, Int.reduceLE]
   refine call_with (okPutA_bad zeroM zeroM_mv zeroM_check rfl) ?_
   (try simp only [bK1, bK2, bK3, bK4, bK5, bK6, bK7, bK8]); simp (maxSteps := 10000000) (disch := omega) only [go_sem, ↓reduceIte, Nat.reduceEqDiff, Nat.reduceSub, Nat.reduceLeDiff, Nat.reduceAdd, Int.reduceEq, Int.reduceLT, Int.reduceLE]
 have h0 : (0 : Int) < (n : Int) := by omega
 have en : (n : Int) - 1 = ((n - 1 : Nat) : Int) := by omega
 have htk : (msL n).take (n - 1) ++ (msL n).drop (n - 1 + 1) = msL (n - 1) := by
  rw [show n - 1 + 1 = n by omega, List.drop_of_length_le (by rw [msL_len]; omega), List.append_nil]
  conv => lhs; rw [show n = n - 1 + 1 by omega, ← msL_succ]
  rw [Nat.add_sub_cancel, List.take_left' (msL_len _)]
 (try simp only [bK1, bK2, bK3, bK4, bK5, bK6, bK7, bK8]); simp (maxSteps := 10000000) (disch := omega) only [stFull, hi, hmin, h0, en, go_sem, ↓reduceIte, Nat.reduceEqDiff, Nat.reduceSub, Nat.reduceLeDiff, Nat.reduceAdd, Int.reduceEq, Int.reduceLT, Int.reduceLE]
 refine call_with (okTakeB (L := msL n) (k := n - 1) (m := ms (n - 1)) (.inr rfl) (msL_get (by omega)) (ms_mv _) (ms_check _) (by rw [msL_len]; omega) rfl) ?_
 rw [htk]
 (try simp only [bK1, bK2, bK3, bK4, bK5, bK6, bK7, bK8]); simp (maxSteps := 10000000) (disch := omega) only [go_sem, ↓reduceIte, Nat.reduceEqDiff, Nat.reduceSub, Nat.reduceLeDiff, Nat.reduceAdd, Int.reduceEq, Int.reduceLT, Int.reduceLE]
 by_cases hn1 : n = 1
 · subst hn1
   have hle : ((msL 0).length : Int) ≤ ((1 : Nat) : Int) := by rw [msL_len]; omega
   have h1 : ¬ (1 : Int) < ((1 : Nat) : Int) := by omega
   refine call_with (okCopyB_bad (L := msL 0) (by rw [msL_len]; omega) rfl) ?_
   (try simp only [bK1, bK2, bK3, bK4, bK5, bK6, bK7, bK8]); simp (maxSteps := 10000000) (disch := omega) only [h1, go_sem, ↓reduceIte, Nat.reduceEqDiff, Nat.reduceSub, Nat.reduceLeDiff, Nat.reduceAdd, Int.reduceEq, Int.reduceLT, Int.reduceLE]
   refine call_with (okLenB (L := msL 0) rfl) ?_
   (try simp only [bK1, bK2, bK3, bK4, bK5, bK6, bK7, bK8]); simp (maxSteps := 10000000) (disch := omega) only [hle, go_sem, ↓reduceIte, Nat.reduceEqDiff, Nat.reduceSub, Nat.reduceLeDiff, Nat.reduceAdd, Int.reduceEq, Int.reduceLT, Int.reduceLE]
   refine call_with (okPutA_bad zeroM zeroM_mv zeroM_check rfl) ?_
   (try simp only [bK1, bK2, bK3, bK4, bK5, bK6, bK7, bK8]); simp (maxSteps := 10000000) (disch := omega) only [go_sem, ↓reduceIte, Nat.reduceEqDiff, Nat.reduceSub, Nat.reduceLeDiff, Nat.reduceAdd, Int.reduceEq, Int.reduceLT, Int.reduceLE]
 have h1 : (1 : Int) < (n : Int) := by omega
 refine call_with (okCopyB (L := msL (n - 1)) (k := 0) (m := ms 0) (.inr rfl) (msL_get (by omega)) (ms_mv _) (ms_check _) (by rw [msL_len]; omega) (by rw [msL_len]; omega) rfl) ?_
 have hle : ((msL (n - 1) ++ [writeM (ms 0)]).length : Int) ≤ (n : Int) := by rw [List.length_append, msL_len]; simp; omega
 (try simp only [bK1, bK2, bK3, bK4, bK5, bK6, bK7, bK8]); simp (maxSteps := 10000000) (disch := omega) only [h1, go_sem, ↓reduceIte, Nat.reduceEqDiff, Nat.reduceSub, Nat.reduceLeDiff, Nat.reduceAdd, Int.reduceEq, Int.reduceLT, Int.reduceLE]
 refine call_with (okLenB (L := msL (n - 1) ++ [writeM (ms 0)]) rfl) ?_
 (try simp only [bK1, bK2, bK3, bK4, bK5, bK6, bK7, bK8]); simp (maxSteps := 10000000) (disch := omega) only [hle, go_sem, ↓reduceIte, Nat.reduceEqDiff, Nat.reduceSub, Nat.reduceLeDiff, Nat.reduceAdd, Int.reduceEq, Int.reduceLT, Int.reduceLE]
 refine call_with (okPutA_bad zeroM zeroM_mv zeroM_check rfl) ?_
 (try simp only [bK1, bK2, bK3, bK4, bK5, bK6, bK7, bK8]); simp (maxSteps := 10000000) (disch := omega) only [go_sem, ↓reduceIte, Nat.reduceEqDiff, Nat.reduceSub, Nat.reduceLeDiff, Nat.reduceAdd, Int.reduceEq, Int.reduceLT, Int.reduceLE]
theorem holdsBagFull {c0 : List PV} (g0 : GC (.int .i64) c0) {h d} :
 FunOk Try.prog 4 [toSV (.int .i64) c0] h d (.pv (.b true)) [] := by
 obtain ⟨n, rfl, _⟩ := GC_i64 g0
 exact lawFull n
end Go.Proofs.Ytfkmlmckihmihaa.Fw
