/- What the functions that the law BagPlays reaches compute. -/
import Derived.Test.YtfkmlmckihmihaaWalkBagPlays1
import Derived.OpenShut
import Derived.ShutString
import Derived.ChangeOld
import Derived.SizedLaws
import Derived.ChangeOld
import Derived.Lib.Bytealg
import Derived.OpenShut
import Derived.ShutString
import Derived.SizedLaws
set_option linter.unusedVariables false
set_option linter.unusedSimpArgs false
set_option linter.unusedSectionVars false
set_option maxRecDepth 100000
namespace Go.Proofs.Ytfkmlmckihmihaa.Fw
open Go.RowKit Go.Proofs
def dotB (n : Nat) : Bool := decide (n = 46 ∨ n = 95 ∨ n = 45)
theorem ixD_dot (n : Nat) : decide (0 ≤ ixD n) = dotB n := by
 by_cases h : n < 128
 · have : ∀ m, m < 128 → decide (0 ≤ ixD m) = dotB m := by decide
   exact this n h
 · have e : ixD n = -1 := by unfold ixD; rw [if_neg h]
   rw [e]
   have : ¬ (n = 46 ∨ n = 95 ∨ n = 45) := by omega
   simp [dotB]; omega
theorem okContainsRune (n : Nat) (hn : n < 2147483648) {h d} : FunOk Try.prog 83 [.pv (.s [46, 95, 45]), .pv (.i .i32 n)] h d (.pv (.b (dotB n))) [] := by
 refine fun_pure mixed fn83 (by simp) rfl rfl fun F => ?_
 have e := ixD_dot n
 (try simp only [bK1, bK2, bK3, bK4, bK5, bK6, bK7, bK8]); simp (maxSteps := 10000000) (disch := omega) only [ir83, go_sem, ↓reduceIte, Nat.reduceEqDiff, Nat.reduceSub, Nat.reduceLeDiff, Nat.reduceAdd, Int.reduceEq, Int.reduceLT, Int.reduceLE]
 refine call_with (okIndexRune n hn) ?_
 (try simp only [bK1, bK2, bK3, bK4, bK5, bK6, bK7, bK8]); simp (maxSteps := 10000000) (disch := omega) only [e, go_sem, ↓reduceIte, Nat.reduceEqDiff, Nat.reduceSub, Nat.reduceLeDiff, Nat.reduceAdd, Int.reduceEq, Int.reduceLT, Int.reduceLE]
def letB (n : Nat) : Bool := decide ((97 ≤ n ∧ n ≤ 122) ∨ (65 ≤ n ∧ n ≤ 90))
theorem okLetter (n : Nat) {h d} : FunOk Try.prog 82 [.pv (.i .i32 n)] h d (.pv (.b (letB n))) [] := by
 refine fun_pure mixed fn82 (by simp) rfl rfl fun F => ?_
 have : n < 65 ∨ (65 ≤ n ∧ n ≤ 90) ∨ (91 ≤ n ∧ n ≤ 96) ∨ (97 ≤ n ∧ n ≤ 122) ∨ 123 ≤ n := by omega
 rcases this with h1 | h1 | h1 | h1 | h1
 · have e : letB n = false := decide_eq_false (by omega)
   (try simp only [bK1, bK2, bK3, bK4, bK5, bK6, bK7, bK8]); simp (maxSteps := 10000000) (disch := omega) only [ir82, e, go_sem, ↓reduceIte, Nat.reduceEqDiff, Nat.reduceSub, Nat.reduceLeDiff, Nat.reduceAdd, Int.reduceEq, Int.reduceLT, Int.reduceLE]
 · have e : letB n = true := decide_eq_true (by omega)
   (try simp only [bK1, bK2, bK3, bK4, bK5, bK6, bK7, bK8]); simp (maxSteps := 10000000) (disch := omega) only [ir82, e, go_sem, ↓reduceIte, Nat.reduceEqDiff, Nat.reduceSub, Nat.reduceLeDiff, Nat.reduceAdd, Int.reduceEq, Int.reduceLT, Int.reduceLE]
 · have e : letB n = false := decide_eq_false (by omega)
   (try simp only [bK1, bK2, bK3, bK4, bK5, bK6, bK7, bK8]); simp (maxSteps := 10000000) (disch := omega) only [ir82, e, go_sem, ↓reduceIte, Nat.reduceEqDiff, Nat.reduceSub, Nat.reduceLeDiff, Nat.reduceAdd, Int.reduceEq, Int.reduceLT, Int.reduceLE]
 · have e : letB n = true := decide_eq_true (by omega)
   (try simp only [bK1, bK2, bK3, bK4, bK5, bK6, bK7, bK8]); simp (maxSteps := 10000000) (disch := omega) only [ir82, e, go_sem, ↓reduceIte, Nat.reduceEqDiff, Nat.reduceSub, Nat.reduceLeDiff, Nat.reduceAdd, Int.reduceEq, Int.reduceLT, Int.reduceLE]
 · have e : letB n = false := decide_eq_false (by omega)
   (try simp only [bK1, bK2, bK3, bK4, bK5, bK6, bK7, bK8]); simp (maxSteps := 10000000) (disch := omega) only [ir82, e, go_sem, ↓reduceIte, Nat.reduceEqDiff, Nat.reduceSub, Nat.reduceLeDiff, Nat.reduceAdd, Int.reduceEq, Int.reduceLT, Int.reduceLE]
theorem name_bad {s : List UInt8} {k : Nat} (hk : k < s.length) (h : okChB (s.getD k 0) = false) : nameB s = false := by
 have hm : s.getD k 0 ∈ s := by rw [List.getD_eq_getElem?_getD, List.getElem?_eq_getElem hk]; exact List.getElem_mem hk
 unfold nameB
 rw [show s.all okChB = false from by rw [List.all_eq_false]; exact ⟨_, hm, by rw [h]; decide⟩, Bool.and_false]
theorem name_good {s : List UInt8} (h1 : 1 ≤ s.length) (h2 : s.length ≤ 12) (h3 : s ≠ [46]) (h4 : s ≠ [46, 46]) (h : ∀ k, k < s.length → okChB (s.getD k 0) = true) : nameB s = true := by
 unfold nameB
 rw [decide_eq_true ⟨h1, h2, h3, h4⟩, Bool.true_and, List.all_eq_true]
 intro b hb
 obtain ⟨k, hk, rfl⟩ := List.getElem_of_mem hb
 have := h k hk
 rwa [List.getD_eq_getElem?_getD, List.getElem?_eq_getElem hk] at this
theorem name_f {s : List UInt8} (h : ¬ (1 ≤ s.length ∧ s.length ≤ 12 ∧ s ≠ [46] ∧ s ≠ [46, 46])) : nameB s = false := by
 unfold nameB; rw [decide_eq_false h, Bool.false_and]
def stName (s : List UInt8) (k : Nat) : FS := mk [(22, .p 22 0), (0, .pv (.s s))] [(22, some (.it s k))]
set_option maxHeartbeats 4000000 in
theorem okName (s : List UInt8) {h d} : FunOk Try.prog 72 [.pv (.s s)] h d (.pv (.b (nameB s))) [] := by
 refine fun_pure mixed fn72 (by simp) rfl rfl fun F => ?_
 by_cases h1 : s = []
 · subst h1
   have e : nameB [] = false := name_f (by simp)
   have hl0 : (([] : List UInt8).length : Int) = 0 := rfl
   (try simp only [bK1, bK2, bK3, bK4, bK5, bK6, bK7, bK8]); simp (maxSteps := 10000000) (disch := omega) only [ir72, hl0, e, go_sem, ↓reduceIte, Nat.reduceEqDiff, Nat.reduceSub, Nat.reduceLeDiff, Nat.reduceAdd, Int.reduceEq, Int.reduceLT, Int.reduceLE]
 have h1' : 1 ≤ s.length := List.length_pos_iff.2 h1
 by_cases h2 : 12 < (s.length : Int)
 · have e : nameB s = false := name_f (by omega)
   (try simp only [bK1, bK2, bK3, bK4, bK5, bK6, bK7, bK8]); simp (maxSteps := 10000000) (disch := omega) only [ir72, h1, h2, e, go_sem, ↓reduceIte, Nat.reduceEqDiff, Nat.reduceSub, Nat.reduceLeDiff, Nat.reduceAdd, Int.reduceEq, Int.reduceLT, Int.reduceLE]
 by_cases h3 : s = [46]
 · subst h3
   have e : nameB [46] = false := name_f (fun h => h.2.2.1 rfl)
   have hl0 : (([46] : List UInt8).length : Int) = 1 := rfl
   (try simp only [bK1, bK2, bK3, bK4, bK5, bK6, bK7, bK8]); simp (maxSteps := 10000000) (disch := omega) only [ir72, h1, hl0, e, go_sem, ↓reduceIte, Nat.reduceEqDiff, Nat.reduceSub, Nat.reduceLeDiff, Nat.reduceAdd, Int.reduceEq, Int.reduceLT, Int.reduceLE]
 by_cases h4 : s = [46, 46]
 · subst h4
   have e : nameB [46, 46] = false := name_f (fun h => h.2.2.2 rfl)
   have hl0 : (([46, 46] : List UInt8).length : Int) = 2 := rfl
   (try simp only [bK1, bK2, bK3, bK4, bK5, bK6, bK7, bK8]); simp (maxSteps := 10000000) (disch := omega) only [ir72, h1, h3, hl0, e, go_sem, ↓reduceIte, Nat.reduceEqDiff, Nat.reduceSub, Nat.reduceLeDiff, Nat.reduceAdd, Int.reduceEq, Int.reduceLT, Int.reduceLE]
 (try simp only [bK1, bK2, bK3, bK4, bK5, bK6, bK7, bK8]); simp (maxSteps := 10000000) (disch := omega) only [ir72, h1, h2, h3, h4, go_sem, ↓reduceIte, Nat.reduceEqDiff, Nat.reduceSub, Nat.reduceLeDiff, Nat.reduceAdd, Int.reduceEq, Int.reduceLT, Int.reduceLE]
 refine loop_ok mixed (stName s) (fun k => k ≤ s.length ∧ ∀ j, j < k → okChB (s.getD j 0) = true) (fun k => s.length - k) 0 (by simp) (weak_mk ?_ ?_) fun k hk => ?_
 · (try simp only [bK1, bK2, bK3, bK4, bK5, bK6, bK7, bK8]); simp (maxSteps := 10000000) (disch := omega) only [go_sem, ↓reduceIte, Nat.reduceEqDiff, Nat.reduceSub, Nat.reduceLeDiff, Nat.reduceAdd, Int.reduceEq, Int.reduceLT, Int.reduceLE]
 · (try simp only [bK1, bK2, bK3, bK4, bK5, bK6, bK7, bK8]); simp (maxSteps := 10000000) (disch := omega) only [go_sem, ↓reduceIte, Nat.reduceEqDiff, Nat.reduceSub, Nat.reduceLeDiff, Nat.reduceAdd, Int.reduceEq, Int.reduceLT, Int.reduceLE]
 obtain ⟨hk1, hk2⟩ := hk
 by_cases hlt : k < s.length
 · by_cases ha : (s.getD k 0).toNat < 128
   · have hd := dec_ascii hlt ha
     have hgo : okChB (s.getD k 0) = true → (k + 1 ≤ s.length ∧ ∀ j, j < k + 1 → okChB (s.getD j 0) = true) := fun h => ⟨hlt, fun j hj => by
      by_cases e : j = k
      · subst e; exact h
      · exact hk2 j (by omega)⟩
     have hbad := fun h => name_bad (s := s) hlt h
     generalize hb : s.getD k 0 = b at *
     (try simp only [bK1, bK2, bK3, bK4, bK5, bK6, bK7, bK8]); simp (maxSteps := 10000000) (disch := omega) only [stName, hd, go_sem, ↓reduceIte, Nat.reduceEqDiff, Nat.reduceSub, Nat.reduceLeDiff, Nat.reduceAdd, Int.reduceEq, Int.reduceLT, Int.reduceLE]
     refine call_with (okLetter _) ?_
     cases hL : letB b.toNat with
     | true =>
       have hL' : (97 ≤ b.toNat ∧ b.toNat ≤ 122) ∨ (65 ≤ b.toNat ∧ b.toNat ≤ 90) := of_decide_eq_true hL
       (try simp only [bK1, bK2, bK3, bK4, bK5, bK6, bK7, bK8]); simp (maxSteps := 10000000) (disch := omega) only [hL, go_sem, ↓reduceIte, Nat.reduceEqDiff, Nat.reduceSub, Nat.reduceLeDiff, Nat.reduceAdd, Int.reduceEq, Int.reduceLT, Int.reduceLE]
       refine loop_next (k + 1) _ _ rfl (hgo (decide_eq_true (by omega))) (by omega) ?_ ?_
       · (try simp only [bK1, bK2, bK3, bK4, bK5, bK6, bK7, bK8]); simp (maxSteps := 10000000) (disch := omega) only [go_sem, ↓reduceIte, Nat.reduceEqDiff, Nat.reduceSub, Nat.reduceLeDiff, Nat.reduceAdd, Int.reduceEq, Int.reduceLT, Int.reduceLE]
       · (try simp only [bK1, bK2, bK3, bK4, bK5, bK6, bK7, bK8]); simp (maxSteps := 10000000) (disch := omega) only [go_sem, ↓reduceIte, Nat.reduceEqDiff, Nat.reduceSub, Nat.reduceLeDiff, Nat.reduceAdd, Int.reduceEq, Int.reduceLT, Int.reduceLE]
     | false =>
       have hL' : ¬ ((97 ≤ b.toNat ∧ b.toNat ≤ 122) ∨ (65 ≤ b.toNat ∧ b.toNat ≤ 90)) := of_decide_eq_false hL
       by_cases hdg : 48 ≤ b.toNat ∧ b.toNat ≤ 57
       · (try simp only [bK1, bK2, bK3, bK4, bK5, bK6, bK7, bK8]); simp (maxSteps := 10000000) (disch := omega) only [hL, go_sem, ↓reduceIte, Nat.reduceEqDiff, Nat.reduceSub, Nat.reduceLeDiff, Nat.reduceAdd, Int.reduceEq, Int.reduceLT, Int.reduceLE]
         refine loop_next (k + 1) _ _ rfl (hgo (decide_eq_true (by omega))) (by omega) ?_ ?_
         · (try simp only [bK1, bK2, bK3, bK4, bK5, bK6, bK7, bK8]); simp (maxSteps := 10000000) (disch := omega) only [go_sem, ↓reduceIte, Nat.reduceEqDiff, Nat.reduceSub, Nat.reduceLeDiff, Nat.reduceAdd, Int.reduceEq, Int.reduceLT, Int.reduceLE]
         · (try simp only [bK1, bK2, bK3, bK4, bK5, bK6, bK7, bK8]); simp (maxSteps := 10000000) (disch := omega) only [go_sem, ↓reduceIte, Nat.reduceEqDiff, Nat.reduceSub, Nat.reduceLeDiff, Nat.reduceAdd, Int.reduceEq, Int.reduceLT, Int.reduceLE]
       · have ht : b.toNat < 48 ∨ (48 ≤ b.toNat ∧ 57 < b.toNat) := by omega
         cases hdt : dotB b.toNat with
         | true =>
           have hdt' : b.toNat = 46 ∨ b.toNat = 95 ∨ b.toNat = 45 := of_decide_eq_true hdt
           have hg := hgo (decide_eq_true (by omega))
           rcases ht with ht | ht
           all_goals (try simp only [bK1, bK2, bK3, bK4, bK5, bK6, bK7, bK8]); simp (maxSteps := 10000000) (disch := omega) only [hL, go_sem, ↓reduceIte, Nat.reduceEqDiff, Nat.reduceSub, Nat.reduceLeDiff, Nat.reduceAdd, Int.reduceEq, Int.reduceLT, Int.reduceLE]
           all_goals refine call_with (okContainsRune b.toNat (by omega)) ?_
           all_goals (try simp only [bK1, bK2, bK3, bK4, bK5, bK6, bK7, bK8]); simp (maxSteps := 10000000) (disch := omega) only [hdt, go_sem, ↓reduceIte, Nat.reduceEqDiff, Nat.reduceSub, Nat.reduceLeDiff, Nat.reduceAdd, Int.reduceEq, Int.reduceLT, Int.reduceLE]
           all_goals refine loop_next (k + 1) _ _ rfl hg (by omega) ?_ ?_
           all_goals (try simp only [bK1, bK2, bK3, bK4, bK5, bK6, bK7, bK8]); simp (maxSteps := 10000000) (disch := omega) only [go_sem, ↓reduceIte, Nat.reduceEqDiff, Nat.reduceSub, Nat.reduceLeDiff, Nat.reduceAdd, Int.reduceEq, Int.reduceLT, Int.reduceLE]
         | false =>
           have hdt' : ¬ (b.toNat = 46 ∨ b.toNat = 95 ∨ b.toNat = 45) := of_decide_eq_false hdt
           have hg := hbad (decide_eq_false (by omega))
           rcases ht with ht | ht
           all_goals (try simp only [bK1, bK2, bK3, bK4, bK5, bK6, bK7, bK8]); simp (maxSteps := 10000000) (disch := omega) only [hL, go_sem, ↓reduceIte, Nat.reduceEqDiff, Nat.reduceSub, Nat.reduceLeDiff, Nat.reduceAdd, Int.reduceEq, Int.reduceLT, Int.reduceLE]
           all_goals refine call_with (okContainsRune b.toNat (by omega)) ?_
           all_goals (try simp only [bK1, bK2, bK3, bK4, bK5, bK6, bK7, bK8]); simp (maxSteps := 10000000) (disch := omega) only [hdt, hg, go_sem, ↓reduceIte, Nat.reduceEqDiff, Nat.reduceSub, Nat.reduceLeDiff, Nat.reduceAdd, Int.reduceEq, Int.reduceLT, Int.reduceLE]
   · obtain ⟨hd1, hd2⟩ := dec_big hlt ha
     have hg := name_bad (s := s) hlt (decide_eq_false (by omega))
     generalize hc : (decL s k).1 = c at *
     have hL : letB c = false := decide_eq_false (by omega)
     have hdt : dotB c = false := decide_eq_false (by omega)
     (try simp only [bK1, bK2, bK3, bK4, bK5, bK6, bK7, bK8]); simp (maxSteps := 10000000) (disch := omega) only [stName, hc, go_sem, ↓reduceIte, Nat.reduceEqDiff, Nat.reduceSub, Nat.reduceLeDiff, Nat.reduceAdd, Int.reduceEq, Int.reduceLT, Int.reduceLE]
     refine call_with (okLetter _) ?_
     (try simp only [bK1, bK2, bK3, bK4, bK5, bK6, bK7, bK8]); simp (maxSteps := 10000000) (disch := omega) only [hL, go_sem, ↓reduceIte, Nat.reduceEqDiff, Nat.reduceSub, Nat.reduceLeDiff, Nat.reduceAdd, Int.reduceEq, Int.reduceLT, Int.reduceLE]
     refine call_with (okContainsRune c hd2) ?_
     (try simp only [bK1, bK2, bK3, bK4, bK5, bK6, bK7, bK8]); simp (maxSteps := 10000000) (disch := omega) only [hdt, hg, go_sem, ↓reduceIte, Nat.reduceEqDiff, Nat.reduceSub, Nat.reduceLeDiff, Nat.reduceAdd, Int.reduceEq, Int.reduceLT, Int.reduceLE]
 · obtain rfl : k = s.length := by omega
   have e := name_good h1' (by omega) h3 h4 hk2
   (try simp only [bK1, bK2, bK3, bK4, bK5, bK6, bK7, bK8]); simp (maxSteps := 10000000) (disch := omega) only [stName, e, go_sem, ↓reduceIte, Nat.reduceEqDiff, Nat.reduceSub, Nat.reduceLeDiff, Nat.reduceAdd, Int.reduceEq, Int.reduceLT, Int.reduceLE]
def stNameR (s : List UInt8) (k : Nat) : FS := mk [(3, .pv (.i .i64 k)), (0, .pv (.s s))] []
set_option maxHeartbeats 4000000 in
theorem okNameR (s : List UInt8) {h d} : FunOk Try.prog 79 [.pv (.s s)] h d (.pv (.b (nameB s))) [] := by
 refine fun_pure mixed fn79 (by simp) rfl rfl fun F => ?_
 by_cases h1 : s = []
 · subst h1
   have e : nameB [] = false := name_f (by simp)
   have hl0 : (([] : List UInt8).length : Int) = 0 := rfl
   (try simp only [bK1, bK2, bK3, bK4, bK5, bK6, bK7, bK8]); simp (maxSteps := 10000000) (disch := omega) only [ir79, hl0, e, go_sem, ↓reduceIte, Nat.reduceEqDiff, Nat.reduceSub, Nat.reduceLeDiff, Nat.reduceAdd, Int.reduceEq, Int.reduceLT, Int.reduceLE]
 have h1' : 1 ≤ s.length := List.length_pos_iff.2 h1
 by_cases h2 : 12 < (s.length : Int)
 · have e : nameB s = false := name_f (by omega)
   (try simp only [bK1, bK2, bK3, bK4, bK5, bK6, bK7, bK8]); simp (maxSteps := 10000000) (disch := omega) only [ir79, h1, h2, e, go_sem, ↓reduceIte, Nat.reduceEqDiff, Nat.reduceSub, Nat.reduceLeDiff, Nat.reduceAdd, Int.reduceEq, Int.reduceLT, Int.reduceLE]
 by_cases h3 : s = [46]
 · subst h3
   have e : nameB [46] = false := name_f (fun h => h.2.2.1 rfl)
   have hl0 : (([46] : List UInt8).length : Int) = 1 := rfl
   (try simp only [bK1, bK2, bK3, bK4, bK5, bK6, bK7, bK8]); simp (maxSteps := 10000000) (disch := omega) only [ir79, h1, hl0, e, go_sem, ↓reduceIte, Nat.reduceEqDiff, Nat.reduceSub, Nat.reduceLeDiff, Nat.reduceAdd, Int.reduceEq, Int.reduceLT, Int.reduceLE]
 by_cases h4 : s = [46, 46]
 · subst h4
   have e : nameB [46, 46] = false := name_f (fun h => h.2.2.2 rfl)
   have hl0 : (([46, 46] : List UInt8).length : Int) = 2 := rfl
   (try simp only [bK1, bK2, bK3, bK4, bK5, bK6, bK7, bK8]); simp (maxSteps := 10000000) (disch := omega) only [ir79, h1, h3, hl0, e, go_sem, ↓reduceIte, Nat.reduceEqDiff, Nat.reduceSub, Nat.reduceLeDiff, Nat.reduceAdd, Int.reduceEq, Int.reduceLT, Int.reduceLE]
 (try simp only [bK1, bK2, bK3, bK4, bK5, bK6, bK7, bK8]); simp (maxSteps := 10000000) (disch := omega) only [ir79, h1, h2, h3, h4, go_sem, ↓reduceIte, Nat.reduceEqDiff, Nat.reduceSub, Nat.reduceLeDiff, Nat.reduceAdd, Int.reduceEq, Int.reduceLT, Int.reduceLE]
 refine loop_ok mixed (stNameR s) (fun k => k ≤ s.length ∧ ∀ j, j < k → okChB (s.getD j 0) = true) (fun k => s.length - k) 0 (by simp) (weak_mk ?_ ?_) fun k hk => ?_
 · (try simp only [bK1, bK2, bK3, bK4, bK5, bK6, bK7, bK8]); simp (maxSteps := 10000000) (disch := omega) only [go_sem, ↓reduceIte, Nat.reduceEqDiff, Nat.reduceSub, Nat.reduceLeDiff, Nat.reduceAdd, Int.reduceEq, Int.reduceLT, Int.reduceLE]
 · (try simp only [bK1, bK2, bK3, bK4, bK5, bK6, bK7, bK8]); simp (maxSteps := 10000000) (disch := omega) only [go_sem, ↓reduceIte, Nat.reduceEqDiff, Nat.reduceSub, Nat.reduceLeDiff, Nat.reduceAdd, Int.reduceEq, Int.reduceLT, Int.reduceLE]
 obtain ⟨hk1, hk2⟩ := hk
 by_cases hlt : k < s.length
 · have hgo : okChB (s.getD k 0) = true → (k + 1 ≤ s.length ∧ ∀ j, j < k + 1 → okChB (s.getD j 0) = true) := fun h => ⟨hlt, fun j hj => by
    by_cases e : j = k
    · subst e; exact h
    · exact hk2 j (by omega)⟩
   have hbad := fun h => name_bad (s := s) hlt h
   generalize hb : s.getD k 0 = b at *
   by_cases hok : okChB b = true
   · have hok' := of_decide_eq_true hok
     have hg := hgo hok
     have : (97 ≤ b.toNat ∧ b.toNat ≤ 122) ∨ (65 ≤ b.toNat ∧ b.toNat ≤ 90) ∨ (48 ≤ b.toNat ∧ b.toNat ≤ 57) ∨ b.toNat = 46 ∨ b.toNat = 95 ∨ b.toNat = 45 := by omega
     rcases this with hc | hc | hc | hc | hc | hc
     all_goals (try simp only [bK1, bK2, bK3, bK4, bK5, bK6, bK7, bK8]); simp (maxSteps := 10000000) (disch := omega) only [stNameR, hb, hc, go_sem, ↓reduceIte, Nat.reduceEqDiff, Nat.reduceSub, Nat.reduceLeDiff, Nat.reduceAdd, Int.reduceEq, Int.reduceLT, Int.reduceLE]
     all_goals refine loop_next (k + 1) _ _ rfl hg (by omega) ?_ ?_
     all_goals (try simp only [bK1, bK2, bK3, bK4, bK5, bK6, bK7, bK8]); simp (maxSteps := 10000000) (disch := omega) only [go_sem, ↓reduceIte, Nat.reduceEqDiff, Nat.reduceSub, Nat.reduceLeDiff, Nat.reduceAdd, Int.reduceEq, Int.reduceLT, Int.reduceLE]
   · have hok0 : okChB b = false := by simpa using hok
     have hok' := of_decide_eq_false hok0
     have hg := hbad hok0
     have : b.toNat < 45 ∨ b.toNat = 47 ∨ (58 ≤ b.toNat ∧ b.toNat ≤ 64) ∨ (91 ≤ b.toNat ∧ b.toNat ≤ 94) ∨ b.toNat = 96 ∨ 123 ≤ b.toNat := by omega
     rcases this with hc | hc | hc | hc | hc | hc
     all_goals (try simp only [bK1, bK2, bK3, bK4, bK5, bK6, bK7, bK8]); simp (maxSteps := 10000000) (disch := omega) only [stNameR, hb, hc, hg, go_sem, ↓reduceIte, Nat.reduceEqDiff, Nat.reduceSub, Nat.reduceLeDiff, Nat.reduceAdd, Int.reduceEq, Int.reduceLT, Int.reduceLE]
 · obtain rfl : k = s.length := by omega
   have e := name_good h1' (by omega) h3 h4 hk2
   (try simp only [bK1, bK2, bK3, bK4, bK5, bK6, bK7, bK8]); simp (maxSteps := 10000000) (disch := omega) only [stNameR, e, go_sem, ↓reduceIte, Nat.reduceEqDiff, Nat.reduceSub, Nat.reduceLeDiff, Nat.reduceAdd, Int.reduceEq, Int.reduceLT, Int.reduceLE]
end Go.Proofs.Ytfkmlmckihmihaa.Fw
namespace Go.Proofs.Ytfkmlmckihmihaa.Fw
open Go.RowKit Go.Proofs
def BaseP (e : Evt) : Prop := 1 ≤ e.rep ∧ e.rep ≤ 8 ∧ 1 ≤ e.seq ∧ e.seq ≤ 1048576 ∧ e.dep (e.rep - 1).toNat + 1 = e.seq ∧ 1 ≤ e.kind ∧ e.kind ≤ 9
def DepP (e : Evt) : Prop := ∀ i, i < 8 → e.dep i ≤ 1048576
def zerosB (b : Evt) : Bool := zeroB b.orep b.oseq && (zeroB b.drep b.dseq && (decide (b.name = []) && (decide ((b.gone.l.length : Int) = 0) && (decide ((b.base.l.length : Int) = 0) && (decide (b.off = 0) && (decide (b.data = []) && decide (b.ward = 0)))))))
noncomputable def kindK (e : Evt) : Bool :=
 if e.kind = 1 ∨ e.kind = 2 then (placeB e && (nameB e.name))
 else if e.kind = 3 then (hasB e.dep e.orep e.oseq && (idsB e.base.l 1 e.dep && (sizeB (e.off) && (decide ((1 : Int) ≤ (e.data.length : Int)) && (sizeB ((e.data.length : Int)) && (sizeB (e.off + (e.data.length : Int))))))))
 else if e.kind = 4 then (hasB e.dep e.orep e.oseq && (idsB e.base.l 1 e.dep && (sizeB (e.off))))
 else if e.kind = 5 then (hasB e.dep e.orep e.oseq && (idsB e.base.l 8 e.dep && (decide ((2 : Int) ≤ (e.base.l.length : Int)) && (sizeB ((e.data.length : Int))))))
 else if e.kind = 6 then (hasB e.dep e.orep e.oseq && (idsB e.gone.l 8 e.dep))
 else if e.kind = 7 then (hasB e.dep e.orep e.oseq && (idsB e.gone.l 8 e.dep && (placeB e && (nameB e.name))))
 else if e.kind = 8 then (decide (1 ≤ e.ward) && (decide (e.ward ≤ 4)))
 else true
open Classical in
noncomputable def checkB (e : Evt) : Bool := decide (BaseP e) && (decide (DepP e) && (zerosB (bareE e) && kindK e))
theorem check_b {e : Evt} (h : ¬ BaseP e) : checkB e = false := by simp [checkB, h]
theorem check_d {e : Evt} (h : ¬ DepP e) : checkB e = false := by simp [checkB, h]
theorem check_z {e : Evt} (h : zerosB (bareE e) = false) : checkB e = false := by simp [checkB, h]
theorem check_k {e : Evt} (h1 : BaseP e) (h2 : DepP e) (h3 : zerosB (bareE e) = true) : checkB e = kindK e := by simp [checkB, h1, h2, h3]
def ev (e : Evt) : Prop := e.gone.ok ∧ e.base.ok ∧ e.gone.l.length ≤ 1000 ∧ e.base.l.length ≤ 1000 ∧ e.data.length ≤ 100000
theorem kindK_1 {e : Evt} (h : e.kind = 1) : kindK e = (placeB e && (nameB e.name)) := by simp [kindK, h]
theorem kindK_2 {e : Evt} (h : e.kind = 2) : kindK e = (placeB e && (nameB e.name)) := by simp [kindK, h]
theorem kindK_3 {e : Evt} (h : e.kind = 3) : kindK e = (hasB e.dep e.orep e.oseq && (idsB e.base.l 1 e.dep && (sizeB (e.off) && (decide ((1 : Int) ≤ (e.data.length : Int)) && (sizeB ((e.data.length : Int)) && (sizeB (e.off + (e.data.length : Int)))))))) := by simp [kindK, h]
theorem kindK_4 {e : Evt} (h : e.kind = 4) : kindK e = (hasB e.dep e.orep e.oseq && (idsB e.base.l 1 e.dep && (sizeB (e.off)))) := by simp [kindK, h]
theorem kindK_5 {e : Evt} (h : e.kind = 5) : kindK e = (hasB e.dep e.orep e.oseq && (idsB e.base.l 8 e.dep && (decide ((2 : Int) ≤ (e.base.l.length : Int)) && (sizeB ((e.data.length : Int)))))) := by simp [kindK, h]
theorem kindK_6 {e : Evt} (h : e.kind = 6) : kindK e = (hasB e.dep e.orep e.oseq && (idsB e.gone.l 8 e.dep)) := by simp [kindK, h]
theorem kindK_7 {e : Evt} (h : e.kind = 7) : kindK e = (hasB e.dep e.orep e.oseq && (idsB e.gone.l 8 e.dep && (placeB e && (nameB e.name)))) := by simp [kindK, h]
theorem kindK_8 {e : Evt} (h : e.kind = 8) : kindK e = (decide (1 ≤ e.ward) && (decide (e.ward ≤ 4))) := by simp [kindK, h]
theorem kindK_9 {e : Evt} (h : e.kind = 9) : kindK e = (true) := by simp [kindK, h]
def stChk (e : Evt) (k : Nat) : FS := mk [(55, .pv (.i .i64 k)), (54, .vec 8 (vE e.dep)), (1, .p 1 0)] [(1, some (.var (.vec 21 (evE e))))]
set_option maxHeartbeats 16000000 in
theorem okCheck (e : Evt) (he : ev e) {h d} : FunOk Try.prog 57 [.vec 21 (evE e)] h d (.pv (.b (checkB e))) [] := by
 refine fun_pure mixed fn57 (by simp) rfl rfl fun F => ?_
 have hl := evE_len e
 obtain ⟨hg, hb, hgn, hbn, hdl⟩ := he
 by_cases r1 : e.rep < 1
 · have eb := check_b (e := e) fun h => by have := h.1; omega
   (try simp only [bK1, bK2, bK3, bK4, bK5, bK6, bK7, bK8]); simp (maxSteps := 10000000) (disch := omega) only [ir57, ld_ev0, r1, eb, go_sem, ↓reduceIte, Nat.reduceEqDiff, Nat.reduceSub, Nat.reduceLeDiff, Nat.reduceAdd, Int.reduceEq, Int.reduceLT, Int.reduceLE]
 by_cases r2 : 8 < e.rep
 · have eb := check_b (e := e) fun h => by have := h.2.1; omega
   (try simp only [bK1, bK2, bK3, bK4, bK5, bK6, bK7, bK8]); simp (maxSteps := 10000000) (disch := omega) only [ir57, ld_ev0, r1, r2, eb, go_sem, ↓reduceIte, Nat.reduceEqDiff, Nat.reduceSub, Nat.reduceLeDiff, Nat.reduceAdd, Int.reduceEq, Int.reduceLT, Int.reduceLE]
 by_cases r3 : (e.seq : Int) < 1
 · have eb := check_b (e := e) fun h => by have := h.2.2.1; omega
   (try simp only [bK1, bK2, bK3, bK4, bK5, bK6, bK7, bK8]); simp (maxSteps := 10000000) (disch := omega) only [ir57, ld_ev0, ld_ev1, r1, r2, r3, eb, go_sem, ↓reduceIte, Nat.reduceEqDiff, Nat.reduceSub, Nat.reduceLeDiff, Nat.reduceAdd, Int.reduceEq, Int.reduceLT, Int.reduceLE]
 by_cases r4 : 1048576 < (e.seq : Int)
 · have eb := check_b (e := e) fun h => by have := h.2.2.2.1; omega
   (try simp only [bK1, bK2, bK3, bK4, bK5, bK6, bK7, bK8]); simp (maxSteps := 10000000) (disch := omega) only [ir57, ld_ev0, ld_ev1, r1, r2, r3, r4, eb, go_sem, ↓reduceIte, Nat.reduceEqDiff, Nat.reduceSub, Nat.reduceLeDiff, Nat.reduceAdd, Int.reduceEq, Int.reduceLT, Int.reduceLE]
 obtain ⟨k, hk⟩ : ∃ k : Nat, e.rep = (k : Int) + 1 := ⟨(e.rep - 1).toNat, by omega⟩
 have hk8 : k < 8 := by omega
 have ek : ((k : Int) + 1 - 1) = (k : Int) := by omega
 have ekn : (e.rep - 1).toNat = k := by omega
 by_cases r5 : (e.dep k : Int) = (e.seq : Int) - 1
 rotate_left
 · have eb := check_b (e := e) fun h => by have := h.2.2.2.2.1; rw [ekn] at this; omega
   (try simp only [bK1, bK2, bK3, bK4, bK5, bK6, bK7, bK8]); simp (maxSteps := 10000000) (disch := omega) only [ir57, ld_ev0, ld_ev1, ld_evDepAt, hk, ek, r3, r4, r5, eb, go_sem, ↓reduceIte, Nat.reduceEqDiff, Nat.reduceSub, Nat.reduceLeDiff, Nat.reduceAdd, Int.reduceEq, Int.reduceLT, Int.reduceLE]
 by_cases r6 : e.kind < 1
 · have eb := check_b (e := e) fun h => by have := h.2.2.2.2.2.1; omega
   (try simp only [bK1, bK2, bK3, bK4, bK5, bK6, bK7, bK8]); simp (maxSteps := 10000000) (disch := omega) only [ir57, ld_ev0, ld_ev1, ld_ev10, ld_evDepAt, hk, ek, r3, r4, r5, r6, eb, go_sem, ↓reduceIte, Nat.reduceEqDiff, Nat.reduceSub, Nat.reduceLeDiff, Nat.reduceAdd, Int.reduceEq, Int.reduceLT, Int.reduceLE]
 by_cases r7 : 9 < e.kind
 · have eb := check_b (e := e) fun h => by have := h.2.2.2.2.2.2; omega
   (try simp only [bK1, bK2, bK3, bK4, bK5, bK6, bK7, bK8]); simp (maxSteps := 10000000) (disch := omega) only [ir57, ld_ev0, ld_ev1, ld_ev10, ld_evDepAt, hk, ek, r3, r4, r5, r6, r7, eb, go_sem, ↓reduceIte, Nat.reduceEqDiff, Nat.reduceSub, Nat.reduceLeDiff, Nat.reduceAdd, Int.reduceEq, Int.reduceLT, Int.reduceLE]
 have hB : BaseP e := ⟨by omega, by omega, by omega, by omega, by rw [ekn]; omega, by omega, by omega⟩
 (try simp only [bK1, bK2, bK3, bK4, bK5, bK6, bK7, bK8]); simp (maxSteps := 10000000) (disch := omega) only [ir57, ld_ev0, ld_ev1, ld_ev10, ld_evDep, ld_evDepAt, hk, ek, r3, r4, r5, r6, r7, go_sem, ↓reduceIte, Nat.reduceEqDiff, Nat.reduceSub, Nat.reduceLeDiff, Nat.reduceAdd, Int.reduceEq, Int.reduceLT, Int.reduceLE]
 refine loop_ok mixed (stChk e) (fun k => k ≤ 8 ∧ ∀ i, i < k → e.dep i ≤ 1048576) (fun k => 8 - k) 0 (by simp) (weak_mk ?_ ?_) fun j hj => ?_
 · (try simp only [bK1, bK2, bK3, bK4, bK5, bK6, bK7, bK8]); simp (maxSteps := 10000000) (disch := omega) only [go_sem, ↓reduceIte, Nat.reduceEqDiff, Nat.reduceSub, Nat.reduceLeDiff, Nat.reduceAdd, Int.reduceEq, Int.reduceLT, Int.reduceLE]
 · (try simp only [bK1, bK2, bK3, bK4, bK5, bK6, bK7, bK8]); simp (maxSteps := 10000000) (disch := omega) only [go_sem, ↓reduceIte, Nat.reduceEqDiff, Nat.reduceSub, Nat.reduceLeDiff, Nat.reduceAdd, Int.reduceEq, Int.reduceLT, Int.reduceLE]
 obtain ⟨hj1, hj2⟩ := hj
 by_cases hlt : j < 8
 · by_cases hd : 1048576 < (e.dep j : Int)
   · have eb := check_d (e := e) fun h => by have := h j hlt; omega
     (try simp only [bK1, bK2, bK3, bK4, bK5, bK6, bK7, bK8]); simp (maxSteps := 10000000) (disch := omega) only [stChk, hd, eb, go_sem, ↓reduceIte, Nat.reduceEqDiff, Nat.reduceSub, Nat.reduceLeDiff, Nat.reduceAdd, Int.reduceEq, Int.reduceLT, Int.reduceLE]
   · (try simp only [bK1, bK2, bK3, bK4, bK5, bK6, bK7, bK8]); simp (maxSteps := 10000000) (disch := omega) only [stChk, hd, go_sem, ↓reduceIte, Nat.reduceEqDiff, Nat.reduceSub, Nat.reduceLeDiff, Nat.reduceAdd, Int.reduceEq, Int.reduceLT, Int.reduceLE]
     refine loop_next (j + 1) _ _ rfl ⟨by omega, fun i hi => ?_⟩ (by omega) ?_ ?_
     · by_cases e : i = j
       · subst e; omega
       · exact hj2 i (by omega)
     · (try simp only [bK1, bK2, bK3, bK4, bK5, bK6, bK7, bK8]); simp (maxSteps := 10000000) (disch := omega) only [go_sem, ↓reduceIte, Nat.reduceEqDiff, Nat.reduceSub, Nat.reduceLeDiff, Nat.reduceAdd, Int.reduceEq, Int.reduceLT, Int.reduceLE]
     · (try simp only [bK1, bK2, bK3, bK4, bK5, bK6, bK7, bK8]); simp (maxSteps := 10000000) (disch := omega) only [go_sem, ↓reduceIte, Nat.reduceEqDiff, Nat.reduceSub, Nat.reduceLeDiff, Nat.reduceAdd, Int.reduceEq, Int.reduceLT, Int.reduceLE]
 obtain rfl : j = 8 := by omega
 have hD : DepP e := hj2
 (try simp only [bK1, bK2, bK3, bK4, bK5, bK6, bK7, bK8]); simp (maxSteps := 10000000) (disch := omega) only [stChk, ld_ev, go_sem, ↓reduceIte, Nat.reduceEqDiff, Nat.reduceSub, Nat.reduceLeDiff, Nat.reduceAdd, Int.reduceEq, Int.reduceLT, Int.reduceLE]
 refine call_with (okBare e) ?_
 have cz := check_z (e := e)
 have ck := fun h3 => check_k (e := e) hB hD h3
 have hbl := evE_len (bareE e)
 generalize bareE e = b at *

 by_cases z1' : zeroB b.orep b.oseq = false
 · have eb := cz (by simp only [zerosB, z1', decide_true, decide_false, Bool.true_and, Bool.false_and, Bool.and_true, Bool.and_false, Bool.and_self])
   (try simp only [bK1, bK2, bK3, bK4, bK5, bK6, bK7, bK8]); simp (maxSteps := 10000000) (disch := omega) only [fits_id, fits_id0, peq_zero, sp_all, hl, hbl, z1', eb, go_sem, ↓reduceIte, Nat.reduceEqDiff, Nat.reduceSub, Nat.reduceLeDiff, Nat.reduceAdd, Int.reduceEq, Int.reduceLT, Int.reduceLE]
 have z1 : zeroB b.orep b.oseq = true := by simpa using z1'
 by_cases z2' : zeroB b.drep b.dseq = false
 · have eb := cz (by simp only [zerosB, z1, z2', decide_true, decide_false, Bool.true_and, Bool.false_and, Bool.and_true, Bool.and_false, Bool.and_self])
   (try simp only [bK1, bK2, bK3, bK4, bK5, bK6, bK7, bK8]); simp (maxSteps := 10000000) (disch := omega) only [fits_id, fits_id0, peq_zero, sp_all, hl, hbl, z1, z2', eb, go_sem, ↓reduceIte, Nat.reduceEqDiff, Nat.reduceSub, Nat.reduceLeDiff, Nat.reduceAdd, Int.reduceEq, Int.reduceLT, Int.reduceLE]
 have z2 : zeroB b.drep b.dseq = true := by simpa using z2'
 by_cases z3 : b.name = []
 rotate_left
 · have eb := cz (by simp only [zerosB, z1, z2, z3, decide_true, decide_false, Bool.true_and, Bool.false_and, Bool.and_true, Bool.and_false, Bool.and_self])
   (try simp only [bK1, bK2, bK3, bK4, bK5, bK6, bK7, bK8]); simp (maxSteps := 10000000) (disch := omega) only [fits_id, fits_id0, peq_zero, sp_all, hl, hbl, z1, z2, z3, eb, go_sem, ↓reduceIte, Nat.reduceEqDiff, Nat.reduceSub, Nat.reduceLeDiff, Nat.reduceAdd, Int.reduceEq, Int.reduceLT, Int.reduceLE]
 by_cases z4 : (b.gone.l.length : Int) = 0
 rotate_left
 · have eb := cz (by simp only [zerosB, z1, z2, z3, z4, decide_true, decide_false, Bool.true_and, Bool.false_and, Bool.and_true, Bool.and_false, Bool.and_self])
   (try simp only [bK1, bK2, bK3, bK4, bK5, bK6, bK7, bK8]); simp (maxSteps := 10000000) (disch := omega) only [fits_id, fits_id0, peq_zero, sp_all, hl, hbl, z1, z2, z3, z4, eb, go_sem, ↓reduceIte, Nat.reduceEqDiff, Nat.reduceSub, Nat.reduceLeDiff, Nat.reduceAdd, Int.reduceEq, Int.reduceLT, Int.reduceLE]
 by_cases z5 : (b.base.l.length : Int) = 0
 rotate_left
 · have eb := cz (by simp only [zerosB, z1, z2, z3, z4, z5, decide_true, decide_false, Bool.true_and, Bool.false_and, Bool.and_true, Bool.and_false, Bool.and_self])
   (try simp only [bK1, bK2, bK3, bK4, bK5, bK6, bK7, bK8]); simp (maxSteps := 10000000) (disch := omega) only [fits_id, fits_id0, peq_zero, sp_all, hl, hbl, z1, z2, z3, z4, z5, eb, go_sem, ↓reduceIte, Nat.reduceEqDiff, Nat.reduceSub, Nat.reduceLeDiff, Nat.reduceAdd, Int.reduceEq, Int.reduceLT, Int.reduceLE]
 by_cases z6 : b.off = 0
 rotate_left
 · have eb := cz (by simp only [zerosB, z1, z2, z3, z4, z5, z6, decide_true, decide_false, Bool.true_and, Bool.false_and, Bool.and_true, Bool.and_false, Bool.and_self])
   (try simp only [bK1, bK2, bK3, bK4, bK5, bK6, bK7, bK8]); simp (maxSteps := 10000000) (disch := omega) only [fits_id, fits_id0, peq_zero, sp_all, hl, hbl, z1, z2, z3, z4, z5, z6, eb, go_sem, ↓reduceIte, Nat.reduceEqDiff, Nat.reduceSub, Nat.reduceLeDiff, Nat.reduceAdd, Int.reduceEq, Int.reduceLT, Int.reduceLE]
 by_cases z7 : b.data = []
 rotate_left
 · have eb := cz (by simp only [zerosB, z1, z2, z3, z4, z5, z6, z7, decide_true, decide_false, Bool.true_and, Bool.false_and, Bool.and_true, Bool.and_false, Bool.and_self])
   (try simp only [bK1, bK2, bK3, bK4, bK5, bK6, bK7, bK8]); simp (maxSteps := 10000000) (disch := omega) only [fits_id, fits_id0, peq_zero, sp_all, hl, hbl, z1, z2, z3, z4, z5, z6, z7, eb, go_sem, ↓reduceIte, Nat.reduceEqDiff, Nat.reduceSub, Nat.reduceLeDiff, Nat.reduceAdd, Int.reduceEq, Int.reduceLT, Int.reduceLE]
 by_cases z8 : b.ward = 0
 rotate_left
 · have eb := cz (by simp only [zerosB, z1, z2, z3, z4, z5, z6, z7, z8, decide_true, decide_false, Bool.true_and, Bool.false_and, Bool.and_true, Bool.and_false, Bool.and_self])
   (try simp only [bK1, bK2, bK3, bK4, bK5, bK6, bK7, bK8]); simp (maxSteps := 10000000) (disch := omega) only [fits_id, fits_id0, peq_zero, sp_all, hl, hbl, z1, z2, z3, z4, z5, z6, z7, z8, eb, go_sem, ↓reduceIte, Nat.reduceEqDiff, Nat.reduceSub, Nat.reduceLeDiff, Nat.reduceAdd, Int.reduceEq, Int.reduceLT, Int.reduceLE]
 have ez := ck (by simp only [zerosB, z1, z2, z3, z4, z5, z6, z7, z8, decide_true, decide_false, Bool.true_and, Bool.false_and, Bool.and_true, Bool.and_false, Bool.and_self])
 have hkk : e.kind = 1 ∨ e.kind = 2 ∨ e.kind = 3 ∨ e.kind = 4 ∨ e.kind = 5 ∨ e.kind = 6 ∨ e.kind = 7 ∨ e.kind = 8 ∨ e.kind = 9 := by omega
 rcases hkk with hki | hki | hki | hki | hki | hki | hki | hki | hki
 · rw [kindK_1 hki] at ez
   (try simp only [bK1, bK2, bK3, bK4, bK5, bK6, bK7, bK8]); simp (maxSteps := 10000000) (disch := omega) only [fits_id, fits_id0, peq_zero, sp_all, hl, hbl, z1, z2, z3, z4, z5, z6, z7, z8, hki, go_sem, ↓reduceIte, Nat.reduceEqDiff, Nat.reduceSub, Nat.reduceLeDiff, Nat.reduceAdd, Int.reduceEq, Int.reduceLT, Int.reduceLE]
   refine call_with (okPlace e) ?_
   by_cases s0' : placeB e = false
   · simp only [s0', decide_true, decide_false, Bool.true_and, Bool.false_and, Bool.and_true, Bool.and_false, Bool.and_self] at ez
     (try simp only [bK1, bK2, bK3, bK4, bK5, bK6, bK7, bK8]); simp (maxSteps := 10000000) (disch := omega) only [fits_id, fits_id0, peq_zero, s0', ez, go_sem, ↓reduceIte, Nat.reduceEqDiff, Nat.reduceSub, Nat.reduceLeDiff, Nat.reduceAdd, Int.reduceEq, Int.reduceLT, Int.reduceLE]
   have s0 : placeB e = true := by simpa using s0'
   (try simp only [bK1, bK2, bK3, bK4, bK5, bK6, bK7, bK8]); simp (maxSteps := 10000000) (disch := omega) only [fits_id, fits_id0, peq_zero, s0, go_sem, ↓reduceIte, Nat.reduceEqDiff, Nat.reduceSub, Nat.reduceLeDiff, Nat.reduceAdd, Int.reduceEq, Int.reduceLT, Int.reduceLE]
   refine call_with (okName _) ?_
   by_cases s1' : nameB e.name = false
   · simp only [s0, s1', decide_true, decide_false, Bool.true_and, Bool.false_and, Bool.and_true, Bool.and_false, Bool.and_self] at ez
     (try simp only [bK1, bK2, bK3, bK4, bK5, bK6, bK7, bK8]); simp (maxSteps := 10000000) (disch := omega) only [fits_id, fits_id0, peq_zero, s0, s1', ez, go_sem, ↓reduceIte, Nat.reduceEqDiff, Nat.reduceSub, Nat.reduceLeDiff, Nat.reduceAdd, Int.reduceEq, Int.reduceLT, Int.reduceLE]
   have s1 : nameB e.name = true := by simpa using s1'
   simp only [s0, s1, decide_true, decide_false, Bool.true_and, Bool.false_and, Bool.and_true, Bool.and_false, Bool.and_self] at ez
   (try simp only [bK1, bK2, bK3, bK4, bK5, bK6, bK7, bK8]); simp (maxSteps := 10000000) (disch := omega) only [fits_id, fits_id0, peq_zero, s0, s1, ez, go_sem, ↓reduceIte, Nat.reduceEqDiff, Nat.reduceSub, Nat.reduceLeDiff, Nat.reduceAdd, Int.reduceEq, Int.reduceLT, Int.reduceLE]
 · rw [kindK_2 hki] at ez
   (try simp only [bK1, bK2, bK3, bK4, bK5, bK6, bK7, bK8]); simp (maxSteps := 10000000) (disch := omega) only [fits_id, fits_id0, peq_zero, sp_all, hl, hbl, z1, z2, z3, z4, z5, z6, z7, z8, hki, go_sem, ↓reduceIte, Nat.reduceEqDiff, Nat.reduceSub, Nat.reduceLeDiff, Nat.reduceAdd, Int.reduceEq, Int.reduceLT, Int.reduceLE]
   refine call_with (okPlace e) ?_
   by_cases s0' : placeB e = false
   · simp only [s0', decide_true, decide_false, Bool.true_and, Bool.false_and, Bool.and_true, Bool.and_false, Bool.and_self] at ez
     (try simp only [bK1, bK2, bK3, bK4, bK5, bK6, bK7, bK8]); simp (maxSteps := 10000000) (disch := omega) only [fits_id, fits_id0, peq_zero, s0', ez, go_sem, ↓reduceIte, Nat.reduceEqDiff, Nat.reduceSub, Nat.reduceLeDiff, Nat.reduceAdd, Int.reduceEq, Int.reduceLT, Int.reduceLE]
   have s0 : placeB e = true := by simpa using s0'
   (try simp only [bK1, bK2, bK3, bK4, bK5, bK6, bK7, bK8]); simp (maxSteps := 10000000) (disch := omega) only [fits_id, fits_id0, peq_zero, s0, go_sem, ↓reduceIte, Nat.reduceEqDiff, Nat.reduceSub, Nat.reduceLeDiff, Nat.reduceAdd, Int.reduceEq, Int.reduceLT, Int.reduceLE]
   refine call_with (okName _) ?_
   by_cases s1' : nameB e.name = false
   · simp only [s0, s1', decide_true, decide_false, Bool.true_and, Bool.false_and, Bool.and_true, Bool.and_false, Bool.and_self] at ez
     (try simp only [bK1, bK2, bK3, bK4, bK5, bK6, bK7, bK8]); simp (maxSteps := 10000000) (disch := omega) only [fits_id, fits_id0, peq_zero, s0, s1', ez, go_sem, ↓reduceIte, Nat.reduceEqDiff, Nat.reduceSub, Nat.reduceLeDiff, Nat.reduceAdd, Int.reduceEq, Int.reduceLT, Int.reduceLE]
   have s1 : nameB e.name = true := by simpa using s1'
   simp only [s0, s1, decide_true, decide_false, Bool.true_and, Bool.false_and, Bool.and_true, Bool.and_false, Bool.and_self] at ez
   (try simp only [bK1, bK2, bK3, bK4, bK5, bK6, bK7, bK8]); simp (maxSteps := 10000000) (disch := omega) only [fits_id, fits_id0, peq_zero, s0, s1, ez, go_sem, ↓reduceIte, Nat.reduceEqDiff, Nat.reduceSub, Nat.reduceLeDiff, Nat.reduceAdd, Int.reduceEq, Int.reduceLT, Int.reduceLE]
 · rw [kindK_3 hki] at ez
   (try simp only [bK1, bK2, bK3, bK4, bK5, bK6, bK7, bK8]); simp (maxSteps := 10000000) (disch := omega) only [fits_id, fits_id0, peq_zero, sp_all, hl, hbl, z1, z2, z3, z4, z5, z6, z7, z8, hki, go_sem, ↓reduceIte, Nat.reduceEqDiff, Nat.reduceSub, Nat.reduceLeDiff, Nat.reduceAdd, Int.reduceEq, Int.reduceLT, Int.reduceLE]
   refine call_with (okHasV _ _ _) ?_
   by_cases s0' : hasB e.dep e.orep e.oseq = false
   · simp only [s0', decide_true, decide_false, Bool.true_and, Bool.false_and, Bool.and_true, Bool.and_false, Bool.and_self] at ez
     (try simp only [bK1, bK2, bK3, bK4, bK5, bK6, bK7, bK8]); simp (maxSteps := 10000000) (disch := omega) only [fits_id, fits_id0, peq_zero, s0', ez, go_sem, ↓reduceIte, Nat.reduceEqDiff, Nat.reduceSub, Nat.reduceLeDiff, Nat.reduceAdd, Int.reduceEq, Int.reduceLT, Int.reduceLE]
   have s0 : hasB e.dep e.orep e.oseq = true := by simpa using s0'
   (try simp only [bK1, bK2, bK3, bK4, bK5, bK6, bK7, bK8]); simp (maxSteps := 10000000) (disch := omega) only [fits_id, fits_id0, peq_zero, s0, go_sem, ↓reduceIte, Nat.reduceEqDiff, Nat.reduceSub, Nat.reduceLeDiff, Nat.reduceAdd, Int.reduceEq, Int.reduceLT, Int.reduceLE]
   refine call_with (okIds (l := e.base.l) (most := 1) hb hbn) ?_
   by_cases s1' : idsB e.base.l 1 e.dep = false
   · simp only [s0, s1', decide_true, decide_false, Bool.true_and, Bool.false_and, Bool.and_true, Bool.and_false, Bool.and_self] at ez
     (try simp only [bK1, bK2, bK3, bK4, bK5, bK6, bK7, bK8]); simp (maxSteps := 10000000) (disch := omega) only [fits_id, fits_id0, peq_zero, s0, s1', ez, go_sem, ↓reduceIte, Nat.reduceEqDiff, Nat.reduceSub, Nat.reduceLeDiff, Nat.reduceAdd, Int.reduceEq, Int.reduceLT, Int.reduceLE]
   have s1 : idsB e.base.l 1 e.dep = true := by simpa using s1'
   (try simp only [bK1, bK2, bK3, bK4, bK5, bK6, bK7, bK8]); simp (maxSteps := 10000000) (disch := omega) only [fits_id, fits_id0, peq_zero, s0, s1, go_sem, ↓reduceIte, Nat.reduceEqDiff, Nat.reduceSub, Nat.reduceLeDiff, Nat.reduceAdd, Int.reduceEq, Int.reduceLT, Int.reduceLE]
   refine call_with (okSize (e.off)) ?_
   by_cases s2' : sizeB (e.off) = false
   · simp only [s0, s1, s2', decide_true, decide_false, Bool.true_and, Bool.false_and, Bool.and_true, Bool.and_false, Bool.and_self] at ez
     (try simp only [bK1, bK2, bK3, bK4, bK5, bK6, bK7, bK8]); simp (maxSteps := 10000000) (disch := omega) only [fits_id, fits_id0, peq_zero, s0, s1, s2', ez, go_sem, ↓reduceIte, Nat.reduceEqDiff, Nat.reduceSub, Nat.reduceLeDiff, Nat.reduceAdd, Int.reduceEq, Int.reduceLT, Int.reduceLE]
   have s2 : sizeB (e.off) = true := by simpa using s2'
   have s2b := of_decide_eq_true s2
   by_cases s3 : (1 : Int) ≤ (e.data.length : Int)
   rotate_left
   · simp only [s0, s1, s2, s3, decide_true, decide_false, Bool.true_and, Bool.false_and, Bool.and_true, Bool.and_false, Bool.and_self] at ez
     (try simp only [bK1, bK2, bK3, bK4, bK5, bK6, bK7, bK8]); simp (maxSteps := 10000000) (disch := omega) only [fits_id, fits_id0, peq_zero, s0, s1, s2, s3, ez, go_sem, ↓reduceIte, Nat.reduceEqDiff, Nat.reduceSub, Nat.reduceLeDiff, Nat.reduceAdd, Int.reduceEq, Int.reduceLT, Int.reduceLE]
   (try simp only [bK1, bK2, bK3, bK4, bK5, bK6, bK7, bK8]); simp (maxSteps := 10000000) (disch := omega) only [fits_id, fits_id0, peq_zero, s0, s1, s2, s3, go_sem, ↓reduceIte, Nat.reduceEqDiff, Nat.reduceSub, Nat.reduceLeDiff, Nat.reduceAdd, Int.reduceEq, Int.reduceLT, Int.reduceLE]
   refine call_with (okSize ((e.data.length : Int))) ?_
   by_cases s4' : sizeB ((e.data.length : Int)) = false
   · simp only [s0, s1, s2, s3, s4', decide_true, decide_false, Bool.true_and, Bool.false_and, Bool.and_true, Bool.and_false, Bool.and_self] at ez
     (try simp only [bK1, bK2, bK3, bK4, bK5, bK6, bK7, bK8]); simp (maxSteps := 10000000) (disch := omega) only [fits_id, fits_id0, peq_zero, s0, s1, s2, s3, s4', ez, go_sem, ↓reduceIte, Nat.reduceEqDiff, Nat.reduceSub, Nat.reduceLeDiff, Nat.reduceAdd, Int.reduceEq, Int.reduceLT, Int.reduceLE]
   have s4 : sizeB ((e.data.length : Int)) = true := by simpa using s4'
   have s4b := of_decide_eq_true s4
   (try simp only [bK1, bK2, bK3, bK4, bK5, bK6, bK7, bK8]); simp (maxSteps := 10000000) (disch := omega) only [fits_id, fits_id0, peq_zero, s0, s1, s2, s3, s4, go_sem, ↓reduceIte, Nat.reduceEqDiff, Nat.reduceSub, Nat.reduceLeDiff, Nat.reduceAdd, Int.reduceEq, Int.reduceLT, Int.reduceLE]
   refine call_with (okSize (e.off + (e.data.length : Int))) ?_
   by_cases s5' : sizeB (e.off + (e.data.length : Int)) = false
   · simp only [s0, s1, s2, s3, s4, s5', decide_true, decide_false, Bool.true_and, Bool.false_and, Bool.and_true, Bool.and_false, Bool.and_self] at ez
     (try simp only [bK1, bK2, bK3, bK4, bK5, bK6, bK7, bK8]); simp (maxSteps := 10000000) (disch := omega) only [fits_id, fits_id0, peq_zero, s0, s1, s2, s3, s4, s5', ez, go_sem, ↓reduceIte, Nat.reduceEqDiff, Nat.reduceSub, Nat.reduceLeDiff, Nat.reduceAdd, Int.reduceEq, Int.reduceLT, Int.reduceLE]
   have s5 : sizeB (e.off + (e.data.length : Int)) = true := by simpa using s5'
   have s5b := of_decide_eq_true s5
   simp only [s0, s1, s2, s3, s4, s5, decide_true, decide_false, Bool.true_and, Bool.false_and, Bool.and_true, Bool.and_false, Bool.and_self] at ez
   (try simp only [bK1, bK2, bK3, bK4, bK5, bK6, bK7, bK8]); simp (maxSteps := 10000000) (disch := omega) only [fits_id, fits_id0, peq_zero, s0, s1, s2, s3, s4, s5, ez, go_sem, ↓reduceIte, Nat.reduceEqDiff, Nat.reduceSub, Nat.reduceLeDiff, Nat.reduceAdd, Int.reduceEq, Int.reduceLT, Int.reduceLE]
 · rw [kindK_4 hki] at ez
   (try simp only [bK1, bK2, bK3, bK4, bK5, bK6, bK7, bK8]); simp (maxSteps := 10000000) (disch := omega) only [fits_id, fits_id0, peq_zero, sp_all, hl, hbl, z1, z2, z3, z4, z5, z6, z7, z8, hki, go_sem, ↓reduceIte, Nat.reduceEqDiff, Nat.reduceSub, Nat.reduceLeDiff, Nat.reduceAdd, Int.reduceEq, Int.reduceLT, Int.reduceLE]
   refine call_with (okHasV _ _ _) ?_
   by_cases s0' : hasB e.dep e.orep e.oseq = false
   · simp only [s0', decide_true, decide_false, Bool.true_and, Bool.false_and, Bool.and_true, Bool.and_false, Bool.and_self] at ez
     (try simp only [bK1, bK2, bK3, bK4, bK5, bK6, bK7, bK8]); simp (maxSteps := 10000000) (disch := omega) only [fits_id, fits_id0, peq_zero, s0', ez, go_sem, ↓reduceIte, Nat.reduceEqDiff, Nat.reduceSub, Nat.reduceLeDiff, Nat.reduceAdd, Int.reduceEq, Int.reduceLT, Int.reduceLE]
   have s0 : hasB e.dep e.orep e.oseq = true := by simpa using s0'
   (try simp only [bK1, bK2, bK3, bK4, bK5, bK6, bK7, bK8]); simp (maxSteps := 10000000) (disch := omega) only [fits_id, fits_id0, peq_zero, s0, go_sem, ↓reduceIte, Nat.reduceEqDiff, Nat.reduceSub, Nat.reduceLeDiff, Nat.reduceAdd, Int.reduceEq, Int.reduceLT, Int.reduceLE]
   refine call_with (okIds (l := e.base.l) (most := 1) hb hbn) ?_
   by_cases s1' : idsB e.base.l 1 e.dep = false
   · simp only [s0, s1', decide_true, decide_false, Bool.true_and, Bool.false_and, Bool.and_true, Bool.and_false, Bool.and_self] at ez
     (try simp only [bK1, bK2, bK3, bK4, bK5, bK6, bK7, bK8]); simp (maxSteps := 10000000) (disch := omega) only [fits_id, fits_id0, peq_zero, s0, s1', ez, go_sem, ↓reduceIte, Nat.reduceEqDiff, Nat.reduceSub, Nat.reduceLeDiff, Nat.reduceAdd, Int.reduceEq, Int.reduceLT, Int.reduceLE]
   have s1 : idsB e.base.l 1 e.dep = true := by simpa using s1'
   (try simp only [bK1, bK2, bK3, bK4, bK5, bK6, bK7, bK8]); simp (maxSteps := 10000000) (disch := omega) only [fits_id, fits_id0, peq_zero, s0, s1, go_sem, ↓reduceIte, Nat.reduceEqDiff, Nat.reduceSub, Nat.reduceLeDiff, Nat.reduceAdd, Int.reduceEq, Int.reduceLT, Int.reduceLE]
   refine call_with (okSize (e.off)) ?_
   by_cases s2' : sizeB (e.off) = false
   · simp only [s0, s1, s2', decide_true, decide_false, Bool.true_and, Bool.false_and, Bool.and_true, Bool.and_false, Bool.and_self] at ez
     (try simp only [bK1, bK2, bK3, bK4, bK5, bK6, bK7, bK8]); simp (maxSteps := 10000000) (disch := omega) only [fits_id, fits_id0, peq_zero, s0, s1, s2', ez, go_sem, ↓reduceIte, Nat.reduceEqDiff, Nat.reduceSub, Nat.reduceLeDiff, Nat.reduceAdd, Int.reduceEq, Int.reduceLT, Int.reduceLE]
   have s2 : sizeB (e.off) = true := by simpa using s2'
   have s2b := of_decide_eq_true s2
   simp only [s0, s1, s2, decide_true, decide_false, Bool.true_and, Bool.false_and, Bool.and_true, Bool.and_false, Bool.and_self] at ez
   (try simp only [bK1, bK2, bK3, bK4, bK5, bK6, bK7, bK8]); simp (maxSteps := 10000000) (disch := omega) only [fits_id, fits_id0, peq_zero, s0, s1, s2, ez, go_sem, ↓reduceIte, Nat.reduceEqDiff, Nat.reduceSub, Nat.reduceLeDiff, Nat.reduceAdd, Int.reduceEq, Int.reduceLT, Int.reduceLE]
 · rw [kindK_5 hki] at ez
   (try simp only [bK1, bK2, bK3, bK4, bK5, bK6, bK7, bK8]); simp (maxSteps := 10000000) (disch := omega) only [fits_id, fits_id0, peq_zero, sp_all, hl, hbl, z1, z2, z3, z4, z5, z6, z7, z8, hki, go_sem, ↓reduceIte, Nat.reduceEqDiff, Nat.reduceSub, Nat.reduceLeDiff, Nat.reduceAdd, Int.reduceEq, Int.reduceLT, Int.reduceLE]
   refine call_with (okHasV _ _ _) ?_
   by_cases s0' : hasB e.dep e.orep e.oseq = false
   · simp only [s0', decide_true, decide_false, Bool.true_and, Bool.false_and, Bool.and_true, Bool.and_false, Bool.and_self] at ez
     (try simp only [bK1, bK2, bK3, bK4, bK5, bK6, bK7, bK8]); simp (maxSteps := 10000000) (disch := omega) only [fits_id, fits_id0, peq_zero, s0', ez, go_sem, ↓reduceIte, Nat.reduceEqDiff, Nat.reduceSub, Nat.reduceLeDiff, Nat.reduceAdd, Int.reduceEq, Int.reduceLT, Int.reduceLE]
   have s0 : hasB e.dep e.orep e.oseq = true := by simpa using s0'
   (try simp only [bK1, bK2, bK3, bK4, bK5, bK6, bK7, bK8]); simp (maxSteps := 10000000) (disch := omega) only [fits_id, fits_id0, peq_zero, s0, go_sem, ↓reduceIte, Nat.reduceEqDiff, Nat.reduceSub, Nat.reduceLeDiff, Nat.reduceAdd, Int.reduceEq, Int.reduceLT, Int.reduceLE]
   refine call_with (okIds (l := e.base.l) (most := 8) hb hbn) ?_
   by_cases s1' : idsB e.base.l 8 e.dep = false
   · simp only [s0, s1', decide_true, decide_false, Bool.true_and, Bool.false_and, Bool.and_true, Bool.and_false, Bool.and_self] at ez
     (try simp only [bK1, bK2, bK3, bK4, bK5, bK6, bK7, bK8]); simp (maxSteps := 10000000) (disch := omega) only [fits_id, fits_id0, peq_zero, s0, s1', ez, go_sem, ↓reduceIte, Nat.reduceEqDiff, Nat.reduceSub, Nat.reduceLeDiff, Nat.reduceAdd, Int.reduceEq, Int.reduceLT, Int.reduceLE]
   have s1 : idsB e.base.l 8 e.dep = true := by simpa using s1'
   by_cases s2 : (2 : Int) ≤ (e.base.l.length : Int)
   rotate_left
   · simp only [s0, s1, s2, decide_true, decide_false, Bool.true_and, Bool.false_and, Bool.and_true, Bool.and_false, Bool.and_self] at ez
     (try simp only [bK1, bK2, bK3, bK4, bK5, bK6, bK7, bK8]); simp (maxSteps := 10000000) (disch := omega) only [fits_id, fits_id0, peq_zero, s0, s1, s2, ez, go_sem, ↓reduceIte, Nat.reduceEqDiff, Nat.reduceSub, Nat.reduceLeDiff, Nat.reduceAdd, Int.reduceEq, Int.reduceLT, Int.reduceLE]
   (try simp only [bK1, bK2, bK3, bK4, bK5, bK6, bK7, bK8]); simp (maxSteps := 10000000) (disch := omega) only [fits_id, fits_id0, peq_zero, s0, s1, s2, go_sem, ↓reduceIte, Nat.reduceEqDiff, Nat.reduceSub, Nat.reduceLeDiff, Nat.reduceAdd, Int.reduceEq, Int.reduceLT, Int.reduceLE]
   refine call_with (okSize ((e.data.length : Int))) ?_
   by_cases s3' : sizeB ((e.data.length : Int)) = false
   · simp only [s0, s1, s2, s3', decide_true, decide_false, Bool.true_and, Bool.false_and, Bool.and_true, Bool.and_false, Bool.and_self] at ez
     (try simp only [bK1, bK2, bK3, bK4, bK5, bK6, bK7, bK8]); simp (maxSteps := 10000000) (disch := omega) only [fits_id, fits_id0, peq_zero, s0, s1, s2, s3', ez, go_sem, ↓reduceIte, Nat.reduceEqDiff, Nat.reduceSub, Nat.reduceLeDiff, Nat.reduceAdd, Int.reduceEq, Int.reduceLT, Int.reduceLE]
   have s3 : sizeB ((e.data.length : Int)) = true := by simpa using s3'
   have s3b := of_decide_eq_true s3
   simp only [s0, s1, s2, s3, decide_true, decide_false, Bool.true_and, Bool.false_and, Bool.and_true, Bool.and_false, Bool.and_self] at ez
   (try simp only [bK1, bK2, bK3, bK4, bK5, bK6, bK7, bK8]); simp (maxSteps := 10000000) (disch := omega) only [fits_id, fits_id0, peq_zero, s0, s1, s2, s3, ez, go_sem, ↓reduceIte, Nat.reduceEqDiff, Nat.reduceSub, Nat.reduceLeDiff, Nat.reduceAdd, Int.reduceEq, Int.reduceLT, Int.reduceLE]
 · rw [kindK_6 hki] at ez
   (try simp only [bK1, bK2, bK3, bK4, bK5, bK6, bK7, bK8]); simp (maxSteps := 10000000) (disch := omega) only [fits_id, fits_id0, peq_zero, sp_all, hl, hbl, z1, z2, z3, z4, z5, z6, z7, z8, hki, go_sem, ↓reduceIte, Nat.reduceEqDiff, Nat.reduceSub, Nat.reduceLeDiff, Nat.reduceAdd, Int.reduceEq, Int.reduceLT, Int.reduceLE]
   refine call_with (okHasV _ _ _) ?_
   by_cases s0' : hasB e.dep e.orep e.oseq = false
   · simp only [s0', decide_true, decide_false, Bool.true_and, Bool.false_and, Bool.and_true, Bool.and_false, Bool.and_self] at ez
     (try simp only [bK1, bK2, bK3, bK4, bK5, bK6, bK7, bK8]); simp (maxSteps := 10000000) (disch := omega) only [fits_id, fits_id0, peq_zero, s0', ez, go_sem, ↓reduceIte, Nat.reduceEqDiff, Nat.reduceSub, Nat.reduceLeDiff, Nat.reduceAdd, Int.reduceEq, Int.reduceLT, Int.reduceLE]
   have s0 : hasB e.dep e.orep e.oseq = true := by simpa using s0'
   (try simp only [bK1, bK2, bK3, bK4, bK5, bK6, bK7, bK8]); simp (maxSteps := 10000000) (disch := omega) only [fits_id, fits_id0, peq_zero, s0, go_sem, ↓reduceIte, Nat.reduceEqDiff, Nat.reduceSub, Nat.reduceLeDiff, Nat.reduceAdd, Int.reduceEq, Int.reduceLT, Int.reduceLE]
   refine call_with (okIds (l := e.gone.l) (most := 8) hg hgn) ?_
   by_cases s1' : idsB e.gone.l 8 e.dep = false
   · simp only [s0, s1', decide_true, decide_false, Bool.true_and, Bool.false_and, Bool.and_true, Bool.and_false, Bool.and_self] at ez
     (try simp only [bK1, bK2, bK3, bK4, bK5, bK6, bK7, bK8]); simp (maxSteps := 10000000) (disch := omega) only [fits_id, fits_id0, peq_zero, s0, s1', ez, go_sem, ↓reduceIte, Nat.reduceEqDiff, Nat.reduceSub, Nat.reduceLeDiff, Nat.reduceAdd, Int.reduceEq, Int.reduceLT, Int.reduceLE]
   have s1 : idsB e.gone.l 8 e.dep = true := by simpa using s1'
   simp only [s0, s1, decide_true, decide_false, Bool.true_and, Bool.false_and, Bool.and_true, Bool.and_false, Bool.and_self] at ez
   (try simp only [bK1, bK2, bK3, bK4, bK5, bK6, bK7, bK8]); simp (maxSteps := 10000000) (disch := omega) only [fits_id, fits_id0, peq_zero, s0, s1, ez, go_sem, ↓reduceIte, Nat.reduceEqDiff, Nat.reduceSub, Nat.reduceLeDiff, Nat.reduceAdd, Int.reduceEq, Int.reduceLT, Int.reduceLE]
 · rw [kindK_7 hki] at ez
   (try simp only [bK1, bK2, bK3, bK4, bK5, bK6, bK7, bK8]); simp (maxSteps := 10000000) (disch := omega) only [fits_id, fits_id0, peq_zero, sp_all, hl, hbl, z1, z2, z3, z4, z5, z6, z7, z8, hki, go_sem, ↓reduceIte, Nat.reduceEqDiff, Nat.reduceSub, Nat.reduceLeDiff, Nat.reduceAdd, Int.reduceEq, Int.reduceLT, Int.reduceLE]
   refine call_with (okHasV _ _ _) ?_
   by_cases s0' : hasB e.dep e.orep e.oseq = false
   · simp only [s0', decide_true, decide_false, Bool.true_and, Bool.false_and, Bool.and_true, Bool.and_false, Bool.and_self] at ez
     (try simp only [bK1, bK2, bK3, bK4, bK5, bK6, bK7, bK8]); simp (maxSteps := 10000000) (disch := omega) only [fits_id, fits_id0, peq_zero, s0', ez, go_sem, ↓reduceIte, Nat.reduceEqDiff, Nat.reduceSub, Nat.reduceLeDiff, Nat.reduceAdd, Int.reduceEq, Int.reduceLT, Int.reduceLE]
   have s0 : hasB e.dep e.orep e.oseq = true := by simpa using s0'
   (try simp only [bK1, bK2, bK3, bK4, bK5, bK6, bK7, bK8]); simp (maxSteps := 10000000) (disch := omega) only [fits_id, fits_id0, peq_zero, s0, go_sem, ↓reduceIte, Nat.reduceEqDiff, Nat.reduceSub, Nat.reduceLeDiff, Nat.reduceAdd, Int.reduceEq, Int.reduceLT, Int.reduceLE]
   refine call_with (okIds (l := e.gone.l) (most := 8) hg hgn) ?_
   by_cases s1' : idsB e.gone.l 8 e.dep = false
   · simp only [s0, s1', decide_true, decide_false, Bool.true_and, Bool.false_and, Bool.and_true, Bool.and_false, Bool.and_self] at ez
     (try simp only [bK1, bK2, bK3, bK4, bK5, bK6, bK7, bK8]); simp (maxSteps := 10000000) (disch := omega) only [fits_id, fits_id0, peq_zero, s0, s1', ez, go_sem, ↓reduceIte, Nat.reduceEqDiff, Nat.reduceSub, Nat.reduceLeDiff, Nat.reduceAdd, Int.reduceEq, Int.reduceLT, Int.reduceLE]
   have s1 : idsB e.gone.l 8 e.dep = true := by simpa using s1'
   (try simp only [bK1, bK2, bK3, bK4, bK5, bK6, bK7, bK8]); simp (maxSteps := 10000000) (disch := omega) only [fits_id, fits_id0, peq_zero, s0, s1, go_sem, ↓reduceIte, Nat.reduceEqDiff, Nat.reduceSub, Nat.reduceLeDiff, Nat.reduceAdd, Int.reduceEq, Int.reduceLT, Int.reduceLE]
   refine call_with (okPlace e) ?_
   by_cases s2' : placeB e = false
   · simp only [s0, s1, s2', decide_true, decide_false, Bool.true_and, Bool.false_and, Bool.and_true, Bool.and_false, Bool.and_self] at ez
     (try simp only [bK1, bK2, bK3, bK4, bK5, bK6, bK7, bK8]); simp (maxSteps := 10000000) (disch := omega) only [fits_id, fits_id0, peq_zero, s0, s1, s2', ez, go_sem, ↓reduceIte, Nat.reduceEqDiff, Nat.reduceSub, Nat.reduceLeDiff, Nat.reduceAdd, Int.reduceEq, Int.reduceLT, Int.reduceLE]
   have s2 : placeB e = true := by simpa using s2'
   (try simp only [bK1, bK2, bK3, bK4, bK5, bK6, bK7, bK8]); simp (maxSteps := 10000000) (disch := omega) only [fits_id, fits_id0, peq_zero, s0, s1, s2, go_sem, ↓reduceIte, Nat.reduceEqDiff, Nat.reduceSub, Nat.reduceLeDiff, Nat.reduceAdd, Int.reduceEq, Int.reduceLT, Int.reduceLE]
   refine call_with (okName _) ?_
   by_cases s3' : nameB e.name = false
   · simp only [s0, s1, s2, s3', decide_true, decide_false, Bool.true_and, Bool.false_and, Bool.and_true, Bool.and_false, Bool.and_self] at ez
     (try simp only [bK1, bK2, bK3, bK4, bK5, bK6, bK7, bK8]); simp (maxSteps := 10000000) (disch := omega) only [fits_id, fits_id0, peq_zero, s0, s1, s2, s3', ez, go_sem, ↓reduceIte, Nat.reduceEqDiff, Nat.reduceSub, Nat.reduceLeDiff, Nat.reduceAdd, Int.reduceEq, Int.reduceLT, Int.reduceLE]
   have s3 : nameB e.name = true := by simpa using s3'
   simp only [s0, s1, s2, s3, decide_true, decide_false, Bool.true_and, Bool.false_and, Bool.and_true, Bool.and_false, Bool.and_self] at ez
   (try simp only [bK1, bK2, bK3, bK4, bK5, bK6, bK7, bK8]); simp (maxSteps := 10000000) (disch := omega) only [fits_id, fits_id0, peq_zero, s0, s1, s2, s3, ez, go_sem, ↓reduceIte, Nat.reduceEqDiff, Nat.reduceSub, Nat.reduceLeDiff, Nat.reduceAdd, Int.reduceEq, Int.reduceLT, Int.reduceLE]
 · rw [kindK_8 hki] at ez
   by_cases s0 : 1 ≤ e.ward
   rotate_left
   · simp only [s0, decide_true, decide_false, Bool.true_and, Bool.false_and, Bool.and_true, Bool.and_false, Bool.and_self] at ez
     (try simp only [bK1, bK2, bK3, bK4, bK5, bK6, bK7, bK8]); simp (maxSteps := 10000000) (disch := omega) only [fits_id, fits_id0, peq_zero, sp_all, hl, hbl, z1, z2, z3, z4, z5, z6, z7, z8, hki, s0, ez, go_sem, ↓reduceIte, Nat.reduceEqDiff, Nat.reduceSub, Nat.reduceLeDiff, Nat.reduceAdd, Int.reduceEq, Int.reduceLT, Int.reduceLE]
   by_cases s1 : e.ward ≤ 4
   rotate_left
   · simp only [s0, s1, decide_true, decide_false, Bool.true_and, Bool.false_and, Bool.and_true, Bool.and_false, Bool.and_self] at ez
     (try simp only [bK1, bK2, bK3, bK4, bK5, bK6, bK7, bK8]); simp (maxSteps := 10000000) (disch := omega) only [fits_id, fits_id0, peq_zero, sp_all, hl, hbl, z1, z2, z3, z4, z5, z6, z7, z8, hki, s0, s1, ez, go_sem, ↓reduceIte, Nat.reduceEqDiff, Nat.reduceSub, Nat.reduceLeDiff, Nat.reduceAdd, Int.reduceEq, Int.reduceLT, Int.reduceLE]
   simp only [s0, s1, decide_true, decide_false, Bool.true_and, Bool.false_and, Bool.and_true, Bool.and_false, Bool.and_self] at ez
   (try simp only [bK1, bK2, bK3, bK4, bK5, bK6, bK7, bK8]); simp (maxSteps := 10000000) (disch := omega) only [fits_id, fits_id0, peq_zero, sp_all, hl, hbl, z1, z2, z3, z4, z5, z6, z7, z8, hki, s0, s1, ez, go_sem, ↓reduceIte, Nat.reduceEqDiff, Nat.reduceSub, Nat.reduceLeDiff, Nat.reduceAdd, Int.reduceEq, Int.reduceLT, Int.reduceLE]
 · rw [kindK_9 hki] at ez
   (try simp only [bK1, bK2, bK3, bK4, bK5, bK6, bK7, bK8]); simp (maxSteps := 10000000) (disch := omega) only [fits_id, fits_id0, peq_zero, sp_all, hl, hbl, z1, z2, z3, z4, z5, z6, z7, z8, hki, ez, go_sem, ↓reduceIte, Nat.reduceEqDiff, Nat.reduceSub, Nat.reduceLeDiff, Nat.reduceAdd, Int.reduceEq, Int.reduceLT, Int.reduceLE]
end Go.Proofs.Ytfkmlmckihmihaa.Fw
namespace Go.Proofs.Ytfkmlmckihmihaa.Fw
open Go.RowKit Go.Proofs
theorem check_zk {e : Evt} (h1 : BaseP e) (h2 : DepP e) : checkB e = (zerosB (bareE e) && kindK e) := by simp [checkB, h1, h2]
theorem zero00 : zeroB 0 0 = true := rfl
theorem ids_e (l : List Idn) (n : Int) (a : Vc) : idsB l n a = (riseB a l && decide ((l.length : Int) ≤ n)) := by unfold idsB; rw [Bool.and_comm]
theorem k3_eq (f : Int) (s : List UInt8) : (sizeB f && (decide ((1 : Int) ≤ (s.length : Int)) && (sizeB (s.length : Int) && sizeB (f + (s.length : Int))))) = (sizeB f && (!decide (s = []) && decide ((s.length : Int) ≤ 200 - f))) := by
 have e1 : decide ((1 : Int) ≤ (s.length : Int)) = !decide (s = []) := by
  cases s with
  | nil => rfl
  | cons a s => simp; omega
 rw [e1]
 unfold sizeB
 by_cases h1 : 0 ≤ f ∧ f ≤ 200
 · rw [decide_eq_true h1, Bool.true_and, Bool.true_and]
   congr 1
   rw [← Bool.decide_and]
   exact decide_eq_decide.2 (by omega)
 · rw [decide_eq_false h1, Bool.false_and, Bool.false_and]
theorem size_len (s : List UInt8) : sizeB (s.length : Int) = decide ((s.length : Int) ≤ 200) := decide_eq_decide.2 (by omega)
theorem zb_1 {e : Evt} (h : e.kind = 1) : zerosB (bareE e) = madeB e false true false false false false false := by simp [zerosB, bareE, madeB, h, zero00, SlI.nil, Bool.and_assoc]
theorem check_1 {e : Evt} (h1 : BaseP e) (h2 : DepP e) (h : e.kind = 1) : checkB e = (madeB e false true false false false false false && (placeB e && (nameB e.name))) := by rw [check_zk h1 h2, zb_1 h, kindK_1 h]
theorem zb_2 {e : Evt} (h : e.kind = 2) : zerosB (bareE e) = madeB e false true false false false false false := by simp [zerosB, bareE, madeB, h, zero00, SlI.nil, Bool.and_assoc]
theorem check_2 {e : Evt} (h1 : BaseP e) (h2 : DepP e) (h : e.kind = 2) : checkB e = (madeB e false true false false false false false && (placeB e && (nameB e.name))) := by rw [check_zk h1 h2, zb_2 h, kindK_2 h]
theorem zb_3 {e : Evt} (h : e.kind = 3) : zerosB (bareE e) = madeB e true false false true true true false := by simp [zerosB, bareE, madeB, h, zero00, SlI.nil, Bool.and_assoc]
theorem check_3 {e : Evt} (h1 : BaseP e) (h2 : DepP e) (h : e.kind = 3) : checkB e = (madeB e true false false true true true false && (hasB e.dep e.orep e.oseq && (riseB e.dep e.base.l && (decide ((e.base.l.length : Int) ≤ 1) && (sizeB e.off && (!decide (e.data = []) && (decide ((e.data.length : Int) ≤ 200 - e.off)))))))) := by rw [check_zk h1 h2, zb_3 h, kindK_3 h]; simp only [ids_e, k3_eq, Bool.and_assoc]
theorem zb_4 {e : Evt} (h : e.kind = 4) : zerosB (bareE e) = madeB e true false false true true false false := by simp [zerosB, bareE, madeB, h, zero00, SlI.nil, Bool.and_assoc]
theorem check_4 {e : Evt} (h1 : BaseP e) (h2 : DepP e) (h : e.kind = 4) : checkB e = (madeB e true false false true true false false && (hasB e.dep e.orep e.oseq && (riseB e.dep e.base.l && (decide ((e.base.l.length : Int) ≤ 1) && (sizeB e.off))))) := by rw [check_zk h1 h2, zb_4 h, kindK_4 h]; simp only [ids_e, k3_eq, Bool.and_assoc]
theorem zb_5 {e : Evt} (h : e.kind = 5) : zerosB (bareE e) = madeB e true false false true false true false := by simp [zerosB, bareE, madeB, h, zero00, SlI.nil, Bool.and_assoc]
theorem check_5 {e : Evt} (h1 : BaseP e) (h2 : DepP e) (h : e.kind = 5) : checkB e = (madeB e true false false true false true false && (hasB e.dep e.orep e.oseq && (riseB e.dep e.base.l && (decide ((2 : Int) ≤ (e.base.l.length : Int)) && (decide ((e.base.l.length : Int) ≤ 8) && (decide ((e.data.length : Int) ≤ 200))))))) := by rw [check_zk h1 h2, zb_5 h, kindK_5 h]; simp only [ids_e, size_len, Bool.and_assoc]; congr 3; cases decide ((e.base.l.length : Int) ≤ 8) <;> cases decide ((2 : Int) ≤ (e.base.l.length : Int)) <;> rfl
theorem zb_6 {e : Evt} (h : e.kind = 6) : zerosB (bareE e) = madeB e true false true false false false false := by simp [zerosB, bareE, madeB, h, zero00, SlI.nil, Bool.and_assoc]
theorem check_6 {e : Evt} (h1 : BaseP e) (h2 : DepP e) (h : e.kind = 6) : checkB e = (madeB e true false true false false false false && (hasB e.dep e.orep e.oseq && (idsB e.gone.l 8 e.dep))) := by rw [check_zk h1 h2, zb_6 h, kindK_6 h]
theorem zb_7 {e : Evt} (h : e.kind = 7) : zerosB (bareE e) = madeB e true true true false false false false := by simp [zerosB, bareE, madeB, h, zero00, SlI.nil, Bool.and_assoc]
theorem check_7 {e : Evt} (h1 : BaseP e) (h2 : DepP e) (h : e.kind = 7) : checkB e = (madeB e true true true false false false false && (hasB e.dep e.orep e.oseq && (idsB e.gone.l 8 e.dep && (placeB e && (nameB e.name))))) := by rw [check_zk h1 h2, zb_7 h, kindK_7 h]
theorem zb_8 {e : Evt} (h : e.kind = 8) : zerosB (bareE e) = madeB e false false false false false false true := by simp [zerosB, bareE, madeB, h, zero00, SlI.nil, Bool.and_assoc]
theorem check_8 {e : Evt} (h1 : BaseP e) (h2 : DepP e) (h : e.kind = 8) : checkB e = (madeB e false false false false false false true && (decide (1 ≤ e.ward) && (decide (e.ward ≤ 4)))) := by rw [check_zk h1 h2, zb_8 h, kindK_8 h]
theorem zb_9 {e : Evt} (h : e.kind = 9) : zerosB (bareE e) = madeB e false false false false false false false := by simp [zerosB, bareE, madeB, h, zero00, SlI.nil, Bool.and_assoc]
theorem check_9 {e : Evt} (h1 : BaseP e) (h2 : DepP e) (h : e.kind = 9) : checkB e = (madeB e false false false false false false false && (true)) := by rw [check_zk h1 h2, zb_9 h, kindK_9 h]
end Go.Proofs.Ytfkmlmckihmihaa.Fw
namespace Go.Proofs.Ytfkmlmckihmihaa.Fw
open Go.RowKit Go.Proofs
structure Good (e : Evt) : Prop where
 base : BaseP e
 dep : DepP e
 obj : idOk (e.orep, e.oseq)
 dir : idOk (e.drep, e.dseq)
 gone : (∀ x ∈ e.gone.l, idOk x) ∧ e.gone.l.length ≤ 8
 basel : (∀ x ∈ e.base.l, idOk x) ∧ e.base.l.length ≤ 8
 name : e.name.length ≤ 12
 off : 0 ≤ e.off ∧ e.off ≤ 200
 data : e.data.length ≤ 200
 ward : 0 ≤ e.ward ∧ e.ward ≤ 4
theorem has_ok {a : Vc} {r : Int} {q : Nat} (hd : ∀ i, i < 8 → a i ≤ 1048576) (h : hasB a r q = true) : idOk (r, q) := by
 have h := of_decide_eq_true h
 unfold getV at h
 split at h
 · rename_i hr
   have := hd (r - 1).toNat (by omega)
   exact ⟨by simp only; omega, by simp only; omega, by simp only; omega⟩
 · omega
theorem zero_ok {r : Int} {q : Nat} (h : zeroB r q = true) : idOk (r, q) := by
 obtain ⟨rfl, rfl⟩ := of_decide_eq_true h
 exact ⟨by decide, by decide, by decide⟩
theorem rise_all {a : Vc} {l : List Idn} (hd : ∀ i, i < 8 → a i ≤ 1048576) (h : riseB a l = true) : ∀ x ∈ l, idOk x := by
 have hr : RiseP a l := by simpa [riseB] using h
 intro x hx
 obtain ⟨j, hj, rfl⟩ := List.getElem_of_mem hx
 exact has_ok hd (hr j hj).1
theorem nil_all {l : List Idn} (h : (l.length : Int) = 0) : (∀ x ∈ l, idOk x) ∧ l.length ≤ 8 := by
 have : l = [] := List.length_eq_zero_iff.1 (by omega)
 subst this; simp
theorem name_len {s : List UInt8} (h : nameB s = true) : s.length ≤ 12 := by
 unfold nameB at h
 simp only [Bool.and_eq_true, decide_eq_true_eq] at h
 exact h.1.2.1
theorem size_ok {n : Int} (h : sizeB n = true) : 0 ≤ n ∧ n ≤ 200 := of_decide_eq_true h
theorem ids_ok {a : Vc} {l : List Idn} {n : Int} (hd : ∀ i, i < 8 → a i ≤ 1048576) (hn : n ≤ 8) (h : idsB l n a = true) : (∀ x ∈ l, idOk x) ∧ l.length ≤ 8 := by
 unfold idsB at h
 simp only [Bool.and_eq_true, decide_eq_true_eq] at h
 exact ⟨rise_all hd h.2, by omega⟩
theorem nil_len {s : List UInt8} {n : Nat} (h : s = []) : s.length ≤ n := by subst h; simp
theorem place_ok {e : Evt} (hd : ∀ i, i < 8 → e.dep i ≤ 1048576) (h : placeB e = true) : idOk (e.drep, e.dseq) := by
 unfold placeB at h
 rcases Bool.or_eq_true_iff.1 h with h | h
 · exact zero_ok h
 · exact has_ok hd h
theorem good_of_check {e : Evt} (h : checkB e = true) : Good e := by
 have hB : BaseP e := Classical.byContradiction fun hn => by rw [check_b hn] at h; cases h
 have hD : DepP e := Classical.byContradiction fun hn => by rw [check_d hn] at h; cases h
 rw [check_zk hB hD] at h
 have hk : e.kind = 1 ∨ e.kind = 2 ∨ e.kind = 3 ∨ e.kind = 4 ∨ e.kind = 5 ∨ e.kind = 6 ∨ e.kind = 7 ∨ e.kind = 8 ∨ e.kind = 9 := by have := hB.2.2.2.2.2; omega
 have w0 : ∀ {n : Int}, n = 0 → 0 ≤ n ∧ n ≤ 4 := fun h => by omega
 have o0 : ∀ {n : Int}, n = 0 → 0 ≤ n ∧ n ≤ 200 := fun h => by omega
 rcases hk with k | k | k | k | k | k | k | k | k
 ·
  rw [zb_1 k, kindK_1 k] at h
  simp only [madeB, Bool.and_eq_true, Bool.or_eq_true, decide_eq_true_eq, true_or, false_or, true_and, Bool.false_eq_true, reduceCtorEq, and_true] at h
  obtain ⟨⟨m1, m3, m4, m5, m6, m7⟩, k1, k2⟩ := h
  exact ⟨hB, hD, zero_ok m1, place_ok hD k1, nil_all m3, nil_all m4, name_len k2, o0 m5, nil_len m6, w0 m7⟩
 ·
  rw [zb_2 k, kindK_2 k] at h
  simp only [madeB, Bool.and_eq_true, Bool.or_eq_true, decide_eq_true_eq, true_or, false_or, true_and, Bool.false_eq_true, reduceCtorEq, and_true] at h
  obtain ⟨⟨m1, m3, m4, m5, m6, m7⟩, k1, k2⟩ := h
  exact ⟨hB, hD, zero_ok m1, place_ok hD k1, nil_all m3, nil_all m4, name_len k2, o0 m5, nil_len m6, w0 m7⟩
 ·
  rw [zb_3 k, kindK_3 k] at h
  simp only [madeB, Bool.and_eq_true, Bool.or_eq_true, decide_eq_true_eq, true_or, false_or, true_and, Bool.false_eq_true, reduceCtorEq, and_true] at h
  obtain ⟨⟨⟨m2, mn⟩, m3, m7⟩, k1, k2, k3, k4, k5, k6⟩ := h
  exact ⟨hB, hD, has_ok hD k1, zero_ok m2, nil_all m3, ids_ok hD (by decide) k2, nil_len mn, size_ok k3, by have := size_ok k5; omega, w0 m7⟩
 ·
  rw [zb_4 k, kindK_4 k] at h
  simp only [madeB, Bool.and_eq_true, Bool.or_eq_true, decide_eq_true_eq, true_or, false_or, true_and, Bool.false_eq_true, reduceCtorEq, and_true] at h
  obtain ⟨⟨⟨m2, mn⟩, m3, m6, m7⟩, k1, k2, k3⟩ := h
  exact ⟨hB, hD, has_ok hD k1, zero_ok m2, nil_all m3, ids_ok hD (by decide) k2, nil_len mn, size_ok k3, nil_len m6, w0 m7⟩
 ·
  rw [zb_5 k, kindK_5 k] at h
  simp only [madeB, Bool.and_eq_true, Bool.or_eq_true, decide_eq_true_eq, true_or, false_or, true_and, Bool.false_eq_true, reduceCtorEq, and_true] at h
  obtain ⟨⟨⟨m2, mn⟩, m3, m5, m7⟩, k1, k2, k3, k4⟩ := h
  exact ⟨hB, hD, has_ok hD k1, zero_ok m2, nil_all m3, ids_ok hD (by decide) k2, nil_len mn, o0 m5, by have := size_ok k4; omega, w0 m7⟩
 ·
  rw [zb_6 k, kindK_6 k] at h
  simp only [madeB, Bool.and_eq_true, Bool.or_eq_true, decide_eq_true_eq, true_or, false_or, true_and, Bool.false_eq_true, reduceCtorEq, and_true] at h
  obtain ⟨⟨⟨m2, mn⟩, m4, m5, m6, m7⟩, k1, k2⟩ := h
  exact ⟨hB, hD, has_ok hD k1, zero_ok m2, ids_ok hD (by decide) k2, nil_all m4, nil_len mn, o0 m5, nil_len m6, w0 m7⟩
 ·
  rw [zb_7 k, kindK_7 k] at h
  simp only [madeB, Bool.and_eq_true, Bool.or_eq_true, decide_eq_true_eq, true_or, false_or, true_and, Bool.false_eq_true, reduceCtorEq, and_true] at h
  obtain ⟨⟨m4, m5, m6, m7⟩, k1, k2, k3, k4⟩ := h
  exact ⟨hB, hD, has_ok hD k1, place_ok hD k3, ids_ok hD (by decide) k2, nil_all m4, name_len k4, o0 m5, nil_len m6, w0 m7⟩
 ·
  rw [zb_8 k, kindK_8 k] at h
  simp only [madeB, Bool.and_eq_true, Bool.or_eq_true, decide_eq_true_eq, true_or, false_or, true_and, Bool.false_eq_true, reduceCtorEq, and_true] at h
  obtain ⟨⟨m1, ⟨m2, mn⟩, m3, m4, m5, m6⟩, k1, k2⟩ := h
  exact ⟨hB, hD, zero_ok m1, zero_ok m2, nil_all m3, nil_all m4, nil_len mn, o0 m5, nil_len m6, by omega⟩
 ·
  rw [zb_9 k, kindK_9 k] at h
  simp only [madeB, Bool.and_eq_true, Bool.or_eq_true, decide_eq_true_eq, true_or, false_or, true_and, Bool.false_eq_true, reduceCtorEq, and_true] at h
  obtain ⟨m1, ⟨m2, mn⟩, m3, m4, m5, m6, m7⟩ := h
  exact ⟨hB, hD, zero_ok m1, zero_ok m2, nil_all m3, nil_all m4, nil_len mn, o0 m5, nil_len m6, w0 m7⟩
end Go.Proofs.Ytfkmlmckihmihaa.Fw
namespace Go.Proofs.Ytfkmlmckihmihaa.Fw
open Go.RowKit Go.Proofs
def fieldsE (e : Evt) : List (List UInt8) := [numB e.rep.toNat, numB e.seq, shrinkB e.dep (fun _ => 0), numB e.kind.toNat, idB (e.orep, e.oseq), idB (e.drep, e.dseq), e.name, idsW e.gone.l, idsW e.base.l, numB e.off.toNat, e.data, numB e.ward.toNat]
def evB (e : Evt) : List UInt8 := packB (fieldsE e)
theorem u64_nat {n : Int} (h : 0 ≤ n ∧ n < 9223372036854775808) : IntKind.u64.wrap n = ((n.toNat : Nat) : Int) := by
 rw [wrap_u64 (by omega)]; omega
theorem num_len9 {n : Nat} (h : n < 18446744073709551616) : (numB n).length ≤ 8 := numB_len 8 n (by omega)
theorem fields_len {e : Evt} (g : Good e) : ∀ b ∈ fieldsE e, b.length ≤ 300 := by
 obtain ⟨b1, b2, b3, b4, b5, b6, b7⟩ := g.base
 have h0 := num_len9 (n := e.rep.toNat) (by omega)
 have h1 := num_len9 (n := e.seq) (by omega)
 have h3 := num_len9 (n := e.kind.toNat) (by omega)
 have h9 := num_len9 (n := e.off.toNat) (by have := g.off; omega)
 have h11 := num_len9 (n := e.ward.toNat) (by have := g.ward; omega)
 have h4 := idB_len _ g.obj
 have h5 := idB_len _ g.dir
 have h7 := idsW_len g.gone.1
 have h8 := idsW_len g.basel.1
 have h7' := g.gone.2
 have h8' := g.basel.2
 have hn := g.name
 have hd := g.data
 have h2 : (shrinkB e.dep (fun _ => 0)).length ≤ 300 := by
  have := byTo_len e.dep (fun _ => 0) (fun i hi => by have := g.dep i hi; omega) (by simp) 8 (by omega)
  simp only [shrinkB, List.length_cons]; omega
 intro b hb
 simp only [fieldsE, List.mem_cons, List.not_mem_nil, or_false] at hb
 rcases hb with rfl | rfl | rfl | rfl | rfl | rfl | rfl | rfl | rfl | rfl | rfl | rfl <;> omega
theorem fields_pack {e : Evt} (g : Good e) : packLen (fieldsE e) ≤ 3636 := by
 have h := fields_len g
 have key : ∀ L : List (List UInt8), (∀ b ∈ L, b.length ≤ 300) → packLen L ≤ 303 * L.length := by
  intro L
  induction L with
  | nil => intro _; simp [packLen]
  | cons b L ih =>
    intro hb
    have h1 := hb b List.mem_cons_self
    have h2 := ih fun c hc => hb c (List.mem_cons_of_mem _ hc)
    simp only [packLen, List.length_cons]; omega
 have := key _ h
 simpa [fieldsE] using this
set_option maxHeartbeats 400000 in
theorem okWrite (e : Evt) (he : ev e) (hc : checkB e = true) {h d} : FunOk Try.prog 46 [.vec 21 (evE e)] h d (.tup [.os d, .pv (.i .i64 0)]) [.new d (.row 1 (bytesE (evB e)))] := by
 refine fun_row2 mixed fn46 (by simp) rfl (.inr (bytesE_all _)) rfl fun F => ?_
 have g := good_of_check hc
 obtain ⟨b1, b2, b3, b4, b5, b6, b7⟩ := g.base
 have hdep := g.dep
 have w0 := u64_nat (n := e.rep) (by omega)
 have w1 : IntKind.u64.wrap (e.seq : Int) = (e.seq : Int) := wrap_u64 (by omega)
 have w3 := u64_nat (n := e.kind) (by omega)
 have w9 := u64_nat (n := e.off) (by have := g.off; omega)
 have w11 := u64_nat (n := e.ward) (by have := g.ward; omega)
 obtain ⟨hg1, hg2, hg3, hg4, hg5⟩ := he
 (try simp only [bK1, bK2, bK3, bK4, bK5, bK6, bK7, bK8]); simp (maxSteps := 10000000) (disch := omega) only [ir46, go_sem, ↓reduceIte, Nat.reduceEqDiff, Nat.reduceSub, Nat.reduceLeDiff, Nat.reduceAdd, Int.reduceEq, Int.reduceLT, Int.reduceLE]
 refine call_with (okCheck e ⟨hg1, hg2, hg3, hg4, hg5⟩) ?_
 (try simp only [bK1, bK2, bK3, bK4, bK5, bK6, bK7, bK8]); simp (maxSteps := 10000000) (disch := omega) only [hc, w0, w1, w3, w9, w11, go_sem, ↓reduceIte, Nat.reduceEqDiff, Nat.reduceSub, Nat.reduceLeDiff, Nat.reduceAdd, Int.reduceEq, Int.reduceLT, Int.reduceLE]
 refine call_with (okNum e.rep.toNat (by omega)) ?_
 (try simp only [bK1, bK2, bK3, bK4, bK5, bK6, bK7, bK8]); simp (maxSteps := 10000000) (disch := omega) only [hc, w0, w1, w3, w9, w11, go_sem, ↓reduceIte, Nat.reduceEqDiff, Nat.reduceSub, Nat.reduceLeDiff, Nat.reduceAdd, Int.reduceEq, Int.reduceLT, Int.reduceLE]
 refine call_with (okNum e.seq (by omega)) ?_
 (try simp only [bK1, bK2, bK3, bK4, bK5, bK6, bK7, bK8]); simp (maxSteps := 10000000) (disch := omega) only [hc, w0, w1, w3, w9, w11, zero_vE, go_sem, ↓reduceIte, Nat.reduceEqDiff, Nat.reduceSub, Nat.reduceLeDiff, Nat.reduceAdd, Int.reduceEq, Int.reduceLT, Int.reduceLE]
 refine call_with (okShrink e.dep (fun _ => 0) (fun i hi => by have := hdep i hi; omega) (by simp)) ?_
 (try simp only [bK1, bK2, bK3, bK4, bK5, bK6, bK7, bK8]); simp (maxSteps := 10000000) (disch := omega) only [hc, w0, w1, w3, w9, w11, go_sem, ↓reduceIte, Nat.reduceEqDiff, Nat.reduceSub, Nat.reduceLeDiff, Nat.reduceAdd, Int.reduceEq, Int.reduceLT, Int.reduceLE]
 refine call_with (okNum e.kind.toNat (by omega)) ?_
 (try simp only [bK1, bK2, bK3, bK4, bK5, bK6, bK7, bK8]); simp (maxSteps := 10000000) (disch := omega) only [hc, w0, w1, w3, w9, w11, go_sem, ↓reduceIte, Nat.reduceEqDiff, Nat.reduceSub, Nat.reduceLeDiff, Nat.reduceAdd, Int.reduceEq, Int.reduceLT, Int.reduceLE]
 refine call_with (okWriteID (e.orep, e.oseq) g.obj) ?_
 (try simp only [bK1, bK2, bK3, bK4, bK5, bK6, bK7, bK8]); simp (maxSteps := 10000000) (disch := omega) only [hc, w0, w1, w3, w9, w11, go_sem, ↓reduceIte, Nat.reduceEqDiff, Nat.reduceSub, Nat.reduceLeDiff, Nat.reduceAdd, Int.reduceEq, Int.reduceLT, Int.reduceLE]
 refine call_with (okWriteID (e.drep, e.dseq) g.dir) ?_
 (try simp only [bK1, bK2, bK3, bK4, bK5, bK6, bK7, bK8]); simp (maxSteps := 10000000) (disch := omega) only [hc, w0, w1, w3, w9, w11, go_sem, ↓reduceIte, Nat.reduceEqDiff, Nat.reduceSub, Nat.reduceLeDiff, Nat.reduceAdd, Int.reduceEq, Int.reduceLT, Int.reduceLE]
 refine call_with (okWriteIDs (l := e.gone.l) rfl rfl hg1 hg3 g.gone.1) ?_
 (try simp only [bK1, bK2, bK3, bK4, bK5, bK6, bK7, bK8]); simp (maxSteps := 10000000) (disch := omega) only [hc, w0, w1, w3, w9, w11, go_sem, ↓reduceIte, Nat.reduceEqDiff, Nat.reduceSub, Nat.reduceLeDiff, Nat.reduceAdd, Int.reduceEq, Int.reduceLT, Int.reduceLE]
 refine call_with (okWriteIDs (l := e.base.l) rfl rfl hg2 hg4 g.basel.1) ?_
 (try simp only [bK1, bK2, bK3, bK4, bK5, bK6, bK7, bK8]); simp (maxSteps := 10000000) (disch := omega) only [hc, w0, w1, w3, w9, w11, go_sem, ↓reduceIte, Nat.reduceEqDiff, Nat.reduceSub, Nat.reduceLeDiff, Nat.reduceAdd, Int.reduceEq, Int.reduceLT, Int.reduceLE]
 refine call_with (okNum e.off.toNat (by have := g.off; omega)) ?_
 (try simp only [bK1, bK2, bK3, bK4, bK5, bK6, bK7, bK8]); simp (maxSteps := 10000000) (disch := omega) only [hc, w0, w1, w3, w9, w11, go_sem, ↓reduceIte, Nat.reduceEqDiff, Nat.reduceSub, Nat.reduceLeDiff, Nat.reduceAdd, Int.reduceEq, Int.reduceLT, Int.reduceLE]
 refine call_with (okNum e.ward.toNat (by have := g.ward; omega)) ?_
 (try simp only [bK1, bK2, bK3, bK4, bK5, bK6, bK7, bK8]); simp (maxSteps := 10000000) (disch := omega) only [hc, w0, w1, w3, w9, w11, go_sem, ↓reduceIte, Nat.reduceEqDiff, Nat.reduceSub, Nat.reduceLeDiff, Nat.reduceAdd, Int.reduceEq, Int.reduceLT, Int.reduceLE]
 refine call_with (okPack (f := false) (z := 1) (es := (fieldsE e).map bE) (L := fieldsE e) rfl rfl (bsEq_map _) (.inr rfl) (by have := fields_pack g; omega) (fun b hb => by have := fields_len g b hb; omega)) ?_
 have hW : evB e = packB (fieldsE e) := rfl
 rw [hW]
 generalize packB (fieldsE e) = W
 generalize hR : (fun (y : SV) (g : Nat → Option Blk) => ∃ n, y = SV.tup [SV.os n, SV.pv (PV.i .i64 0)] ∧ g n = some (Blk.row 1 (bytesE W))) = R
 (try simp only [bK1, bK2, bK3, bK4, bK5, bK6, bK7, bK8]); simp (maxSteps := 10000000) (disch := omega) only [go_sem, ↓reduceIte, Nat.reduceEqDiff, Nat.reduceSub, Nat.reduceLeDiff, Nat.reduceAdd, Int.reduceEq, Int.reduceLT, Int.reduceLE]
 rw [← hR]
 exact ⟨52, rfl, rfl⟩
end Go.Proofs.Ytfkmlmckihmihaa.Fw
namespace Go.Proofs.Ytfkmlmckihmihaa.Fw
open Go.RowKit Go.Proofs
theorem id_back {x : Idn} (h : idOk x) : rdID (idB x) = x := by
 obtain ⟨h1, h2, h3⟩ := h
 obtain ⟨r, q⟩ := x
 simp only at h1 h2 h3
 by_cases hz : r = 0 ∧ q = 0
 · obtain ⟨rfl, rfl⟩ := hz; rfl
 · have e : idB (r, q) = UInt8.ofNat r.toNat :: numB q := if_neg hz
   rw [e]
   unfold rdID
   have ea : asNum (numB q) = (q, 0) := asNum_numB (by omega)
   rw [List.drop_succ_cons, List.drop_zero, ea, if_pos ⟨by simp, rfl, h3⟩]
   simp only [List.getD_cons_zero]
   rw [UInt8.toNat_ofNat']
   exact Prod.ext (by simp only; omega) rfl
theorem small_back {n : Nat} (h : n ≤ 1073741824) : smallB (numB n) = n := by
 unfold smallB
 rw [asNum_numB (by omega), if_pos ⟨rfl, h⟩]
def stRdIDs (l : List Idn) (k : Nat) : FS := mk [(22, .pv (.i .i64 k)), (21, .pv (.i .i64 l.length)), (20, .os 14), (8, .os 40), (0, .pv (.sl false 1 (bytesE (idsW l))))] [(40, some (.row 2 ((l.take k).map idE))), (14, some (.row 1 ((l.map idB).map bE)))]
set_option maxHeartbeats 2000000 in
theorem okReadIDs_ok {l : List Idn} (hn : l.length ≤ 8) (hok : ∀ y ∈ l, idOk y) {h d} :
 FunOk Try.prog 67 [.pv (.sl false 1 (bytesE (idsW l))), .pv (.i .i64 8)] h d (.tup [.pv (.sl false 2 (l.map idE)), .pv (.i .i64 0)]) [] := by
 refine fun_pureW mixed fn67 (by simp) rfl rfl fun F => ?_
 have hw := idsW_len hok
 have hu : unpackG (idsW l) [] 8 = (l.map idB, 0) := unpack_all (l.map idB) 8 (fun b hb => by
  obtain ⟨y, hy, rfl⟩ := List.mem_map.1 hb
  have := idB_len y (hok y hy); omega) (by simp; omega)
 (try simp only [bK1, bK2, bK3, bK4, bK5, bK6, bK7, bK8]); simp (maxSteps := 10000000) (disch := omega) only [ir67, go_sem, ↓reduceIte, Nat.reduceEqDiff, Nat.reduceSub, Nat.reduceLeDiff, Nat.reduceAdd, Int.reduceEq, Int.reduceLT, Int.reduceLE]
 refine call_with (okUnpack (f := false) (z := 1) (b := idsW l) (most := 8) (.inr rfl) (by omega)) ?_
 rw [hu]
 (try simp only [bK1, bK2, bK3, bK4, bK5, bK6, bK7, bK8]); simp (maxSteps := 10000000) (disch := omega) only [go_sem, ↓reduceIte, Nat.reduceEqDiff, Nat.reduceSub, Nat.reduceLeDiff, Nat.reduceAdd, Int.reduceEq, Int.reduceLT, Int.reduceLE]
 refine loop_ok mixed (stRdIDs l) (fun k => k ≤ l.length) (fun k => l.length - k) 0 (by simp) (wk_nil 8 40 2 rfl (by omega) (weak_mk ?_ ?_)) fun k hk => ?_
 · (try simp only [bK1, bK2, bK3, bK4, bK5, bK6, bK7, bK8]); simp (maxSteps := 10000000) (disch := omega) only [go_sem, ↓reduceIte, Nat.reduceEqDiff, Nat.reduceSub, Nat.reduceLeDiff, Nat.reduceAdd, Int.reduceEq, Int.reduceLT, Int.reduceLE]
 · (try simp only [bK1, bK2, bK3, bK4, bK5, bK6, bK7, bK8]); simp (maxSteps := 10000000) (disch := omega) only [go_sem, ↓reduceIte, Nat.reduceEqDiff, Nat.reduceSub, Nat.reduceLeDiff, Nat.reduceAdd, Int.reduceEq, Int.reduceLT, Int.reduceLE]
   rfl
 by_cases hlt : k < l.length
 · have he : ((l.map idB).map bE)[k]? = some (bE (idB l[k])) := by simp [hlt]
   have ht : l.take (k + 1) = l.take k ++ [l[k]] := by rw [List.take_add_one, List.getElem?_eq_getElem hlt]; rfl
   have hm := hok l[k] (List.getElem_mem hlt)
   generalize l[k] = y at *
   have hil := idB_len y hm
   have hib := id_back hm
   have hkl : (l.take k).length ≤ 8 := by simp; omega
   (try simp only [bK1, bK2, bK3, bK4, bK5, bK6, bK7, bK8]); simp (maxSteps := 10000000) (disch := omega) only [stRdIDs, he, bE, ld_sl, go_sem, ↓reduceIte, Nat.reduceEqDiff, Nat.reduceSub, Nat.reduceLeDiff, Nat.reduceAdd, Int.reduceEq, Int.reduceLT, Int.reduceLE]
   refine call_with (okReadID (f := false) (z := 1) (b := idB y) (.inr rfl) (by omega)) ?_
   (try simp only [bK1, bK2, bK3, bK4, bK5, bK6, bK7, bK8]); simp (maxSteps := 10000000) (disch := omega) only [hib, go_sem, ↓reduceIte, Nat.reduceEqDiff, Nat.reduceSub, Nat.reduceLeDiff, Nat.reduceAdd, Int.reduceEq, Int.reduceLT, Int.reduceLE]
   refine ⟨k + 1, by omega, by omega, wk_ren 30 40 (by decide) rfl (weak_mk ?_ ?_)⟩
   · (try simp only [bK1, bK2, bK3, bK4, bK5, bK6, bK7, bK8]); simp (maxSteps := 10000000) (disch := omega) only [go_sem, ↓reduceIte, Nat.reduceEqDiff, Nat.reduceSub, Nat.reduceLeDiff, Nat.reduceAdd, Int.reduceEq, Int.reduceLT, Int.reduceLE]
   · (try simp only [bK1, bK2, bK3, bK4, bK5, bK6, bK7, bK8]); simp (maxSteps := 10000000) (disch := omega) only [ht, List.map_append, List.map_cons, List.map_nil, idE, bE, go_sem, ↓reduceIte, Nat.reduceEqDiff, Nat.reduceSub, Nat.reduceLeDiff, Nat.reduceAdd, Int.reduceEq, Int.reduceLT, Int.reduceLE]
 · obtain rfl : k = l.length := by omega
   have e := List.take_length (l := l)
   have hself : decide (idsW l = idsW l) = true := by simp
   (try simp only [bK1, bK2, bK3, bK4, bK5, bK6, bK7, bK8]); simp (maxSteps := 10000000) (disch := omega) only [stRdIDs, e, go_sem, ↓reduceIte, Nat.reduceEqDiff, Nat.reduceSub, Nat.reduceLeDiff, Nat.reduceAdd, Int.reduceEq, Int.reduceLT, Int.reduceLE]
   refine call_with (okWriteIDs (f := false) (z := 2) (l := l) rfl rfl (.inr rfl) (by omega) hok) ?_
   (try simp only [bK1, bK2, bK3, bK4, bK5, bK6, bK7, bK8]); simp (maxSteps := 10000000) (disch := omega) only [go_sem, ↓reduceIte, Nat.reduceEqDiff, Nat.reduceSub, Nat.reduceLeDiff, Nat.reduceAdd, Int.reduceEq, Int.reduceLT, Int.reduceLE]
   refine call_with (okEqB (f := false) (g := false) (y := 1) (z := 1) (a := idsW l) (b := idsW l) rfl rfl (.inr rfl) (.inr rfl) (by omega) (by omega)) ?_
   (try simp only [bK1, bK2, bK3, bK4, bK5, bK6, bK7, bK8]); simp (maxSteps := 10000000) (disch := omega) only [hself, go_sem, ↓reduceIte, Nat.reduceEqDiff, Nat.reduceSub, Nat.reduceLeDiff, Nat.reduceAdd, Int.reduceEq, Int.reduceLT, Int.reduceLE]
   refine ⟨_, wk_frz 40 rfl (.same _), ?_⟩
   (try simp only [bK1, bK2, bK3, bK4, bK5, bK6, bK7, bK8]); simp (maxSteps := 10000000) (disch := omega) only [go_sem, ↓reduceIte, Nat.reduceEqDiff, Nat.reduceSub, Nat.reduceLeDiff, Nat.reduceAdd, Int.reduceEq, Int.reduceLT, Int.reduceLE]
end Go.Proofs.Ytfkmlmckihmihaa.Fw
namespace Go.Proofs.Ytfkmlmckihmihaa.Fw
open Go.RowKit Go.Proofs
def canon (e : Evt) : Evt := { e with gone := ⟨false, 2, e.gone.l⟩, base := ⟨false, 2, e.base.l⟩ }
theorem check_canon (e : Evt) : checkB (canon e) = checkB e := by
 by_cases hB : BaseP e
 · by_cases hD : DepP e
   · have hB' : BaseP (canon e) := hB
     have hD' : DepP (canon e) := hD
     have hk : e.kind = 1 ∨ e.kind = 2 ∨ e.kind = 3 ∨ e.kind = 4 ∨ e.kind = 5 ∨ e.kind = 6 ∨ e.kind = 7 ∨ e.kind = 8 ∨ e.kind = 9 := by have := hB.2.2.2.2.2; omega
     rcases hk with k | k | k | k | k | k | k | k | k
     · rw [check_1 hB hD k, check_1 hB' hD' k]; rfl
     · rw [check_2 hB hD k, check_2 hB' hD' k]; rfl
     · rw [check_3 hB hD k, check_3 hB' hD' k]; rfl
     · rw [check_4 hB hD k, check_4 hB' hD' k]; rfl
     · rw [check_5 hB hD k, check_5 hB' hD' k]; rfl
     · rw [check_6 hB hD k, check_6 hB' hD' k]; rfl
     · rw [check_7 hB hD k, check_7 hB' hD' k]; rfl
     · rw [check_8 hB hD k, check_8 hB' hD' k]; rfl
     · rw [check_9 hB hD k, check_9 hB' hD' k]; rfl
   · rw [check_d hD, check_d (e := canon e) hD]
 · rw [check_b hB, check_b (e := canon e) hB]
def segE (e : Evt) : List SV := [.pv (.i .i64 e.rep), .pv (.i .u32 e.seq), .vec 8 (vE e.dep), .pv (.i .i64 e.kind), .pv (.i .i64 e.orep), .pv (.i .u32 e.oseq), .pv (.i .i64 e.drep), .pv (.i .u32 e.dseq), .pv (.s e.name), .pv e.gone.pv, .pv e.base.pv, .pv (.i .i64 e.off), .pv (.s e.data), .pv (.i .i64 e.ward)]
theorem seg_cells (e : Evt) : SV.cellsL? (segE e) = some (evE e) := rfl
set_option maxHeartbeats 8000000 in
theorem okRead_ok (e : Evt) (hc : checkB e = true) (he : ev e) {h d} : FunOk Try.prog 50 [.pv (.sl false 1 (bytesE (evB e)))] h d (.tup [.agg (segE (canon e)), .pv (.i .i64 0)]) [] := by
 refine fun_pure mixed fn50 (by simp) rfl rfl fun F => ?_
 have g := good_of_check hc
 obtain ⟨b1, b2, b3, b4, b5, b6, b7⟩ := g.base
 have hpk := fields_pack g
 have hlen := packB_len (fieldsE e)
 have hfl := fields_len g
 have hu : unpackG (evB e) [] 12 = (fieldsE e, 0) := unpack_all (fieldsE e) 12 (fun b hb => by have := hfl b hb; omega) (by simp [fieldsE])
 have hel : (evB e).length ≤ 3636 := by unfold evB; omega
 have hl12 : ((fieldsE e).map bE).length = 12 := rfl
 have f0 : ((fieldsE e).map bE)[0]? = some [.sl false 1 (bytesE (numB e.rep.toNat))] := rfl
 have f1 : ((fieldsE e).map bE)[Int.toNat 1]? = some [.sl false 1 (bytesE (numB e.seq))] := rfl
 have f2 : ((fieldsE e).map bE)[Int.toNat 2]? = some [.sl false 1 (bytesE (shrinkB e.dep (fun _ => 0)))] := rfl
 have f3 : ((fieldsE e).map bE)[Int.toNat 3]? = some [.sl false 1 (bytesE (numB e.kind.toNat))] := rfl
 have f4 : ((fieldsE e).map bE)[Int.toNat 4]? = some [.sl false 1 (bytesE (idB (e.orep, e.oseq)))] := rfl
 have f5 : ((fieldsE e).map bE)[Int.toNat 5]? = some [.sl false 1 (bytesE (idB (e.drep, e.dseq)))] := rfl
 have f6 : ((fieldsE e).map bE)[Int.toNat 6]? = some [.sl false 1 (bytesE e.name)] := rfl
 have f7 : ((fieldsE e).map bE)[Int.toNat 7]? = some [.sl false 1 (bytesE (idsW e.gone.l))] := rfl
 have f8 : ((fieldsE e).map bE)[Int.toNat 8]? = some [.sl false 1 (bytesE (idsW e.base.l))] := rfl
 have f9 : ((fieldsE e).map bE)[Int.toNat 9]? = some [.sl false 1 (bytesE (numB e.off.toNat))] := rfl
 have f10 : ((fieldsE e).map bE)[Int.toNat 10]? = some [.sl false 1 (bytesE e.data)] := rfl
 have f11 : ((fieldsE e).map bE)[Int.toNat 11]? = some [.sl false 1 (bytesE (numB e.ward.toNat))] := rfl
 have q3 := hfl (numB e.kind.toNat) (by simp [fieldsE])
 have q9 := hfl (numB e.off.toNat) (by simp [fieldsE])
 have q11 := hfl (numB e.ward.toNat) (by simp [fieldsE])
 have q0 := hfl (numB e.rep.toNat) (by simp [fieldsE])
 have q1 := hfl (numB e.seq) (by simp [fieldsE])
 have q4 := idB_len _ g.obj
 have q5 := idB_len _ g.dir
 have s3 : smallB (numB e.kind.toNat) = e.kind := by rw [small_back (by omega)]; omega
 have s9 : smallB (numB e.off.toNat) = e.off := by have := g.off; rw [small_back (by omega)]; omega
 have s11 : smallB (numB e.ward.toNat) = e.ward := by have := g.ward; rw [small_back (by omega)]; omega
 have s0 : smallB (numB e.rep.toNat) = e.rep := by rw [small_back (by omega)]; omega
 have s1 : smallB (numB e.seq) = (e.seq : Int) := small_back (by omega)
 have i4 : rdID (idB (e.orep, e.oseq)) = (e.orep, e.oseq) := id_back g.obj
 have i5 : rdID (idB (e.drep, e.dseq)) = (e.drep, e.dseq) := id_back g.dir
 (try simp only [bK1, bK2, bK3, bK4, bK5, bK6, bK7, bK8]); simp (maxSteps := 10000000) (disch := omega) only [ir50, go_sem, ↓reduceIte, Nat.reduceEqDiff, Nat.reduceSub, Nat.reduceLeDiff, Nat.reduceAdd, Int.reduceEq, Int.reduceLT, Int.reduceLE]
 refine call_with (okUnpack (f := false) (z := 1) (b := evB e) (most := 12) (.inr rfl) (by omega)) ?_
 rw [hu]
 generalize hE : (fieldsE e).map bE = E at *
 (try simp only [bK1, bK2, bK3, bK4, bK5, bK6, bK7, bK8]); simp (maxSteps := 10000000) (disch := omega) only [hl12, f3, f4, f5, f6, f9, f10, f11, load_c0, go_sem, ↓reduceIte, Nat.reduceEqDiff, Nat.reduceSub, Nat.reduceLeDiff, Nat.reduceAdd, Int.reduceEq, Int.reduceLT, Int.reduceLE]
 refine call_with (okSmall (f := false) (z := 1) (b := numB e.kind.toNat) (.inr rfl) (by omega)) ?_
 (try simp only [bK1, bK2, bK3, bK4, bK5, bK6, bK7, bK8]); simp (maxSteps := 10000000) (disch := omega) only [hl12, f3, f4, f5, f6, f9, f10, f11, load_c0, s3, go_sem, ↓reduceIte, Nat.reduceEqDiff, Nat.reduceSub, Nat.reduceLeDiff, Nat.reduceAdd, Int.reduceEq, Int.reduceLT, Int.reduceLE]
 refine call_with (okReadID (f := false) (z := 1) (b := idB (e.orep, e.oseq)) (.inr rfl) (by omega)) ?_
 (try simp only [bK1, bK2, bK3, bK4, bK5, bK6, bK7, bK8]); simp (maxSteps := 10000000) (disch := omega) only [hl12, f3, f4, f5, f6, f9, f10, f11, load_c0, i4, go_sem, ↓reduceIte, Nat.reduceEqDiff, Nat.reduceSub, Nat.reduceLeDiff, Nat.reduceAdd, Int.reduceEq, Int.reduceLT, Int.reduceLE]
 refine call_with (okReadID (f := false) (z := 1) (b := idB (e.drep, e.dseq)) (.inr rfl) (by omega)) ?_
 (try simp only [bK1, bK2, bK3, bK4, bK5, bK6, bK7, bK8]); simp (maxSteps := 10000000) (disch := omega) only [hl12, f3, f4, f5, f6, f9, f10, f11, load_c0, i5, go_sem, ↓reduceIte, Nat.reduceEqDiff, Nat.reduceSub, Nat.reduceLeDiff, Nat.reduceAdd, Int.reduceEq, Int.reduceLT, Int.reduceLE]
 refine call_with (okSmall (f := false) (z := 1) (b := numB e.off.toNat) (.inr rfl) (by omega)) ?_
 (try simp only [bK1, bK2, bK3, bK4, bK5, bK6, bK7, bK8]); simp (maxSteps := 10000000) (disch := omega) only [hl12, f3, f4, f5, f6, f9, f10, f11, load_c0, s9, go_sem, ↓reduceIte, Nat.reduceEqDiff, Nat.reduceSub, Nat.reduceLeDiff, Nat.reduceAdd, Int.reduceEq, Int.reduceLT, Int.reduceLE]
 refine call_with (okSmall (f := false) (z := 1) (b := numB e.ward.toNat) (.inr rfl) (by omega)) ?_
 (try simp only [bK1, bK2, bK3, bK4, bK5, bK6, bK7, bK8]); simp (maxSteps := 10000000) (disch := omega) only [hl12, f0, f1, f2, f7, f8, load_c0, s11, go_sem, ↓reduceIte, Nat.reduceEqDiff, Nat.reduceSub, Nat.reduceLeDiff, Nat.reduceAdd, Int.reduceEq, Int.reduceLT, Int.reduceLE]
 refine call_with (okSmall (f := false) (z := 1) (b := numB e.rep.toNat) (.inr rfl) (by omega)) ?_
 (try simp only [bK1, bK2, bK3, bK4, bK5, bK6, bK7, bK8]); simp (maxSteps := 10000000) (disch := omega) only [hl12, f0, f1, f2, f7, f8, load_c0, s0, go_sem, ↓reduceIte, Nat.reduceEqDiff, Nat.reduceSub, Nat.reduceLeDiff, Nat.reduceAdd, Int.reduceEq, Int.reduceLT, Int.reduceLE]
 refine call_with (okSmall (f := false) (z := 1) (b := numB e.seq) (.inr rfl) (by omega)) ?_
 (try simp only [bK1, bK2, bK3, bK4, bK5, bK6, bK7, bK8]); simp (maxSteps := 10000000) (disch := omega) only [hl12, f0, f1, f2, f7, f8, load_c0, s1, go_sem, ↓reduceIte, Nat.reduceEqDiff, Nat.reduceSub, Nat.reduceLeDiff, Nat.reduceAdd, Int.reduceEq, Int.reduceLT, Int.reduceLE]
 have hmx : max (0 : Int) (e.seq : Int) = (e.seq : Int) := by omega
 have hgs := growB_shrink e.dep (fun _ => 0) (fun i hi => by have := g.dep i hi; omega) (by simp)
 have hge : vE (growB (shrinkB e.dep fun _ => 0) fun _ => 0).1 = vE e.dep := vE_ext hgs.2
 have hs2 := byTo_len e.dep (fun _ => 0) (fun i hi => by have := g.dep i hi; omega) (by simp) 8 (by omega)
 have hsl : (shrinkB e.dep (fun _ => 0)).length ≤ 42 := by simp only [shrinkB, List.length_cons]; omega
 refine call_with (okGrow (l := shrinkB e.dep fun _ => 0) (fun _ => 0) (by simp) (by omega) rfl rfl (.inr rfl)) ?_
 rw [hge, hgs.1]
 (try simp only [bK1, bK2, bK3, bK4, bK5, bK6, bK7, bK8]); simp (maxSteps := 10000000) (disch := omega) only [hl12, f7, f8, load_c0, hmx, go_sem, ↓reduceIte, Nat.reduceEqDiff, Nat.reduceSub, Nat.reduceLeDiff, Nat.reduceAdd, Int.reduceEq, Int.reduceLT, Int.reduceLE]
 refine call_with (okReadIDs_ok g.gone.2 g.gone.1) ?_
 (try simp only [bK1, bK2, bK3, bK4, bK5, bK6, bK7, bK8]); simp (maxSteps := 10000000) (disch := omega) only [hl12, f7, f8, load_c0, hmx, go_sem, ↓reduceIte, Nat.reduceEqDiff, Nat.reduceSub, Nat.reduceLeDiff, Nat.reduceAdd, Int.reduceEq, Int.reduceLT, Int.reduceLE]
 refine call_with (okReadIDs_ok g.basel.2 g.basel.1) ?_
 (try simp only [bK1, bK2, bK3, bK4, bK5, bK6, bK7, bK8]); simp (maxSteps := 10000000) (disch := omega) only [hmx, go_sem, ↓reduceIte, Nat.reduceEqDiff, Nat.reduceSub, Nat.reduceLeDiff, Nat.reduceAdd, Int.reduceEq, Int.reduceLT, Int.reduceLE]
 have hev : ev (canon e) := ⟨.inr rfl, .inr rfl, he.2.2.1, he.2.2.2.1, he.2.2.2.2⟩
 refine call_with ((okWrite (canon e) hev (by rw [check_canon]; exact hc)).imp ⟨imp_agg (by rfl) (evE_len (canon e)), trivial⟩ (by simp [tops, tn])) ?_
 have hcb : evB (canon e) = evB e := rfl
 rw [hcb]
 have hself : decide (evB e = evB e) = true := by simp
 (try simp only [bK1, bK2, bK3, bK4, bK5, bK6, bK7, bK8]); simp (maxSteps := 10000000) (disch := omega) only [go_sem, ↓reduceIte, Nat.reduceEqDiff, Nat.reduceSub, Nat.reduceLeDiff, Nat.reduceAdd, Int.reduceEq, Int.reduceLT, Int.reduceLE]
 refine call_with (okEqB (f := false) (g := false) (y := 1) (z := 1) (a := evB e) (b := evB e) rfl rfl (.inr rfl) (.inr rfl) (by omega) (by omega)) ?_
 (try simp only [bK1, bK2, bK3, bK4, bK5, bK6, bK7, bK8]); simp (maxSteps := 10000000) (disch := omega) only [hself, segE, canon, go_sem, ↓reduceIte, Nat.reduceEqDiff, Nat.reduceSub, Nat.reduceLeDiff, Nat.reduceAdd, Int.reduceEq, Int.reduceLT, Int.reduceLE]
end Go.Proofs.Ytfkmlmckihmihaa.Fw
namespace Go.Proofs.Ytfkmlmckihmihaa.Fw
open Go.RowKit Go.Proofs
end Go.Proofs.Ytfkmlmckihmihaa.Fw
namespace Go.Proofs.Ytfkmlmckihmihaa.Fw
open Go.RowKit Go.Proofs
theorem kL_seg (n : Nat) (e : Evt) : SV.killL n (segE e) = segE e := rfl
theorem wL_seg (e : Evt) : SV.widthL (segE e) = 21 := rfl
theorem fbL_seg (e : Evt) : SV.flatBL (segE e) = true := rfl
theorem frL_seg (n : Nat) (v : PV) (e : Evt) : SV.frzL n v (segE e) = segE e := rfl
attribute [go_sem] kL_seg wL_seg fbL_seg frL_seg
theorem same_self (e : Evt) : sameB e (canon e) = true := by
 simp [sameB, canon, vEq]
theorem canon_ev {e : Evt} (h : ev e) : ev (canon e) := ⟨.inr rfl, .inr rfl, h.2.2.1, h.2.2.2.1, h.2.2.2.2⟩
abbrev shEvt : Sh := .st [shId, .arr 8 (.int .u32), .int .i64, shId, shId, .str, .sl shId, .sl shId, .int .i64, .str, .int .i64]
theorem GC_evt {cs : List PV} (h : GC shEvt cs) : ∃ e : Evt, cs = evE e ∧ (∀ i, i < 8 → e.dep i < 4294967296) ∧ e.gone.ok ∧ e.base.ok ∧ e.name.length ≤ maxLen ∧ e.data.length ≤ maxLen := by
 simp only [GC] at h
 simp only [GCL] at h
 obtain ⟨c0, r0, rfl, g0, c1, r1, rfl, g1, c2, r2, rfl, ⟨n2, rfl, w2⟩, c3, r3, rfl, g3, c4, r4, rfl, g4, c5, r5, rfl, ⟨s5, rfl, w5⟩, c6, r6, rfl, g6, c7, r7, rfl, g7, c8, r8, rfl, ⟨n8, rfl, w8⟩, c9, r9, rfl, ⟨s9, rfl, w9⟩, c10, r10, rfl, ⟨n10, rfl, w10⟩, rfl⟩ := h
 obtain ⟨b0, rfl, hb0⟩ := GC_id (by simp only [GC]; exact g0)
 obtain ⟨a, rfl, ha⟩ := GC_vE (by simp only [GC]; exact g1)
 obtain ⟨b3, rfl, hb3⟩ := GC_id (by simp only [GC]; exact g3)
 obtain ⟨b4, rfl, hb4⟩ := GC_id (by simp only [GC]; exact g4)
 obtain ⟨e6, rfl, l6, g6⟩ := GC_sl (s := shId) (by simp only [GC]; exact g6)
 obtain ⟨e7, rfl, l7, g7⟩ := GC_sl (s := shId) (by simp only [GC]; exact g7)
 obtain ⟨m6, rfl, _⟩ := els_of (f := idE) GC_id g6
 obtain ⟨m7, rfl, _⟩ := els_of (f := idE) GC_id g7
 exact ⟨⟨b0.1, b0.2, a, n2, b3.1, b3.2, b4.1, b4.2, s5, ⟨false, 2, m6⟩, ⟨false, 2, m7⟩, n8, s9, n10⟩, by simp [evE, idE, SlI.pv]; rfl, ha, .inr rfl, .inr rfl, w5, w9⟩
end Go.Proofs.Ytfkmlmckihmihaa.Fw
namespace Go.Proofs.Ytfkmlmckihmihaa.Fw
open Go.RowKit Go.Proofs
def stChkR (e : Evt) (k : Nat) : FS := mk [(3, .pv (.i .i64 k)), (1, .p 1 0)] [(1, some (.var (.vec 21 (evE e))))]
theorem u32_ne {a b : Nat} (ha : a < 4294967296) (hb : 1 ≤ b ∧ b ≤ 1048576) (h : ¬ a + 1 = b) : ¬ IntKind.u32.wrap ((a : Int) + 1) = (b : Int) := by
 by_cases h1 : a + 1 < 4294967296
 · rw [wrap_u32 (by omega)]; omega
 · have : (a : Int) + 1 = 4294967296 := by omega
   rw [this]
   have : IntKind.u32.wrap 4294967296 = 0 := by decide
   rw [this]; omega
set_option maxHeartbeats 40000000 in
theorem okCheckR (e : Evt) (he : ev e) (hdep : ∀ i, i < 8 → e.dep i < 4294967296) {h d} : FunOk Try.prog 63 [.vec 21 (evE e)] h d (.pv (.b (checkB e))) [] := by
 refine fun_pure mixed fn63 (by simp) rfl rfl fun F => ?_
 have hl := evE_len e
 obtain ⟨hg, hb, hgn, hbn, hdl⟩ := he
 by_cases r1 : e.rep < 1
 · have eb := check_b (e := e) fun h => by have := h.1; omega
   (try simp only [bK1, bK2, bK3, bK4, bK5, bK6, bK7, bK8]); simp (maxSteps := 10000000) (disch := omega) only [ir63, ld_ev0, r1, eb, go_sem, ↓reduceIte, Nat.reduceEqDiff, Nat.reduceSub, Nat.reduceLeDiff, Nat.reduceAdd, Int.reduceEq, Int.reduceLT, Int.reduceLE]
 by_cases r2 : 8 < e.rep
 · have eb := check_b (e := e) fun h => by have := h.2.1; omega
   (try simp only [bK1, bK2, bK3, bK4, bK5, bK6, bK7, bK8]); simp (maxSteps := 10000000) (disch := omega) only [ir63, ld_ev0, r1, r2, eb, go_sem, ↓reduceIte, Nat.reduceEqDiff, Nat.reduceSub, Nat.reduceLeDiff, Nat.reduceAdd, Int.reduceEq, Int.reduceLT, Int.reduceLE]
 by_cases r3 : (e.seq : Int) < 1
 · have eb := check_b (e := e) fun h => by have := h.2.2.1; omega
   (try simp only [bK1, bK2, bK3, bK4, bK5, bK6, bK7, bK8]); simp (maxSteps := 10000000) (disch := omega) only [ir63, ld_ev0, ld_ev1, r1, r2, r3, eb, go_sem, ↓reduceIte, Nat.reduceEqDiff, Nat.reduceSub, Nat.reduceLeDiff, Nat.reduceAdd, Int.reduceEq, Int.reduceLT, Int.reduceLE]
 by_cases r4 : 1048576 < (e.seq : Int)
 · have eb := check_b (e := e) fun h => by have := h.2.2.2.1; omega
   (try simp only [bK1, bK2, bK3, bK4, bK5, bK6, bK7, bK8]); simp (maxSteps := 10000000) (disch := omega) only [ir63, ld_ev0, ld_ev1, r1, r2, r3, r4, eb, go_sem, ↓reduceIte, Nat.reduceEqDiff, Nat.reduceSub, Nat.reduceLeDiff, Nat.reduceAdd, Int.reduceEq, Int.reduceLT, Int.reduceLE]
 obtain ⟨k, hk⟩ : ∃ k : Nat, e.rep = (k : Int) + 1 := ⟨(e.rep - 1).toNat, by omega⟩
 have hk8 : k < 8 := by omega
 have ekn : (e.rep - 1).toNat = k := by omega
 have egv : getV e.dep ((k : Int) + 1) = e.dep k := by
  have e1 : ((k : Int) + 1 - 1).toNat = k := by omega
  simp [getV, e1]; omega
 have hdk := hdep k hk8
 by_cases r5 : e.dep k + 1 = e.seq
 rotate_left
 · have eb := check_b (e := e) fun h => by have := h.2.2.2.2.1; rw [ekn] at this; omega
   have hw := u32_ne hdk (by omega) r5
   (try simp only [bK1, bK2, bK3, bK4, bK5, bK6, bK7, bK8]); simp (maxSteps := 10000000) (disch := omega) only [ir63, ld_ev0, ld_ev1, ld_evDep, load_vE8, hk, r3, r4, eb, go_sem, ↓reduceIte, Nat.reduceEqDiff, Nat.reduceSub, Nat.reduceLeDiff, Nat.reduceAdd, Int.reduceEq, Int.reduceLT, Int.reduceLE]
   refine call_with (okGetR _ _) ?_
   (try simp only [bK1, bK2, bK3, bK4, bK5, bK6, bK7, bK8]); simp (maxSteps := 10000000) (disch := omega) only [egv, hw, ld_ev1, eb, go_sem, ↓reduceIte, Nat.reduceEqDiff, Nat.reduceSub, Nat.reduceLeDiff, Nat.reduceAdd, Int.reduceEq, Int.reduceLT, Int.reduceLE]
 have r5' : (e.dep k : Int) + 1 = (e.seq : Int) := by omega
 (try simp only [bK1, bK2, bK3, bK4, bK5, bK6, bK7, bK8]); simp (maxSteps := 10000000) (disch := omega) only [ir63, ld_ev0, ld_ev1, ld_evDep, load_vE8, hk, r3, r4, go_sem, ↓reduceIte, Nat.reduceEqDiff, Nat.reduceSub, Nat.reduceLeDiff, Nat.reduceAdd, Int.reduceEq, Int.reduceLT, Int.reduceLE]
 refine call_with (okGetR _ _) ?_
 (try simp only [bK1, bK2, bK3, bK4, bK5, bK6, bK7, bK8]); simp (maxSteps := 10000000) (disch := omega) only [egv, r5', ld_ev1, go_sem, ↓reduceIte, Nat.reduceEqDiff, Nat.reduceSub, Nat.reduceLeDiff, Nat.reduceAdd, Int.reduceEq, Int.reduceLT, Int.reduceLE]
 refine loop_ok mixed (stChkR e) (fun k => k ≤ 8 ∧ ∀ i, i < k → e.dep i ≤ 1048576) (fun k => 8 - k) 0 (by simp) (weak_mk ?_ ?_) fun j hj => ?_
 · (try simp only [bK1, bK2, bK3, bK4, bK5, bK6, bK7, bK8]); simp (maxSteps := 10000000) (disch := omega) only [go_sem, ↓reduceIte, Nat.reduceEqDiff, Nat.reduceSub, Nat.reduceLeDiff, Nat.reduceAdd, Int.reduceEq, Int.reduceLT, Int.reduceLE]
 · (try simp only [bK1, bK2, bK3, bK4, bK5, bK6, bK7, bK8]); simp (maxSteps := 10000000) (disch := omega) only [go_sem, ↓reduceIte, Nat.reduceEqDiff, Nat.reduceSub, Nat.reduceLeDiff, Nat.reduceAdd, Int.reduceEq, Int.reduceLT, Int.reduceLE]
 obtain ⟨hj1, hj2⟩ := hj
 by_cases hlt : j < 8
 · by_cases hd : 1048576 < (e.dep j : Int)
   · have eb := check_d (e := e) fun h => by have := h j hlt; omega
     (try simp only [bK1, bK2, bK3, bK4, bK5, bK6, bK7, bK8]); simp (maxSteps := 10000000) (disch := omega) only [stChkR, ld_evDepAt, hd, eb, go_sem, ↓reduceIte, Nat.reduceEqDiff, Nat.reduceSub, Nat.reduceLeDiff, Nat.reduceAdd, Int.reduceEq, Int.reduceLT, Int.reduceLE]
   · (try simp only [bK1, bK2, bK3, bK4, bK5, bK6, bK7, bK8]); simp (maxSteps := 10000000) (disch := omega) only [stChkR, ld_evDepAt, hd, go_sem, ↓reduceIte, Nat.reduceEqDiff, Nat.reduceSub, Nat.reduceLeDiff, Nat.reduceAdd, Int.reduceEq, Int.reduceLT, Int.reduceLE]
     refine loop_next (j + 1) _ _ rfl ⟨by omega, fun i hi => ?_⟩ (by omega) ?_ ?_
     · by_cases e : i = j
       · subst e; omega
       · exact hj2 i (by omega)
     · (try simp only [bK1, bK2, bK3, bK4, bK5, bK6, bK7, bK8]); simp (maxSteps := 10000000) (disch := omega) only [go_sem, ↓reduceIte, Nat.reduceEqDiff, Nat.reduceSub, Nat.reduceLeDiff, Nat.reduceAdd, Int.reduceEq, Int.reduceLT, Int.reduceLE]
     · (try simp only [bK1, bK2, bK3, bK4, bK5, bK6, bK7, bK8]); simp (maxSteps := 10000000) (disch := omega) only [go_sem, ↓reduceIte, Nat.reduceEqDiff, Nat.reduceSub, Nat.reduceLeDiff, Nat.reduceAdd, Int.reduceEq, Int.reduceLT, Int.reduceLE]
 obtain rfl : j = 8 := by omega
 have hD : DepP e := hj2
 (try simp only [bK1, bK2, bK3, bK4, bK5, bK6, bK7, bK8]); simp (maxSteps := 10000000) (disch := omega) only [stChkR, evE_len, go_sem, ↓reduceIte, Nat.reduceEqDiff, Nat.reduceSub, Nat.reduceLeDiff, Nat.reduceAdd, Int.reduceEq, Int.reduceLT, Int.reduceLE]
 refine call_with (okHasR _ _ _) ?_
 (try simp only [bK1, bK2, bK3, bK4, bK5, bK6, bK7, bK8]); simp (maxSteps := 10000000) (disch := omega) only [evE_len, go_sem, ↓reduceIte, Nat.reduceEqDiff, Nat.reduceSub, Nat.reduceLeDiff, Nat.reduceAdd, Int.reduceEq, Int.reduceLT, Int.reduceLE]
 refine call_with (okZeroR _ _) ?_
 by_cases hz' : zeroB e.drep e.dseq = false
 all_goals first
  | (have hpl : placeB e = hasB e.dep e.drep e.dseq := by simp only [placeB, hz', Bool.false_or]
     (try simp only [bK1, bK2, bK3, bK4, bK5, bK6, bK7, bK8]); simp (maxSteps := 10000000) (disch := omega) only [hz', go_sem, ↓reduceIte, Nat.reduceEqDiff, Nat.reduceSub, Nat.reduceLeDiff, Nat.reduceAdd, Int.reduceEq, Int.reduceLT, Int.reduceLE]
     refine call_with (okHasR _ _ _) ?_)
  | (have hz : zeroB e.drep e.dseq = true := by simpa using hz'
     have hpl : placeB e = true := by simp only [placeB, hz, Bool.true_or]
     (try simp only [bK1, bK2, bK3, bK4, bK5, bK6, bK7, bK8]); simp (maxSteps := 10000000) (disch := omega) only [hz, go_sem, ↓reduceIte, Nat.reduceEqDiff, Nat.reduceSub, Nat.reduceLeDiff, Nat.reduceAdd, Int.reduceEq, Int.reduceLT, Int.reduceLE])
 all_goals by_cases hgl0 : (e.gone.l.length : Int) ≤ 8
 all_goals first
  | (have hgl : idsB e.gone.l 8 e.dep = riseB e.dep e.gone.l := by simp only [idsB, hgl0, decide_true, Bool.true_and]
     (try simp only [bK1, bK2, bK3, bK4, bK5, bK6, bK7, bK8]); simp (maxSteps := 10000000) (disch := omega) only [hgl0, go_sem, ↓reduceIte, Nat.reduceEqDiff, Nat.reduceSub, Nat.reduceLeDiff, Nat.reduceAdd, Int.reduceEq, Int.reduceLT, Int.reduceLE]
     refine call_with (okRise (l := e.gone.l) hg hgn) ?_
     (try simp only [bK1, bK2, bK3, bK4, bK5, bK6, bK7, bK8]); simp (maxSteps := 10000000) (disch := omega) only [hgl0, go_sem, ↓reduceIte, Nat.reduceEqDiff, Nat.reduceSub, Nat.reduceLeDiff, Nat.reduceAdd, Int.reduceEq, Int.reduceLT, Int.reduceLE])
  | (have hgl : idsB e.gone.l 8 e.dep = false := by simp only [idsB, hgl0, decide_false, Bool.false_and]
     (try simp only [bK1, bK2, bK3, bK4, bK5, bK6, bK7, bK8]); simp (maxSteps := 10000000) (disch := omega) only [hgl0, go_sem, ↓reduceIte, Nat.reduceEqDiff, Nat.reduceSub, Nat.reduceLeDiff, Nat.reduceAdd, Int.reduceEq, Int.reduceLT, Int.reduceLE])
 all_goals refine call_with (okRise (l := e.base.l) hb hbn) ?_
 all_goals by_cases ho1 : 0 ≤ e.off
 rotate_left
 all_goals by_cases ho2 : e.off ≤ 200
 all_goals try (exfalso; omega)
 all_goals first
  | (have hso : sizeB e.off = true := decide_eq_true ⟨ho1, ho2⟩
     (try simp only [bK1, bK2, bK3, bK4, bK5, bK6, bK7, bK8]); simp (maxSteps := 10000000) (disch := omega) only [hgl0, ho1, ho2, go_sem, ↓reduceIte, Nat.reduceEqDiff, Nat.reduceSub, Nat.reduceLeDiff, Nat.reduceAdd, Int.reduceEq, Int.reduceLT, Int.reduceLE])
  | (have hso : sizeB e.off = false := decide_eq_false (by omega)
     (try simp only [bK1, bK2, bK3, bK4, bK5, bK6, bK7, bK8]); simp (maxSteps := 10000000) (disch := omega) only [hgl0, ho1, ho2, go_sem, ↓reduceIte, Nat.reduceEqDiff, Nat.reduceSub, Nat.reduceLeDiff, Nat.reduceAdd, Int.reduceEq, Int.reduceLT, Int.reduceLE])
 all_goals
  by_cases hkr : 1 ≤ e.kind ∧ e.kind ≤ 9
  rotate_left
  · have eb := check_b (e := e) fun h => by have := h.2.2.2.2.2; omega
    have hn1 : ¬ e.kind = 1 := by omega
    have hn2 : ¬ e.kind = 2 := by omega
    have hn3 : ¬ e.kind = 3 := by omega
    have hn4 : ¬ e.kind = 4 := by omega
    have hn5 : ¬ e.kind = 5 := by omega
    have hn6 : ¬ e.kind = 6 := by omega
    have hn7 : ¬ e.kind = 7 := by omega
    have hn8 : ¬ e.kind = 8 := by omega
    have hn9 : ¬ e.kind = 9 := by omega
    (try simp only [bK1, bK2, bK3, bK4, bK5, bK6, bK7, bK8]); simp (maxSteps := 10000000) (disch := omega) only [evE_len, hn1, hn2, hn3, hn4, hn5, hn6, hn7, hn8, hn9, eb, go_sem, ↓reduceIte, Nat.reduceEqDiff, Nat.reduceSub, Nat.reduceLeDiff, Nat.reduceAdd, Int.reduceEq, Int.reduceLT, Int.reduceLE]
  have hB : BaseP e := ⟨by omega, by omega, by omega, by omega, by rw [ekn]; omega, by omega, by omega⟩
  have hkk : e.kind = 1 ∨ e.kind = 2 ∨ e.kind = 3 ∨ e.kind = 4 ∨ e.kind = 5 ∨ e.kind = 6 ∨ e.kind = 7 ∨ e.kind = 8 ∨ e.kind = 9 := by omega
  rcases hkk with hki | hki | hki | hki | hki | hki | hki | hki | hki
  · have ez := check_1 hB hD hki
    by_cases s0' : placeB e = false
    · first
       | exact absurd (hpl.symm.trans s0') (by decide)
       | (have s0b := hpl.symm.trans s0'
          simp only [s0', decide_true, decide_false, Bool.true_and, Bool.false_and, Bool.and_true, Bool.and_false, Bool.and_self, Bool.not_true, Bool.not_false] at ez
          (try simp only [bK1, bK2, bK3, bK4, bK5, bK6, bK7, bK8]); simp (maxSteps := 10000000) (disch := omega) only [evE_len, hki, s0b, ez, go_sem, ↓reduceIte, Nat.reduceEqDiff, Nat.reduceSub, Nat.reduceLeDiff, Nat.reduceAdd, Int.reduceEq, Int.reduceLT, Int.reduceLE])
    have s0 : placeB e = true := by simpa using s0'
    have s0b := hpl.symm.trans s0
    first
     | exact absurd s0b (by decide)
     | ((try simp only [bK1, bK2, bK3, bK4, bK5, bK6, bK7, bK8]); simp (maxSteps := 10000000) (disch := omega) only [evE_len, hki, s0b, go_sem, ↓reduceIte, Nat.reduceEqDiff, Nat.reduceSub, Nat.reduceLeDiff, Nat.reduceAdd, Int.reduceEq, Int.reduceLT, Int.reduceLE]
        refine call_with (okNameR _) ?_
        by_cases s1' : nameB e.name = false
        · simp only [s0, s1', decide_true, decide_false, Bool.true_and, Bool.false_and, Bool.and_true, Bool.and_false, Bool.and_self, Bool.not_true, Bool.not_false] at ez
          (try simp only [bK1, bK2, bK3, bK4, bK5, bK6, bK7, bK8]); simp (maxSteps := 10000000) (disch := omega) only [evE_len, s0b, s1', ez, go_sem, ↓reduceIte, Nat.reduceEqDiff, Nat.reduceSub, Nat.reduceLeDiff, Nat.reduceAdd, Int.reduceEq, Int.reduceLT, Int.reduceLE]
        have s1 : nameB e.name = true := by simpa using s1'
        (try simp only [bK1, bK2, bK3, bK4, bK5, bK6, bK7, bK8]); simp (maxSteps := 10000000) (disch := omega) only [evE_len, s0b, s1, go_sem, ↓reduceIte, Nat.reduceEqDiff, Nat.reduceSub, Nat.reduceLeDiff, Nat.reduceAdd, Int.reduceEq, Int.reduceLT, Int.reduceLE]
        refine call_with (okMadeD e) ?_
        simp only [s0, s1, decide_true, decide_false, Bool.true_and, Bool.false_and, Bool.and_true, Bool.and_false, Bool.and_self, Bool.not_true, Bool.not_false] at ez
        (try simp only [bK1, bK2, bK3, bK4, bK5, bK6, bK7, bK8]); simp (maxSteps := 10000000) (disch := omega) only [s0b, s1, ez, go_sem, ↓reduceIte, Nat.reduceEqDiff, Nat.reduceSub, Nat.reduceLeDiff, Nat.reduceAdd, Int.reduceEq, Int.reduceLT, Int.reduceLE])
  · have ez := check_2 hB hD hki
    by_cases s0' : placeB e = false
    · first
       | exact absurd (hpl.symm.trans s0') (by decide)
       | (have s0b := hpl.symm.trans s0'
          simp only [s0', decide_true, decide_false, Bool.true_and, Bool.false_and, Bool.and_true, Bool.and_false, Bool.and_self, Bool.not_true, Bool.not_false] at ez
          (try simp only [bK1, bK2, bK3, bK4, bK5, bK6, bK7, bK8]); simp (maxSteps := 10000000) (disch := omega) only [evE_len, hki, s0b, ez, go_sem, ↓reduceIte, Nat.reduceEqDiff, Nat.reduceSub, Nat.reduceLeDiff, Nat.reduceAdd, Int.reduceEq, Int.reduceLT, Int.reduceLE])
    have s0 : placeB e = true := by simpa using s0'
    have s0b := hpl.symm.trans s0
    first
     | exact absurd s0b (by decide)
     | ((try simp only [bK1, bK2, bK3, bK4, bK5, bK6, bK7, bK8]); simp (maxSteps := 10000000) (disch := omega) only [evE_len, hki, s0b, go_sem, ↓reduceIte, Nat.reduceEqDiff, Nat.reduceSub, Nat.reduceLeDiff, Nat.reduceAdd, Int.reduceEq, Int.reduceLT, Int.reduceLE]
        refine call_with (okNameR _) ?_
        by_cases s1' : nameB e.name = false
        · simp only [s0, s1', decide_true, decide_false, Bool.true_and, Bool.false_and, Bool.and_true, Bool.and_false, Bool.and_self, Bool.not_true, Bool.not_false] at ez
          (try simp only [bK1, bK2, bK3, bK4, bK5, bK6, bK7, bK8]); simp (maxSteps := 10000000) (disch := omega) only [evE_len, s0b, s1', ez, go_sem, ↓reduceIte, Nat.reduceEqDiff, Nat.reduceSub, Nat.reduceLeDiff, Nat.reduceAdd, Int.reduceEq, Int.reduceLT, Int.reduceLE]
        have s1 : nameB e.name = true := by simpa using s1'
        (try simp only [bK1, bK2, bK3, bK4, bK5, bK6, bK7, bK8]); simp (maxSteps := 10000000) (disch := omega) only [evE_len, s0b, s1, go_sem, ↓reduceIte, Nat.reduceEqDiff, Nat.reduceSub, Nat.reduceLeDiff, Nat.reduceAdd, Int.reduceEq, Int.reduceLT, Int.reduceLE]
        refine call_with (okMadeD e) ?_
        simp only [s0, s1, decide_true, decide_false, Bool.true_and, Bool.false_and, Bool.and_true, Bool.and_false, Bool.and_self, Bool.not_true, Bool.not_false] at ez
        (try simp only [bK1, bK2, bK3, bK4, bK5, bK6, bK7, bK8]); simp (maxSteps := 10000000) (disch := omega) only [s0b, s1, ez, go_sem, ↓reduceIte, Nat.reduceEqDiff, Nat.reduceSub, Nat.reduceLeDiff, Nat.reduceAdd, Int.reduceEq, Int.reduceLT, Int.reduceLE])
  · have ez := check_3 hB hD hki
    by_cases s0' : hasB e.dep e.orep e.oseq = false
    · simp only [s0', decide_true, decide_false, Bool.true_and, Bool.false_and, Bool.and_true, Bool.and_false, Bool.and_self, Bool.not_true, Bool.not_false] at ez
      (try simp only [bK1, bK2, bK3, bK4, bK5, bK6, bK7, bK8]); simp (maxSteps := 10000000) (disch := omega) only [evE_len, hki, s0', ez, go_sem, ↓reduceIte, Nat.reduceEqDiff, Nat.reduceSub, Nat.reduceLeDiff, Nat.reduceAdd, Int.reduceEq, Int.reduceLT, Int.reduceLE]
    have s0 : hasB e.dep e.orep e.oseq = true := by simpa using s0'
    by_cases s1' : riseB e.dep e.base.l = false
    · simp only [s0, s1', decide_true, decide_false, Bool.true_and, Bool.false_and, Bool.and_true, Bool.and_false, Bool.and_self, Bool.not_true, Bool.not_false] at ez
      (try simp only [bK1, bK2, bK3, bK4, bK5, bK6, bK7, bK8]); simp (maxSteps := 10000000) (disch := omega) only [evE_len, hki, s0, s1', ez, go_sem, ↓reduceIte, Nat.reduceEqDiff, Nat.reduceSub, Nat.reduceLeDiff, Nat.reduceAdd, Int.reduceEq, Int.reduceLT, Int.reduceLE]
    have s1 : riseB e.dep e.base.l = true := by simpa using s1'
    by_cases s2 : (e.base.l.length : Int) ≤ 1
    rotate_left
    · simp only [s0, s1, s2, decide_true, decide_false, Bool.true_and, Bool.false_and, Bool.and_true, Bool.and_false, Bool.and_self, Bool.not_true, Bool.not_false] at ez
      (try simp only [bK1, bK2, bK3, bK4, bK5, bK6, bK7, bK8]); simp (maxSteps := 10000000) (disch := omega) only [evE_len, hki, s0, s1, s2, ez, go_sem, ↓reduceIte, Nat.reduceEqDiff, Nat.reduceSub, Nat.reduceLeDiff, Nat.reduceAdd, Int.reduceEq, Int.reduceLT, Int.reduceLE]
    by_cases s3' : sizeB e.off = false
    · first
       | exact absurd (hso.symm.trans s3') (by decide)
       | (have s3b := hso.symm.trans s3'
          simp only [s0, s1, s2, s3', decide_true, decide_false, Bool.true_and, Bool.false_and, Bool.and_true, Bool.and_false, Bool.and_self, Bool.not_true, Bool.not_false] at ez
          (try simp only [bK1, bK2, bK3, bK4, bK5, bK6, bK7, bK8]); simp (maxSteps := 10000000) (disch := omega) only [evE_len, hki, s0, s1, s2, s3b, ez, go_sem, ↓reduceIte, Nat.reduceEqDiff, Nat.reduceSub, Nat.reduceLeDiff, Nat.reduceAdd, Int.reduceEq, Int.reduceLT, Int.reduceLE])
    have s3 : sizeB e.off = true := by simpa using s3'
    have s3b := hso.symm.trans s3
    first
     | exact absurd s3b (by decide)
     | (by_cases s4 : e.data = []
        · simp only [s0, s1, s2, s3, s4, decide_true, decide_false, Bool.true_and, Bool.false_and, Bool.and_true, Bool.and_false, Bool.and_self, Bool.not_true, Bool.not_false] at ez
          (try simp only [bK1, bK2, bK3, bK4, bK5, bK6, bK7, bK8]); simp (maxSteps := 10000000) (disch := omega) only [evE_len, hki, s0, s1, s2, s4, ez, go_sem, ↓reduceIte, Nat.reduceEqDiff, Nat.reduceSub, Nat.reduceLeDiff, Nat.reduceAdd, Int.reduceEq, Int.reduceLT, Int.reduceLE]
        by_cases s5 : (e.data.length : Int) ≤ 200 - e.off
        rotate_left
        · simp only [s0, s1, s2, s3, s4, s5, decide_true, decide_false, Bool.true_and, Bool.false_and, Bool.and_true, Bool.and_false, Bool.and_self, Bool.not_true, Bool.not_false] at ez
          (try simp only [bK1, bK2, bK3, bK4, bK5, bK6, bK7, bK8]); simp (maxSteps := 10000000) (disch := omega) only [evE_len, hki, s0, s1, s2, s4, s5, ez, go_sem, ↓reduceIte, Nat.reduceEqDiff, Nat.reduceSub, Nat.reduceLeDiff, Nat.reduceAdd, Int.reduceEq, Int.reduceLT, Int.reduceLE]
        (try simp only [bK1, bK2, bK3, bK4, bK5, bK6, bK7, bK8]); simp (maxSteps := 10000000) (disch := omega) only [evE_len, hki, s0, s1, s2, s4, s5, go_sem, ↓reduceIte, Nat.reduceEqDiff, Nat.reduceSub, Nat.reduceLeDiff, Nat.reduceAdd, Int.reduceEq, Int.reduceLT, Int.reduceLE]
        refine call_with (okMadeOBFD e) ?_
        simp only [s0, s1, s2, s3, s4, s5, decide_true, decide_false, Bool.true_and, Bool.false_and, Bool.and_true, Bool.and_false, Bool.and_self, Bool.not_true, Bool.not_false] at ez
        (try simp only [bK1, bK2, bK3, bK4, bK5, bK6, bK7, bK8]); simp (maxSteps := 10000000) (disch := omega) only [s0, s1, s2, s4, s5, ez, go_sem, ↓reduceIte, Nat.reduceEqDiff, Nat.reduceSub, Nat.reduceLeDiff, Nat.reduceAdd, Int.reduceEq, Int.reduceLT, Int.reduceLE])
  · have ez := check_4 hB hD hki
    by_cases s0' : hasB e.dep e.orep e.oseq = false
    · simp only [s0', decide_true, decide_false, Bool.true_and, Bool.false_and, Bool.and_true, Bool.and_false, Bool.and_self, Bool.not_true, Bool.not_false] at ez
      (try simp only [bK1, bK2, bK3, bK4, bK5, bK6, bK7, bK8]); simp (maxSteps := 10000000) (disch := omega) only [evE_len, hki, s0', ez, go_sem, ↓reduceIte, Nat.reduceEqDiff, Nat.reduceSub, Nat.reduceLeDiff, Nat.reduceAdd, Int.reduceEq, Int.reduceLT, Int.reduceLE]
    have s0 : hasB e.dep e.orep e.oseq = true := by simpa using s0'
    by_cases s1' : riseB e.dep e.base.l = false
    · simp only [s0, s1', decide_true, decide_false, Bool.true_and, Bool.false_and, Bool.and_true, Bool.and_false, Bool.and_self, Bool.not_true, Bool.not_false] at ez
      (try simp only [bK1, bK2, bK3, bK4, bK5, bK6, bK7, bK8]); simp (maxSteps := 10000000) (disch := omega) only [evE_len, hki, s0, s1', ez, go_sem, ↓reduceIte, Nat.reduceEqDiff, Nat.reduceSub, Nat.reduceLeDiff, Nat.reduceAdd, Int.reduceEq, Int.reduceLT, Int.reduceLE]
    have s1 : riseB e.dep e.base.l = true := by simpa using s1'
    by_cases s2 : (e.base.l.length : Int) ≤ 1
    rotate_left
    · simp only [s0, s1, s2, decide_true, decide_false, Bool.true_and, Bool.false_and, Bool.and_true, Bool.and_false, Bool.and_self, Bool.not_true, Bool.not_false] at ez
      (try simp only [bK1, bK2, bK3, bK4, bK5, bK6, bK7, bK8]); simp (maxSteps := 10000000) (disch := omega) only [evE_len, hki, s0, s1, s2, ez, go_sem, ↓reduceIte, Nat.reduceEqDiff, Nat.reduceSub, Nat.reduceLeDiff, Nat.reduceAdd, Int.reduceEq, Int.reduceLT, Int.reduceLE]
    by_cases s3' : sizeB e.off = false
    · first
       | exact absurd (hso.symm.trans s3') (by decide)
       | (have s3b := hso.symm.trans s3'
          simp only [s0, s1, s2, s3', decide_true, decide_false, Bool.true_and, Bool.false_and, Bool.and_true, Bool.and_false, Bool.and_self, Bool.not_true, Bool.not_false] at ez
          (try simp only [bK1, bK2, bK3, bK4, bK5, bK6, bK7, bK8]); simp (maxSteps := 10000000) (disch := omega) only [evE_len, hki, s0, s1, s2, s3b, ez, go_sem, ↓reduceIte, Nat.reduceEqDiff, Nat.reduceSub, Nat.reduceLeDiff, Nat.reduceAdd, Int.reduceEq, Int.reduceLT, Int.reduceLE])
    have s3 : sizeB e.off = true := by simpa using s3'
    have s3b := hso.symm.trans s3
    first
     | exact absurd s3b (by decide)
     | ((try simp only [bK1, bK2, bK3, bK4, bK5, bK6, bK7, bK8]); simp (maxSteps := 10000000) (disch := omega) only [evE_len, hki, s0, s1, s2, go_sem, ↓reduceIte, Nat.reduceEqDiff, Nat.reduceSub, Nat.reduceLeDiff, Nat.reduceAdd, Int.reduceEq, Int.reduceLT, Int.reduceLE]
        refine call_with (okMadeOBF e) ?_
        simp only [s0, s1, s2, s3, decide_true, decide_false, Bool.true_and, Bool.false_and, Bool.and_true, Bool.and_false, Bool.and_self, Bool.not_true, Bool.not_false] at ez
        (try simp only [bK1, bK2, bK3, bK4, bK5, bK6, bK7, bK8]); simp (maxSteps := 10000000) (disch := omega) only [s0, s1, s2, ez, go_sem, ↓reduceIte, Nat.reduceEqDiff, Nat.reduceSub, Nat.reduceLeDiff, Nat.reduceAdd, Int.reduceEq, Int.reduceLT, Int.reduceLE])
  · have ez := check_5 hB hD hki
    by_cases s0' : hasB e.dep e.orep e.oseq = false
    · simp only [s0', decide_true, decide_false, Bool.true_and, Bool.false_and, Bool.and_true, Bool.and_false, Bool.and_self, Bool.not_true, Bool.not_false] at ez
      (try simp only [bK1, bK2, bK3, bK4, bK5, bK6, bK7, bK8]); simp (maxSteps := 10000000) (disch := omega) only [evE_len, hki, s0', ez, go_sem, ↓reduceIte, Nat.reduceEqDiff, Nat.reduceSub, Nat.reduceLeDiff, Nat.reduceAdd, Int.reduceEq, Int.reduceLT, Int.reduceLE]
    have s0 : hasB e.dep e.orep e.oseq = true := by simpa using s0'
    by_cases s1' : riseB e.dep e.base.l = false
    · simp only [s0, s1', decide_true, decide_false, Bool.true_and, Bool.false_and, Bool.and_true, Bool.and_false, Bool.and_self, Bool.not_true, Bool.not_false] at ez
      (try simp only [bK1, bK2, bK3, bK4, bK5, bK6, bK7, bK8]); simp (maxSteps := 10000000) (disch := omega) only [evE_len, hki, s0, s1', ez, go_sem, ↓reduceIte, Nat.reduceEqDiff, Nat.reduceSub, Nat.reduceLeDiff, Nat.reduceAdd, Int.reduceEq, Int.reduceLT, Int.reduceLE]
    have s1 : riseB e.dep e.base.l = true := by simpa using s1'
    by_cases s2 : (2 : Int) ≤ (e.base.l.length : Int)
    rotate_left
    · simp only [s0, s1, s2, decide_true, decide_false, Bool.true_and, Bool.false_and, Bool.and_true, Bool.and_false, Bool.and_self, Bool.not_true, Bool.not_false] at ez
      (try simp only [bK1, bK2, bK3, bK4, bK5, bK6, bK7, bK8]); simp (maxSteps := 10000000) (disch := omega) only [evE_len, hki, s0, s1, s2, ez, go_sem, ↓reduceIte, Nat.reduceEqDiff, Nat.reduceSub, Nat.reduceLeDiff, Nat.reduceAdd, Int.reduceEq, Int.reduceLT, Int.reduceLE]
    by_cases s3 : (e.base.l.length : Int) ≤ 8
    rotate_left
    · simp only [s0, s1, s2, s3, decide_true, decide_false, Bool.true_and, Bool.false_and, Bool.and_true, Bool.and_false, Bool.and_self, Bool.not_true, Bool.not_false] at ez
      (try simp only [bK1, bK2, bK3, bK4, bK5, bK6, bK7, bK8]); simp (maxSteps := 10000000) (disch := omega) only [evE_len, hki, s0, s1, s2, s3, ez, go_sem, ↓reduceIte, Nat.reduceEqDiff, Nat.reduceSub, Nat.reduceLeDiff, Nat.reduceAdd, Int.reduceEq, Int.reduceLT, Int.reduceLE]
    by_cases s4 : (e.data.length : Int) ≤ 200
    rotate_left
    · simp only [s0, s1, s2, s3, s4, decide_true, decide_false, Bool.true_and, Bool.false_and, Bool.and_true, Bool.and_false, Bool.and_self, Bool.not_true, Bool.not_false] at ez
      (try simp only [bK1, bK2, bK3, bK4, bK5, bK6, bK7, bK8]); simp (maxSteps := 10000000) (disch := omega) only [evE_len, hki, s0, s1, s2, s3, s4, ez, go_sem, ↓reduceIte, Nat.reduceEqDiff, Nat.reduceSub, Nat.reduceLeDiff, Nat.reduceAdd, Int.reduceEq, Int.reduceLT, Int.reduceLE]
    (try simp only [bK1, bK2, bK3, bK4, bK5, bK6, bK7, bK8]); simp (maxSteps := 10000000) (disch := omega) only [evE_len, hki, s0, s1, s2, s3, s4, go_sem, ↓reduceIte, Nat.reduceEqDiff, Nat.reduceSub, Nat.reduceLeDiff, Nat.reduceAdd, Int.reduceEq, Int.reduceLT, Int.reduceLE]
    refine call_with (okMadeOBD e) ?_
    simp only [s0, s1, s2, s3, s4, decide_true, decide_false, Bool.true_and, Bool.false_and, Bool.and_true, Bool.and_false, Bool.and_self, Bool.not_true, Bool.not_false] at ez
    (try simp only [bK1, bK2, bK3, bK4, bK5, bK6, bK7, bK8]); simp (maxSteps := 10000000) (disch := omega) only [s0, s1, s2, s3, s4, ez, go_sem, ↓reduceIte, Nat.reduceEqDiff, Nat.reduceSub, Nat.reduceLeDiff, Nat.reduceAdd, Int.reduceEq, Int.reduceLT, Int.reduceLE]
  · have ez := check_6 hB hD hki
    by_cases s0' : hasB e.dep e.orep e.oseq = false
    · simp only [s0', decide_true, decide_false, Bool.true_and, Bool.false_and, Bool.and_true, Bool.and_false, Bool.and_self, Bool.not_true, Bool.not_false] at ez
      (try simp only [bK1, bK2, bK3, bK4, bK5, bK6, bK7, bK8]); simp (maxSteps := 10000000) (disch := omega) only [evE_len, hki, s0', ez, go_sem, ↓reduceIte, Nat.reduceEqDiff, Nat.reduceSub, Nat.reduceLeDiff, Nat.reduceAdd, Int.reduceEq, Int.reduceLT, Int.reduceLE]
    have s0 : hasB e.dep e.orep e.oseq = true := by simpa using s0'
    by_cases s1' : idsB e.gone.l 8 e.dep = false
    · first
       | exact absurd (hgl.symm.trans s1') (by decide)
       | (have s1b := hgl.symm.trans s1'
          simp only [s0, s1', decide_true, decide_false, Bool.true_and, Bool.false_and, Bool.and_true, Bool.and_false, Bool.and_self, Bool.not_true, Bool.not_false] at ez
          (try simp only [bK1, bK2, bK3, bK4, bK5, bK6, bK7, bK8]); simp (maxSteps := 10000000) (disch := omega) only [evE_len, hki, s0, s1b, ez, go_sem, ↓reduceIte, Nat.reduceEqDiff, Nat.reduceSub, Nat.reduceLeDiff, Nat.reduceAdd, Int.reduceEq, Int.reduceLT, Int.reduceLE])
    have s1 : idsB e.gone.l 8 e.dep = true := by simpa using s1'
    have s1b := hgl.symm.trans s1
    first
     | exact absurd s1b (by decide)
     | ((try simp only [bK1, bK2, bK3, bK4, bK5, bK6, bK7, bK8]); simp (maxSteps := 10000000) (disch := omega) only [evE_len, hki, s0, s1b, go_sem, ↓reduceIte, Nat.reduceEqDiff, Nat.reduceSub, Nat.reduceLeDiff, Nat.reduceAdd, Int.reduceEq, Int.reduceLT, Int.reduceLE]
        refine call_with (okMadeOG e) ?_
        simp only [s0, s1, decide_true, decide_false, Bool.true_and, Bool.false_and, Bool.and_true, Bool.and_false, Bool.and_self, Bool.not_true, Bool.not_false] at ez
        (try simp only [bK1, bK2, bK3, bK4, bK5, bK6, bK7, bK8]); simp (maxSteps := 10000000) (disch := omega) only [s0, s1b, ez, go_sem, ↓reduceIte, Nat.reduceEqDiff, Nat.reduceSub, Nat.reduceLeDiff, Nat.reduceAdd, Int.reduceEq, Int.reduceLT, Int.reduceLE])
  · have ez := check_7 hB hD hki
    by_cases s0' : hasB e.dep e.orep e.oseq = false
    · simp only [s0', decide_true, decide_false, Bool.true_and, Bool.false_and, Bool.and_true, Bool.and_false, Bool.and_self, Bool.not_true, Bool.not_false] at ez
      (try simp only [bK1, bK2, bK3, bK4, bK5, bK6, bK7, bK8]); simp (maxSteps := 10000000) (disch := omega) only [evE_len, hki, s0', ez, go_sem, ↓reduceIte, Nat.reduceEqDiff, Nat.reduceSub, Nat.reduceLeDiff, Nat.reduceAdd, Int.reduceEq, Int.reduceLT, Int.reduceLE]
    have s0 : hasB e.dep e.orep e.oseq = true := by simpa using s0'
    by_cases s1' : idsB e.gone.l 8 e.dep = false
    · first
       | exact absurd (hgl.symm.trans s1') (by decide)
       | (have s1b := hgl.symm.trans s1'
          simp only [s0, s1', decide_true, decide_false, Bool.true_and, Bool.false_and, Bool.and_true, Bool.and_false, Bool.and_self, Bool.not_true, Bool.not_false] at ez
          (try simp only [bK1, bK2, bK3, bK4, bK5, bK6, bK7, bK8]); simp (maxSteps := 10000000) (disch := omega) only [evE_len, hki, s0, s1b, ez, go_sem, ↓reduceIte, Nat.reduceEqDiff, Nat.reduceSub, Nat.reduceLeDiff, Nat.reduceAdd, Int.reduceEq, Int.reduceLT, Int.reduceLE])
    have s1 : idsB e.gone.l 8 e.dep = true := by simpa using s1'
    have s1b := hgl.symm.trans s1
    first
     | exact absurd s1b (by decide)
     | (by_cases s2' : placeB e = false
        · first
           | exact absurd (hpl.symm.trans s2') (by decide)
           | (have s2b := hpl.symm.trans s2'
              simp only [s0, s1, s2', decide_true, decide_false, Bool.true_and, Bool.false_and, Bool.and_true, Bool.and_false, Bool.and_self, Bool.not_true, Bool.not_false] at ez
              (try simp only [bK1, bK2, bK3, bK4, bK5, bK6, bK7, bK8]); simp (maxSteps := 10000000) (disch := omega) only [evE_len, hki, s0, s1b, s2b, ez, go_sem, ↓reduceIte, Nat.reduceEqDiff, Nat.reduceSub, Nat.reduceLeDiff, Nat.reduceAdd, Int.reduceEq, Int.reduceLT, Int.reduceLE])
        have s2 : placeB e = true := by simpa using s2'
        have s2b := hpl.symm.trans s2
        first
         | exact absurd s2b (by decide)
         | ((try simp only [bK1, bK2, bK3, bK4, bK5, bK6, bK7, bK8]); simp (maxSteps := 10000000) (disch := omega) only [evE_len, hki, s0, s1b, s2b, go_sem, ↓reduceIte, Nat.reduceEqDiff, Nat.reduceSub, Nat.reduceLeDiff, Nat.reduceAdd, Int.reduceEq, Int.reduceLT, Int.reduceLE]
            refine call_with (okNameR _) ?_
            by_cases s3' : nameB e.name = false
            · simp only [s0, s1, s2, s3', decide_true, decide_false, Bool.true_and, Bool.false_and, Bool.and_true, Bool.and_false, Bool.and_self, Bool.not_true, Bool.not_false] at ez
              (try simp only [bK1, bK2, bK3, bK4, bK5, bK6, bK7, bK8]); simp (maxSteps := 10000000) (disch := omega) only [evE_len, s0, s1b, s2b, s3', ez, go_sem, ↓reduceIte, Nat.reduceEqDiff, Nat.reduceSub, Nat.reduceLeDiff, Nat.reduceAdd, Int.reduceEq, Int.reduceLT, Int.reduceLE]
            have s3 : nameB e.name = true := by simpa using s3'
            (try simp only [bK1, bK2, bK3, bK4, bK5, bK6, bK7, bK8]); simp (maxSteps := 10000000) (disch := omega) only [evE_len, s0, s1b, s2b, s3, go_sem, ↓reduceIte, Nat.reduceEqDiff, Nat.reduceSub, Nat.reduceLeDiff, Nat.reduceAdd, Int.reduceEq, Int.reduceLT, Int.reduceLE]
            refine call_with (okMadeODG e) ?_
            simp only [s0, s1, s2, s3, decide_true, decide_false, Bool.true_and, Bool.false_and, Bool.and_true, Bool.and_false, Bool.and_self, Bool.not_true, Bool.not_false] at ez
            (try simp only [bK1, bK2, bK3, bK4, bK5, bK6, bK7, bK8]); simp (maxSteps := 10000000) (disch := omega) only [s0, s1b, s2b, s3, ez, go_sem, ↓reduceIte, Nat.reduceEqDiff, Nat.reduceSub, Nat.reduceLeDiff, Nat.reduceAdd, Int.reduceEq, Int.reduceLT, Int.reduceLE]))
  · have ez := check_8 hB hD hki
    by_cases s0 : 1 ≤ e.ward
    rotate_left
    · simp only [s0, decide_true, decide_false, Bool.true_and, Bool.false_and, Bool.and_true, Bool.and_false, Bool.and_self, Bool.not_true, Bool.not_false] at ez
      (try simp only [bK1, bK2, bK3, bK4, bK5, bK6, bK7, bK8]); simp (maxSteps := 10000000) (disch := omega) only [evE_len, hki, s0, ez, go_sem, ↓reduceIte, Nat.reduceEqDiff, Nat.reduceSub, Nat.reduceLeDiff, Nat.reduceAdd, Int.reduceEq, Int.reduceLT, Int.reduceLE]
    by_cases s1 : e.ward ≤ 4
    rotate_left
    · simp only [s0, s1, decide_true, decide_false, Bool.true_and, Bool.false_and, Bool.and_true, Bool.and_false, Bool.and_self, Bool.not_true, Bool.not_false] at ez
      (try simp only [bK1, bK2, bK3, bK4, bK5, bK6, bK7, bK8]); simp (maxSteps := 10000000) (disch := omega) only [evE_len, hki, s0, s1, ez, go_sem, ↓reduceIte, Nat.reduceEqDiff, Nat.reduceSub, Nat.reduceLeDiff, Nat.reduceAdd, Int.reduceEq, Int.reduceLT, Int.reduceLE]
    (try simp only [bK1, bK2, bK3, bK4, bK5, bK6, bK7, bK8]); simp (maxSteps := 10000000) (disch := omega) only [evE_len, hki, s0, s1, go_sem, ↓reduceIte, Nat.reduceEqDiff, Nat.reduceSub, Nat.reduceLeDiff, Nat.reduceAdd, Int.reduceEq, Int.reduceLT, Int.reduceLE]
    refine call_with (okMadeW e) ?_
    simp only [s0, s1, decide_true, decide_false, Bool.true_and, Bool.false_and, Bool.and_true, Bool.and_false, Bool.and_self, Bool.not_true, Bool.not_false] at ez
    (try simp only [bK1, bK2, bK3, bK4, bK5, bK6, bK7, bK8]); simp (maxSteps := 10000000) (disch := omega) only [s0, s1, ez, go_sem, ↓reduceIte, Nat.reduceEqDiff, Nat.reduceSub, Nat.reduceLeDiff, Nat.reduceAdd, Int.reduceEq, Int.reduceLT, Int.reduceLE]
  · have ez := check_9 hB hD hki
    (try simp only [bK1, bK2, bK3, bK4, bK5, bK6, bK7, bK8]); simp (maxSteps := 10000000) (disch := omega) only [evE_len, hki, go_sem, ↓reduceIte, Nat.reduceEqDiff, Nat.reduceSub, Nat.reduceLeDiff, Nat.reduceAdd, Int.reduceEq, Int.reduceLT, Int.reduceLE]
    refine call_with (okMadeN e) ?_
    simp only [decide_true, decide_false, Bool.true_and, Bool.false_and, Bool.and_true, Bool.and_false, Bool.and_self, Bool.not_true, Bool.not_false] at ez
    (try simp only [bK1, bK2, bK3, bK4, bK5, bK6, bK7, bK8]); simp (maxSteps := 10000000) (disch := omega) only [ez, go_sem, ↓reduceIte, Nat.reduceEqDiff, Nat.reduceSub, Nat.reduceLeDiff, Nat.reduceAdd, Int.reduceEq, Int.reduceLT, Int.reduceLE]
end Go.Proofs.Ytfkmlmckihmihaa.Fw
namespace Go.Proofs.Ytfkmlmckihmihaa.Fw
open Go.RowKit Go.Proofs
structure Msg where
 k : Int
 fr : Int
 to : Int
 kn : Vc
 tb : Nat → Vc
 f : Bool
 z : Nat
 evs : List Evt
def msgE (m : Msg) : List PV := [.i .i64 m.k, .i .i64 m.fr, .i .i64 m.to] ++ vE m.kn ++ tE m.tb ++ [.sl m.f m.z (m.evs.map evE)]
def segM (m : Msg) : List SV := [.pv (.i .i64 m.k), .pv (.i .i64 m.fr), .pv (.i .i64 m.to), .vec 8 (vE m.kn), .vec 64 (tE m.tb), .pv (.sl m.f m.z (m.evs.map evE))]
theorem msgE_len (m : Msg) : (msgE m).length = 76 := by simp [msgE, vE, tE, arrF]
theorem segM_cells (m : Msg) : SV.cellsL? (segM m) = some (msgE m) := rfl
theorem ld_ms0 (m : Msg) (K : KK) : LoadK (some (msgE m)) 0 1 false K = K (.pv (.i .i64 m.k)) [] := by
 simp only [LoadK, ldX, eq_iff_iff]
 exact ⟨fun h => h.2.2, fun h => ⟨by simp [msgE, vE, tE, arrF], .inr trivial, h⟩⟩
theorem ld_ms1 (m : Msg) (K : KK) : LoadK (some (msgE m)) 1 1 false K = K (.pv (.i .i64 m.fr)) [] := by
 simp only [LoadK, ldX, eq_iff_iff]
 exact ⟨fun h => h.2.2, fun h => ⟨by simp [msgE, vE, tE, arrF], .inr trivial, h⟩⟩
theorem ld_ms2 (m : Msg) (K : KK) : LoadK (some (msgE m)) 2 1 false K = K (.pv (.i .i64 m.to)) [] := by
 simp only [LoadK, ldX, eq_iff_iff]
 exact ⟨fun h => h.2.2, fun h => ⟨by simp [msgE, vE, tE, arrF], .inr trivial, h⟩⟩
theorem ld_ms75 (m : Msg) (K : KK) : LoadK (some (msgE m)) 75 1 false K = K (.pv (.sl m.f m.z (m.evs.map evE))) [] := by
 simp only [LoadK, ldX, eq_iff_iff]
 exact ⟨fun h => h.2.2, fun h => ⟨by simp [msgE, vE, tE, arrF], .inr trivial, h⟩⟩
theorem ld_msK (m : Msg) (K : KK) : LoadK (some (msgE m)) 3 8 true K = K (.vec 8 (vE m.kn)) [] := by
 simp only [LoadK, ldX, eq_iff_iff]
 exact ⟨fun h => h.2.2, fun h => ⟨by simp [msgE, vE, tE, arrF], .inl trivial, h⟩⟩
theorem ld_msT (m : Msg) (K : KK) : LoadK (some (msgE m)) 11 64 true K = K (.vec 64 (tE m.tb)) [] := by
 simp only [LoadK, ldX, eq_iff_iff]
 exact ⟨fun h => h.2.2, fun h => ⟨by simp [msgE, vE, tE, arrF], .inl trivial, h⟩⟩
theorem ld_ms (m : Msg) (K : KK) : LoadK (some (msgE m)) 0 76 true K = K (.vec 76 (msgE m)) [] := load_whole (msgE_len m) K
attribute [go_sem] ld_ms0 ld_ms1 ld_ms2 ld_ms75 ld_msK ld_msT ld_ms msgE_len
theorem kL_sgM (n : Nat) (m : Msg) : SV.killL n (segM m) = segM m := rfl
theorem wL_sgM (m : Msg) : SV.widthL (segM m) = 76 := rfl
theorem fbL_sgM (m : Msg) : SV.flatBL (segM m) = true := rfl
theorem frL_sgM (n : Nat) (v : PV) (m : Msg) : SV.frzL n v (segM m) = segM m := rfl
attribute [go_sem] kL_sgM wL_sgM fbL_sgM frL_sgM
def mv (m : Msg) : Prop := (m.evs = [] ∨ m.z = 21) ∧ m.evs.length ≤ 1000 ∧ (∀ e ∈ m.evs, ev e ∧ ∀ i, i < 8 → e.dep i < 4294967296) ∧ (∀ i, i < 8 → m.kn i < 4294967296) ∧ ∀ i, i < 8 → ∀ j, j < 8 → m.tb i j < 4294967296
def HeadM (m : Msg) : Prop := (m.k = 1 ∨ m.k = 2) ∧ (1 ≤ m.fr ∧ m.fr ≤ 8) ∧ (1 ≤ m.to ∧ m.to ≤ 8) ∧ m.fr ≠ m.to ∧ m.evs.length ≤ 8 ∧ (m.k = 1 → m.evs.length = 0)
noncomputable def checkM (m : Msg) : Bool := open Classical in decide (HeadM m) && m.evs.all checkB
theorem checkM_h {m : Msg} (h : ¬ HeadM m) : checkM m = false := by simp [checkM, h]
theorem checkM_e {m : Msg} (h : HeadM m) : checkM m = m.evs.all checkB := by simp [checkM, h]
def repB (n : Int) : Bool := decide (1 ≤ n ∧ n ≤ 8)
theorem okRepM (n : Int) {h d} : FunOk Try.prog 54 [.pv (.i .i64 n)] h d (.pv (.b (repB n))) [] := by
 refine fun_pure mixed fn54 (by simp) rfl rfl fun F => ?_
 by_cases h1 : 1 ≤ n
 · have e : repB n = decide (n ≤ 8) := by simp [repB, h1]
   (try simp only [bK1, bK2, bK3, bK4, bK5, bK6, bK7, bK8]); simp (maxSteps := 10000000) (disch := omega) only [ir54, h1, e, go_sem, ↓reduceIte, Nat.reduceEqDiff, Nat.reduceSub, Nat.reduceLeDiff, Nat.reduceAdd, Int.reduceEq, Int.reduceLT, Int.reduceLE]
 · have e : repB n = false := by simp [repB, h1]
   (try simp only [bK1, bK2, bK3, bK4, bK5, bK6, bK7, bK8]); simp (maxSteps := 10000000) (disch := omega) only [ir54, h1, e, go_sem, ↓reduceIte, Nat.reduceEqDiff, Nat.reduceSub, Nat.reduceLeDiff, Nat.reduceAdd, Int.reduceEq, Int.reduceLT, Int.reduceLE]
theorem okBadM (e : Evt) (he : ev e) {h d} : FunOk Try.prog 56 [.vec 21 (evE e)] h d (.pv (.b (!checkB e))) [] := by
 refine fun_pure mixed fn56 (by simp) rfl rfl fun F => ?_
 (try simp only [bK1, bK2, bK3, bK4, bK5, bK6, bK7, bK8]); simp (maxSteps := 10000000) (disch := omega) only [ir56, go_sem, ↓reduceIte, Nat.reduceEqDiff, Nat.reduceSub, Nat.reduceLeDiff, Nat.reduceAdd, Int.reduceEq, Int.reduceLT, Int.reduceLE]
 refine call_with (okCheck e he) ?_
 (try simp only [bK1, bK2, bK3, bK4, bK5, bK6, bK7, bK8]); simp (maxSteps := 10000000) (disch := omega) only [go_sem, ↓reduceIte, Nat.reduceEqDiff, Nat.reduceSub, Nat.reduceLeDiff, Nat.reduceAdd, Int.reduceEq, Int.reduceLT, Int.reduceLE]
def stIdxM (f : Bool) (z : Nat) (l : List Evt) (k : Nat) : FS := mk [(8, .pv (.i .i64 k)), (7, .pv (.i .i64 l.length)), (0, .pv (.sl f z (l.map evE))), (1, .fn (.func 56) [])] []
theorem okIndexM {f : Bool} {z : Nat} {l : List Evt} (hz : l = [] ∨ z = 21) (hl : ∀ e ∈ l, ev e) (hn : l.length ≤ 1000) :
 ∃ n : Int, (0 ≤ n ↔ l.all checkB = false) ∧ ∀ h d, FunOk Try.prog 68 [.pv (.sl f z (l.map evE)), .fn (.func 56) []] h d (.pv (.i .i64 n)) [] := by
 refine ⟨if l.findIdx (fun e => !checkB e) < l.length then (l.findIdx (fun e => !checkB e) : Int) else -1, ?_, ?_⟩
 · by_cases hi : l.findIdx (fun e => !checkB e) < l.length
   · rw [if_pos hi]
     obtain ⟨x, hx, hp⟩ := List.findIdx_lt_length.1 hi
     refine ⟨fun _ => ?_, fun _ => by omega⟩
     rw [List.all_eq_false]
     exact ⟨x, hx, by simpa using hp⟩
   · rw [if_neg hi]
     refine ⟨fun h => by omega, fun h => ?_⟩
     rw [List.all_eq_false] at h
     obtain ⟨x, hx, hp⟩ := h
     exact absurd (List.findIdx_lt_length.2 ⟨x, hx, by simpa using hp⟩) hi
 intro h d
 refine fun_pure mixed fn68 (by simp) rfl rfl fun F => ?_
 (try simp only [bK1, bK2, bK3, bK4, bK5, bK6, bK7, bK8]); simp (maxSteps := 10000000) (disch := omega) only [ir68, List.length_map, go_sem, ↓reduceIte, Nat.reduceEqDiff, Nat.reduceSub, Nat.reduceLeDiff, Nat.reduceAdd, Int.reduceEq, Int.reduceLT, Int.reduceLE]
 refine loop_ok mixed (stIdxM f z l) (fun k => k ≤ l.length ∧ ∀ j, (hj : j < l.length) → j < k → checkB l[j] = true) (fun k => l.length - k) 0 (by simp) (weak_mk ?_ ?_) fun k hk => ?_
 · (try simp only [bK1, bK2, bK3, bK4, bK5, bK6, bK7, bK8]); simp (maxSteps := 10000000) (disch := omega) only [go_sem, ↓reduceIte, Nat.reduceEqDiff, Nat.reduceSub, Nat.reduceLeDiff, Nat.reduceAdd, Int.reduceEq, Int.reduceLT, Int.reduceLE]
 · (try simp only [bK1, bK2, bK3, bK4, bK5, bK6, bK7, bK8]); simp (maxSteps := 10000000) (disch := omega) only [go_sem, ↓reduceIte, Nat.reduceEqDiff, Nat.reduceSub, Nat.reduceLeDiff, Nat.reduceAdd, Int.reduceEq, Int.reduceLT, Int.reduceLE]
 obtain ⟨hk1, hk2⟩ := hk
 by_cases hlt : k < l.length
 · have hz2 : z = 21 := hz.resolve_left fun e => by subst e; simp at hlt
   subst hz2
   have he : (l.map evE)[k]? = some (evE l[k]) := by simp [hlt]
   have hv := evE_len l[k]
   (try simp only [bK1, bK2, bK3, bK4, bK5, bK6, bK7, bK8]); simp (maxSteps := 10000000) (disch := omega) only [stIdxM, List.length_map, he, ld_ev, go_sem, ↓reduceIte, Nat.reduceEqDiff, Nat.reduceSub, Nat.reduceLeDiff, Nat.reduceAdd, Int.reduceEq, Int.reduceLT, Int.reduceLE]
   refine call_with (okBadM l[k] (hl _ (List.getElem_mem hlt))) ?_
   by_cases hp : checkB l[k] = true
   · (try simp only [bK1, bK2, bK3, bK4, bK5, bK6, bK7, bK8]); simp (maxSteps := 10000000) (disch := omega) only [hp, go_sem, ↓reduceIte, Nat.reduceEqDiff, Nat.reduceSub, Nat.reduceLeDiff, Nat.reduceAdd, Int.reduceEq, Int.reduceLT, Int.reduceLE]
     refine loop_next (k + 1) _ _ rfl ⟨by omega, fun j hj hjk => ?_⟩ (by omega) ?_ ?_
     · by_cases e : j = k
       · subst e; exact hp
       · exact hk2 j hj (by omega)
     · (try simp only [bK1, bK2, bK3, bK4, bK5, bK6, bK7, bK8]); simp (maxSteps := 10000000) (disch := omega) only [go_sem, ↓reduceIte, Nat.reduceEqDiff, Nat.reduceSub, Nat.reduceLeDiff, Nat.reduceAdd, Int.reduceEq, Int.reduceLT, Int.reduceLE]
     · (try simp only [bK1, bK2, bK3, bK4, bK5, bK6, bK7, bK8]); simp (maxSteps := 10000000) (disch := omega) only [go_sem, ↓reduceIte, Nat.reduceEqDiff, Nat.reduceSub, Nat.reduceLeDiff, Nat.reduceAdd, Int.reduceEq, Int.reduceLT, Int.reduceLE]
   · have hp' : checkB l[k] = false := by simpa using hp
     have e : l.findIdx (fun e => !checkB e) = k := (List.findIdx_eq hlt).2 ⟨by simp [hp'], fun j hj => by simp [hk2 j (by omega) hj]⟩
     (try simp only [bK1, bK2, bK3, bK4, bK5, bK6, bK7, bK8]); simp (maxSteps := 10000000) (disch := omega) only [hp', e, hlt, go_sem, ↓reduceIte, Nat.reduceEqDiff, Nat.reduceSub, Nat.reduceLeDiff, Nat.reduceAdd, Int.reduceEq, Int.reduceLT, Int.reduceLE]
 · obtain rfl : k = l.length := by omega
   have e : l.findIdx (fun e => !checkB e) = l.length := List.findIdx_eq_length.2 fun x hx => by
    obtain ⟨j, hj, rfl⟩ := List.getElem_of_mem hx
    simp [hk2 j hj hj]
   (try simp only [bK1, bK2, bK3, bK4, bK5, bK6, bK7, bK8]); simp (maxSteps := 10000000) (disch := omega) only [stIdxM, e, hlt, go_sem, ↓reduceIte, Nat.reduceEqDiff, Nat.reduceSub, Nat.reduceLeDiff, Nat.reduceAdd, Int.reduceEq, Int.reduceLT, Int.reduceLE]
theorem okContM {f : Bool} {z : Nat} {l : List Evt} (hz : l = [] ∨ z = 21) (hl : ∀ e ∈ l, ev e) (hn : l.length ≤ 1000) {h d} :
 FunOk Try.prog 55 [.pv (.sl f z (l.map evE)), .fn (.func 56) []] h d (.pv (.b (!l.all checkB))) [] := by
 refine fun_pure mixed fn55 (by simp) rfl rfl fun F => ?_
 (try simp only [bK1, bK2, bK3, bK4, bK5, bK6, bK7, bK8]); simp (maxSteps := 10000000) (disch := omega) only [ir55, go_sem, ↓reduceIte, Nat.reduceEqDiff, Nat.reduceSub, Nat.reduceLeDiff, Nat.reduceAdd, Int.reduceEq, Int.reduceLT, Int.reduceLE]
 obtain ⟨n, hn', hc⟩ := okIndexM (f := f) (z := z) hz hl hn
 refine call_with (hc _ _) ?_
 cases ha : l.all checkB
 · have h0 : 0 ≤ n := hn'.2 ha
   (try simp only [bK1, bK2, bK3, bK4, bK5, bK6, bK7, bK8]); simp (maxSteps := 10000000) (disch := omega) only [h0, go_sem, ↓reduceIte, Nat.reduceEqDiff, Nat.reduceSub, Nat.reduceLeDiff, Nat.reduceAdd, Int.reduceEq, Int.reduceLT, Int.reduceLE]
 · have h0 : ¬ 0 ≤ n := fun h => by rw [hn'.1 h] at ha; cases ha
   (try simp only [bK1, bK2, bK3, bK4, bK5, bK6, bK7, bK8]); simp (maxSteps := 10000000) (disch := omega) only [h0, go_sem, ↓reduceIte, Nat.reduceEqDiff, Nat.reduceSub, Nat.reduceLeDiff, Nat.reduceAdd, Int.reduceEq, Int.reduceLT, Int.reduceLE]
set_option maxHeartbeats 8000000 in
theorem okCheckM (m : Msg) (hm : mv m) {h d} : FunOk Try.prog 44 [.vec 76 (msgE m)] h d (.pv (.b (checkM m))) [] := by
 refine fun_pure mixed fn44 (by simp) rfl rfl fun F => ?_
 obtain ⟨h1, h2, h3, h4, h5⟩ := hm
 by_cases k1 : m.k = 1 ∨ m.k = 2
 rotate_left
 · have e := checkM_h (m := m) fun h => k1 h.1
   have n1 : ¬ m.k = 1 := fun h => k1 (.inl h)
   have n2 : ¬ m.k = 2 := fun h => k1 (.inr h)
   (try simp only [bK1, bK2, bK3, bK4, bK5, bK6, bK7, bK8]); simp (maxSteps := 10000000) (disch := omega) only [ir44, List.length_map, n1, n2, e, go_sem, ↓reduceIte, Nat.reduceEqDiff, Nat.reduceSub, Nat.reduceLeDiff, Nat.reduceAdd, Int.reduceEq, Int.reduceLT, Int.reduceLE]
 rcases k1 with hk | hk
 ·
  (try simp only [bK1, bK2, bK3, bK4, bK5, bK6, bK7, bK8]); simp (maxSteps := 10000000) (disch := omega) only [ir44, List.length_map, hk, go_sem, ↓reduceIte, Nat.reduceEqDiff, Nat.reduceSub, Nat.reduceLeDiff, Nat.reduceAdd, Int.reduceEq, Int.reduceLT, Int.reduceLE]
  refine call_with (okRepM m.fr) ?_
  by_cases r1 : 1 ≤ m.fr ∧ m.fr ≤ 8
  rotate_left
  · have e := checkM_h (m := m) fun h => r1 h.2.1
    have er : repB m.fr = false := by simp only [repB, r1, decide_false]
    (try simp only [bK1, bK2, bK3, bK4, bK5, bK6, bK7, bK8]); simp (maxSteps := 10000000) (disch := omega) only [er, e, go_sem, ↓reduceIte, Nat.reduceEqDiff, Nat.reduceSub, Nat.reduceLeDiff, Nat.reduceAdd, Int.reduceEq, Int.reduceLT, Int.reduceLE]
  have er : repB m.fr = true := by simp only [repB, r1, and_self, decide_true]
  (try simp only [bK1, bK2, bK3, bK4, bK5, bK6, bK7, bK8]); simp (maxSteps := 10000000) (disch := omega) only [er, go_sem, ↓reduceIte, Nat.reduceEqDiff, Nat.reduceSub, Nat.reduceLeDiff, Nat.reduceAdd, Int.reduceEq, Int.reduceLT, Int.reduceLE]
  refine call_with (okRepM m.to) ?_
  by_cases r2 : 1 ≤ m.to ∧ m.to ≤ 8
  rotate_left
  · have e := checkM_h (m := m) fun h => r2 h.2.2.1
    have er : repB m.to = false := by simp only [repB, r2, decide_false]
    (try simp only [bK1, bK2, bK3, bK4, bK5, bK6, bK7, bK8]); simp (maxSteps := 10000000) (disch := omega) only [er, e, go_sem, ↓reduceIte, Nat.reduceEqDiff, Nat.reduceSub, Nat.reduceLeDiff, Nat.reduceAdd, Int.reduceEq, Int.reduceLT, Int.reduceLE]
  have er : repB m.to = true := by simp only [repB, r2, and_self, decide_true]
  by_cases r3 : m.fr = m.to
  · have e := checkM_h (m := m) fun h => h.2.2.2.1 r3
    (try simp only [bK1, bK2, bK3, bK4, bK5, bK6, bK7, bK8]); simp (maxSteps := 10000000) (disch := omega) only [er, r3, e, go_sem, ↓reduceIte, Nat.reduceEqDiff, Nat.reduceSub, Nat.reduceLeDiff, Nat.reduceAdd, Int.reduceEq, Int.reduceLT, Int.reduceLE]
  by_cases r4 : (8 : Int) < (m.evs.length : Int)
  · have e := checkM_h (m := m) fun h => by have := h.2.2.2.2.1; omega
    (try simp only [bK1, bK2, bK3, bK4, bK5, bK6, bK7, bK8]); simp (maxSteps := 10000000) (disch := omega) only [er, r3, r4, e, go_sem, ↓reduceIte, Nat.reduceEqDiff, Nat.reduceSub, Nat.reduceLeDiff, Nat.reduceAdd, Int.reduceEq, Int.reduceLT, Int.reduceLE]
  by_cases r5 : (0 : Int) < (m.evs.length : Int)
  · have e := checkM_h (m := m) fun h => by have := h.2.2.2.2.2 hk; omega
    (try simp only [bK1, bK2, bK3, bK4, bK5, bK6, bK7, bK8]); simp (maxSteps := 10000000) (disch := omega) only [er, r3, r4, hk, r5, e, List.length_map, go_sem, ↓reduceIte, Nat.reduceEqDiff, Nat.reduceSub, Nat.reduceLeDiff, Nat.reduceAdd, Int.reduceEq, Int.reduceLT, Int.reduceLE]
  have e := checkM_e (m := m) ⟨.inl hk, r1, r2, r3, by omega, fun _ => by omega⟩
  (try simp only [bK1, bK2, bK3, bK4, bK5, bK6, bK7, bK8]); simp (maxSteps := 10000000) (disch := omega) only [er, r3, r4, hk, r5, List.length_map, go_sem, ↓reduceIte, Nat.reduceEqDiff, Nat.reduceSub, Nat.reduceLeDiff, Nat.reduceAdd, Int.reduceEq, Int.reduceLT, Int.reduceLE]
  refine call_with (okContM h1 (fun e he => (h3 e he).1) h2) ?_
  (try simp only [bK1, bK2, bK3, bK4, bK5, bK6, bK7, bK8]); simp (maxSteps := 10000000) (disch := omega) only [e, Bool.not_not, go_sem, ↓reduceIte, Nat.reduceEqDiff, Nat.reduceSub, Nat.reduceLeDiff, Nat.reduceAdd, Int.reduceEq, Int.reduceLT, Int.reduceLE]
 ·
  (try simp only [bK1, bK2, bK3, bK4, bK5, bK6, bK7, bK8]); simp (maxSteps := 10000000) (disch := omega) only [ir44, List.length_map, hk, go_sem, ↓reduceIte, Nat.reduceEqDiff, Nat.reduceSub, Nat.reduceLeDiff, Nat.reduceAdd, Int.reduceEq, Int.reduceLT, Int.reduceLE]
  refine call_with (okRepM m.fr) ?_
  by_cases r1 : 1 ≤ m.fr ∧ m.fr ≤ 8
  rotate_left
  · have e := checkM_h (m := m) fun h => r1 h.2.1
    have er : repB m.fr = false := by simp only [repB, r1, decide_false]
    (try simp only [bK1, bK2, bK3, bK4, bK5, bK6, bK7, bK8]); simp (maxSteps := 10000000) (disch := omega) only [er, e, go_sem, ↓reduceIte, Nat.reduceEqDiff, Nat.reduceSub, Nat.reduceLeDiff, Nat.reduceAdd, Int.reduceEq, Int.reduceLT, Int.reduceLE]
  have er : repB m.fr = true := by simp only [repB, r1, and_self, decide_true]
  (try simp only [bK1, bK2, bK3, bK4, bK5, bK6, bK7, bK8]); simp (maxSteps := 10000000) (disch := omega) only [er, go_sem, ↓reduceIte, Nat.reduceEqDiff, Nat.reduceSub, Nat.reduceLeDiff, Nat.reduceAdd, Int.reduceEq, Int.reduceLT, Int.reduceLE]
  refine call_with (okRepM m.to) ?_
  by_cases r2 : 1 ≤ m.to ∧ m.to ≤ 8
  rotate_left
  · have e := checkM_h (m := m) fun h => r2 h.2.2.1
    have er : repB m.to = false := by simp only [repB, r2, decide_false]
    (try simp only [bK1, bK2, bK3, bK4, bK5, bK6, bK7, bK8]); simp (maxSteps := 10000000) (disch := omega) only [er, e, go_sem, ↓reduceIte, Nat.reduceEqDiff, Nat.reduceSub, Nat.reduceLeDiff, Nat.reduceAdd, Int.reduceEq, Int.reduceLT, Int.reduceLE]
  have er : repB m.to = true := by simp only [repB, r2, and_self, decide_true]
  by_cases r3 : m.fr = m.to
  · have e := checkM_h (m := m) fun h => h.2.2.2.1 r3
    (try simp only [bK1, bK2, bK3, bK4, bK5, bK6, bK7, bK8]); simp (maxSteps := 10000000) (disch := omega) only [er, r3, e, go_sem, ↓reduceIte, Nat.reduceEqDiff, Nat.reduceSub, Nat.reduceLeDiff, Nat.reduceAdd, Int.reduceEq, Int.reduceLT, Int.reduceLE]
  by_cases r4 : (8 : Int) < (m.evs.length : Int)
  · have e := checkM_h (m := m) fun h => by have := h.2.2.2.2.1; omega
    (try simp only [bK1, bK2, bK3, bK4, bK5, bK6, bK7, bK8]); simp (maxSteps := 10000000) (disch := omega) only [er, r3, r4, e, go_sem, ↓reduceIte, Nat.reduceEqDiff, Nat.reduceSub, Nat.reduceLeDiff, Nat.reduceAdd, Int.reduceEq, Int.reduceLT, Int.reduceLE]
  have e := checkM_e (m := m) ⟨.inr hk, r1, r2, r3, by omega, fun h => by omega⟩
  (try simp only [bK1, bK2, bK3, bK4, bK5, bK6, bK7, bK8]); simp (maxSteps := 10000000) (disch := omega) only [er, r3, r4, hk, List.length_map, go_sem, ↓reduceIte, Nat.reduceEqDiff, Nat.reduceSub, Nat.reduceLeDiff, Nat.reduceAdd, Int.reduceEq, Int.reduceLT, Int.reduceLE]
  refine call_with (okContM h1 (fun e he => (h3 e he).1) h2) ?_
  (try simp only [bK1, bK2, bK3, bK4, bK5, bK6, bK7, bK8]); simp (maxSteps := 10000000) (disch := omega) only [e, Bool.not_not, go_sem, ↓reduceIte, Nat.reduceEqDiff, Nat.reduceSub, Nat.reduceLeDiff, Nat.reduceAdd, Int.reduceEq, Int.reduceLT, Int.reduceLE]
end Go.Proofs.Ytfkmlmckihmihaa.Fw
namespace Go.Proofs.Ytfkmlmckihmihaa.Fw
open Go.RowKit Go.Proofs
abbrev v0 : Vc := fun _ => 0
theorem shrinkM_len (v base : Vc) (hv : ∀ i, i < 8 → v i < 4294967296) (hb : ∀ i, i < 8 → base i < 4294967296) : (shrinkB v base).length ≤ 42 := by
 have := byTo_len v base hv hb 8 (by omega)
 simp [shrinkB]; omega
def headB (m : Msg) : List UInt8 := [UInt8.ofNat m.k.toNat, UInt8.ofNat m.fr.toNat, UInt8.ofNat m.to.toNat]
def rowsB (m : Msg) (k : Nat) : List (List UInt8) := (List.range k).map fun i => shrinkB (m.tb i) m.kn
def fldM (m : Msg) (k j : Nat) : List (List UInt8) := [headB m, shrinkB m.kn v0] ++ (rowsB m k ++ (m.evs.take j).map evB)
def fieldsM (m : Msg) : List (List UInt8) := [headB m, shrinkB m.kn v0] ++ (rowsB m 8 ++ m.evs.map evB)
def writeM (m : Msg) : List UInt8 := packB (fieldsM m)
theorem rowsB_succ (m : Msg) (k : Nat) : rowsB m (k + 1) = rowsB m k ++ [shrinkB (m.tb k) m.kn] := by simp [rowsB, List.range_succ]
theorem head_of {m : Msg} (hc : checkM m = true) : HeadM m := Classical.byContradiction fun hn => by rw [checkM_h hn] at hc; cases hc
theorem evs_of {m : Msg} (hc : checkM m = true) : ∀ e ∈ m.evs, checkB e = true := by
 rw [checkM_e (head_of hc), List.all_eq_true] at hc; exact hc
theorem fldM_len (m : Msg) (k j : Nat) : (fldM m k j).length = 2 + k + min j m.evs.length := by simp [fldM, rowsB]; omega
theorem fldM_row (m : Msg) (k : Nat) : (fldM m (k + 1) 0).map bE = (fldM m k 0).map bE ++ [[PV.sl false 1 (bytesE (shrinkB (m.tb k) m.kn))]] := by
 simp [fldM, rowsB_succ, bE]
theorem fldM_ev {m : Msg} {j : Nat} (h : j < m.evs.length) : (fldM m 8 (j + 1)).map bE = (fldM m 8 j).map bE ++ [[PV.sl false 1 (bytesE (evB m.evs[j]))]] := by
 simp only [fldM, List.take_add_one, List.getElem?_eq_getElem h, List.map_append, List.map_cons, List.map_nil, Option.toList_some, bE, List.append_assoc, List.cons_append, List.nil_append]
theorem fldM_all (m : Msg) : fldM m 8 m.evs.length = fieldsM m := by simp [fldM, fieldsM]
theorem evB_le {e : Evt} (h : checkB e = true) : (evB e).length ≤ 3636 := Nat.le_trans (packB_len _) (fields_pack (good_of_check h))
theorem packLen_le {L : List (List UInt8)} {c : Nat} (h : ∀ b ∈ L, b.length ≤ c) : packLen L ≤ (c + 3) * L.length := by
 induction L with
 | nil => simp [packLen]
 | cons b l ih =>
   have h1 := h b List.mem_cons_self
   have h2 := ih fun x hx => h x (List.mem_cons_of_mem _ hx)
   simp only [packLen, List.length_cons, Nat.mul_add, Nat.mul_one]
   omega
theorem fieldsM_le {m : Msg} (hm : mv m) (hc : checkM m = true) : ∀ b ∈ fieldsM m, b.length ≤ 3636 := fun b hb => by
 obtain ⟨h1, h2, h3, h4, h5⟩ := hm
 have v0ok : ∀ i, i < 8 → v0 i < 4294967296 := fun i _ => by show 0 < _; omega
 simp only [fieldsM, rowsB, List.mem_append, List.mem_cons, List.not_mem_nil, or_false, List.mem_map, List.mem_range] at hb
 rcases hb with (hb | hb) | ⟨i, hi, hb⟩ | ⟨e, he, hb⟩
 · subst hb; simp [headB]
 · subst hb; have := shrinkM_len m.kn v0 h4 v0ok; omega
 · subst hb; have := shrinkM_len (m.tb i) m.kn (h5 i hi) h4; omega
 · subst hb; exact evB_le (evs_of hc e he)
theorem fieldsM_len (m : Msg) : (fieldsM m).length = 10 + m.evs.length := by simp [fieldsM, rowsB]; omega
theorem fieldsM_pack {m : Msg} (hm : mv m) (hc : checkM m = true) : packLen (fieldsM m) ≤ 65502 := by
 have h1 := packLen_le (fieldsM_le hm hc)
 have h2 := (head_of hc).2.2.2.2.1
 have h3 := fieldsM_len m
 rw [h3] at h1
 omega
theorem okWriteM_bad (m : Msg) (hm : mv m) (hc : checkM m = false) {h d} : FunOk Try.prog 29 [.vec 76 (msgE m)] h d (.tup [.pv (.sl true 0 []), .pv (.i .i64 7)]) [] := by
 refine fun_pure mixed fn29 (by simp) rfl rfl fun F => ?_
 (try simp only [bK1, bK2, bK3, bK4, bK5, bK6, bK7, bK8]); simp (maxSteps := 10000000) (disch := omega) only [ir29, go_sem, ↓reduceIte, Nat.reduceEqDiff, Nat.reduceSub, Nat.reduceLeDiff, Nat.reduceAdd, Int.reduceEq, Int.reduceLT, Int.reduceLE]
 refine call_with (okCheckM m hm) ?_
 (try simp only [bK1, bK2, bK3, bK4, bK5, bK6, bK7, bK8]); simp (maxSteps := 10000000) (disch := omega) only [hc, go_sem, ↓reduceIte, Nat.reduceEqDiff, Nat.reduceSub, Nat.reduceLeDiff, Nat.reduceAdd, Int.reduceEq, Int.reduceLT, Int.reduceLE]
def stWM (m : Msg) (k : Nat) : FS := mk [(31, .pv (.i .i64 k)), (30, .vec 64 (tE m.tb)), (4, .os 50), (1, .p 1 0)] [(1, some (.var (.vec 76 (msgE m)))), (50, some (.row 1 ((fldM m k 0).map bE)))]
def stWE (m : Msg) (k : Nat) : FS := mk [(45, .pv (.i .i64 k)), (44, .pv (.i .i64 m.evs.length)), (43, .pv (.sl m.f m.z (m.evs.map evE))), (4, .os 50), (1, .p 1 0)] [(1, some (.var (.vec 76 (msgE m)))), (50, some (.row 1 ((fldM m 8 k).map bE)))]
theorem byteW {n : Int} (h0 : 0 ≤ n) (h1 : n ≤ 8) : IntKind.u8.wrap n = ((UInt8.ofNat n.toNat).toNat : Int) := by
 obtain ⟨k, rfl⟩ : ∃ k : Nat, n = k := ⟨n.toNat, by omega⟩
 rw [Int.toNat_natCast]; exact wrap_u8_nat k
set_option maxHeartbeats 8000000 in
theorem okWriteM (m : Msg) (hm : mv m) (hc : checkM m = true) {h d} : FunOk Try.prog 29 [.vec 76 (msgE m)] h d (.tup [.os d, .pv (.i .i64 0)]) [.new d (.row 1 (bytesE (writeM m)))] := by
 refine fun_row2 mixed fn29 (by simp) rfl (.inr (bytesE_all _)) rfl fun F => ?_
 have hH := head_of hc
 have hE := evs_of hc
 obtain ⟨h1, h2, h3, h4, h5⟩ := id hm
 obtain ⟨q1, q2, q3, q4, q5, q6⟩ := hH
 have w1 := byteW (n := m.k) (by omega) (by omega)
 have w2 := byteW (n := m.fr) (by omega) (by omega)
 have w3 := byteW (n := m.to) (by omega) (by omega)
 (try simp only [bK1, bK2, bK3, bK4, bK5, bK6, bK7, bK8]); simp (maxSteps := 10000000) (disch := omega) only [ir29, go_sem, ↓reduceIte, Nat.reduceEqDiff, Nat.reduceSub, Nat.reduceLeDiff, Nat.reduceAdd, Int.reduceEq, Int.reduceLT, Int.reduceLE]
 refine call_with (okCheckM m hm) ?_
 (try simp only [bK1, bK2, bK3, bK4, bK5, bK6, bK7, bK8]); simp (maxSteps := 10000000) (disch := omega) only [hc, w1, w2, w3, go_sem, ↓reduceIte, Nat.reduceEqDiff, Nat.reduceSub, Nat.reduceLeDiff, Nat.reduceAdd, Int.reduceEq, Int.reduceLT, Int.reduceLE]
 have v0ok : ∀ i, i < 8 → v0 i < 4294967296 := fun i _ => by show 0 < _; omega
 refine call_with (okShrink m.kn v0 h4 v0ok) ?_
 have e1 : [[PV.i IntKind.u8 ((UInt8.ofNat m.k.toNat).toNat : Int)], [PV.i IntKind.u8 ((UInt8.ofNat m.fr.toNat).toNat : Int)], [PV.i IntKind.u8 ((UInt8.ofNat m.to.toNat).toNat : Int)]] = bytesE (headB m) := rfl
 (try simp only [bK1, bK2, bK3, bK4, bK5, bK6, bK7, bK8]); simp (maxSteps := 10000000) (disch := omega) only [e1, go_sem, ↓reduceIte, Nat.reduceEqDiff, Nat.reduceSub, Nat.reduceLeDiff, Nat.reduceAdd, Int.reduceEq, Int.reduceLT, Int.reduceLE]
 refine loop_ok mixed (stWM m) (fun k => k ≤ 8) (fun k => 8 - k) 0 (by simp) (wk_ren 28 50 (by decide) rfl (weak_mk ?_ ?_)) fun k hk => ?_
 · (try simp only [bK1, bK2, bK3, bK4, bK5, bK6, bK7, bK8]); simp (maxSteps := 10000000) (disch := omega) only [go_sem, ↓reduceIte, Nat.reduceEqDiff, Nat.reduceSub, Nat.reduceLeDiff, Nat.reduceAdd, Int.reduceEq, Int.reduceLT, Int.reduceLE]
 · (try simp only [bK1, bK2, bK3, bK4, bK5, bK6, bK7, bK8]); simp (maxSteps := 10000000) (disch := omega) only [go_sem, ↓reduceIte, Nat.reduceEqDiff, Nat.reduceSub, Nat.reduceLeDiff, Nat.reduceAdd, Int.reduceEq, Int.reduceLT, Int.reduceLE]
   rfl
 by_cases hlt : k < 8
 · have hr := rowsB_succ m k
   (try simp only [bK1, bK2, bK3, bK4, bK5, bK6, bK7, bK8]); simp (maxSteps := 10000000) (disch := omega) only [stWM, hlt, go_sem, ↓reduceIte, Nat.reduceEqDiff, Nat.reduceSub, Nat.reduceLeDiff, Nat.reduceAdd, Int.reduceEq, Int.reduceLT, Int.reduceLE]
   refine call_with (okShrink (m.tb k) m.kn (h5 k hlt) h4) ?_
   have hl := fldM_len m k 0
   have hf := fldM_row m k
   (try simp only [bK1, bK2, bK3, bK4, bK5, bK6, bK7, bK8]); simp (maxSteps := 10000000) (disch := omega) only [List.length_map, go_sem, ↓reduceIte, Nat.reduceEqDiff, Nat.reduceSub, Nat.reduceLeDiff, Nat.reduceAdd, Int.reduceEq, Int.reduceLT, Int.reduceLE]
   refine ⟨k + 1, by omega, by omega, wk_ren 40 50 (by decide) rfl (weak_mk ?_ ?_)⟩
   · (try simp only [bK1, bK2, bK3, bK4, bK5, bK6, bK7, bK8]); simp (maxSteps := 10000000) (disch := omega) only [go_sem, ↓reduceIte, Nat.reduceEqDiff, Nat.reduceSub, Nat.reduceLeDiff, Nat.reduceAdd, Int.reduceEq, Int.reduceLT, Int.reduceLE]
   · (try simp only [bK1, bK2, bK3, bK4, bK5, bK6, bK7, bK8]); simp (maxSteps := 10000000) (disch := omega) only [hf, go_sem, ↓reduceIte, Nat.reduceEqDiff, Nat.reduceSub, Nat.reduceLeDiff, Nat.reduceAdd, Int.reduceEq, Int.reduceLT, Int.reduceLE]
 obtain rfl : k = 8 := by omega
 (try simp only [bK1, bK2, bK3, bK4, bK5, bK6, bK7, bK8]); simp (maxSteps := 10000000) (disch := omega) only [stWM, List.length_map, go_sem, ↓reduceIte, Nat.reduceEqDiff, Nat.reduceSub, Nat.reduceLeDiff, Nat.reduceAdd, Int.reduceEq, Int.reduceLT, Int.reduceLE]
 refine loop_ok mixed (stWE m) (fun k => k ≤ m.evs.length) (fun k => m.evs.length - k) 0 (by simp) (weak_mk ?_ ?_) fun j hj => ?_
 · (try simp only [bK1, bK2, bK3, bK4, bK5, bK6, bK7, bK8]); simp (maxSteps := 10000000) (disch := omega) only [go_sem, ↓reduceIte, Nat.reduceEqDiff, Nat.reduceSub, Nat.reduceLeDiff, Nat.reduceAdd, Int.reduceEq, Int.reduceLT, Int.reduceLE]
 · (try simp only [bK1, bK2, bK3, bK4, bK5, bK6, bK7, bK8]); simp (maxSteps := 10000000) (disch := omega) only [go_sem, ↓reduceIte, Nat.reduceEqDiff, Nat.reduceSub, Nat.reduceLeDiff, Nat.reduceAdd, Int.reduceEq, Int.reduceLT, Int.reduceLE]
 by_cases hlj : j < m.evs.length
 · have hz2 : m.z = 21 := h1.resolve_left fun e => by rw [e] at hlj; simp at hlj
   have he : (m.evs.map evE)[j]? = some (evE m.evs[j]) := by simp [hlj]
   have hl := fldM_len m 8 j
   have hf := fldM_ev hlj
   have hmem := List.getElem_mem hlj
   have hce := hE _ hmem
   have hev := (h3 _ hmem).1
   have hvl := evE_len m.evs[j]
   generalize m.evs[j] = e at *
   (try simp only [bK1, bK2, bK3, bK4, bK5, bK6, bK7, bK8]); simp (maxSteps := 10000000) (disch := omega) only [stWE, List.length_map, hz2, he, ld_ev, hlj, go_sem, ↓reduceIte, Nat.reduceEqDiff, Nat.reduceSub, Nat.reduceLeDiff, Nat.reduceAdd, Int.reduceEq, Int.reduceLT, Int.reduceLE]
   refine call_with (okWrite e hev hce) ?_
   (try simp only [bK1, bK2, bK3, bK4, bK5, bK6, bK7, bK8]); simp (maxSteps := 10000000) (disch := omega) only [List.length_map, go_sem, ↓reduceIte, Nat.reduceEqDiff, Nat.reduceSub, Nat.reduceLeDiff, Nat.reduceAdd, Int.reduceEq, Int.reduceLT, Int.reduceLE]
   refine ⟨j + 1, by omega, by omega, wk_ren 60 50 (by decide) rfl (weak_mk ?_ ?_)⟩
   · (try simp only [bK1, bK2, bK3, bK4, bK5, bK6, bK7, bK8]); simp (maxSteps := 10000000) (disch := omega) only [hz2, go_sem, ↓reduceIte, Nat.reduceEqDiff, Nat.reduceSub, Nat.reduceLeDiff, Nat.reduceAdd, Int.reduceEq, Int.reduceLT, Int.reduceLE]
   · (try simp only [bK1, bK2, bK3, bK4, bK5, bK6, bK7, bK8]); simp (maxSteps := 10000000) (disch := omega) only [hf, go_sem, ↓reduceIte, Nat.reduceEqDiff, Nat.reduceSub, Nat.reduceLeDiff, Nat.reduceAdd, Int.reduceEq, Int.reduceLT, Int.reduceLE]
 obtain rfl : j = m.evs.length := by omega
 have hal := fldM_all m
 (try simp only [bK1, bK2, bK3, bK4, bK5, bK6, bK7, bK8]); simp (maxSteps := 10000000) (disch := omega) only [stWE, hal, go_sem, ↓reduceIte, Nat.reduceEqDiff, Nat.reduceSub, Nat.reduceLeDiff, Nat.reduceAdd, Int.reduceEq, Int.reduceLT, Int.reduceLE]
 have hfl := fieldsM_le hm hc
 have hfp := fieldsM_pack hm hc
 refine call_with (okPack (f := false) (z := 1) (L := fieldsM m) rfl rfl (bsEq_map _) (.inr rfl) (by omega) fun b hb => by have := hfl b hb; omega) ?_
 (try simp only [bK1, bK2, bK3, bK4, bK5, bK6, bK7, bK8]); simp (maxSteps := 10000000) (disch := omega) only [writeM, go_sem, ↓reduceIte, Nat.reduceEqDiff, Nat.reduceSub, Nat.reduceLeDiff, Nat.reduceAdd, Int.reduceEq, Int.reduceLT, Int.reduceLE]
end Go.Proofs.Ytfkmlmckihmihaa.Fw
namespace Go.Proofs.Ytfkmlmckihmihaa.Fw
open Go.RowKit Go.Proofs
def canM (m : Msg) : Msg := { m with f := m.evs.isEmpty, z := if m.evs.isEmpty then 0 else 21, evs := m.evs.map canon }
def SegsC : List SV → List PV → Prop
 | [], cs => cs = []
 | .pv x :: l, cs => ∃ r, cs = x :: r ∧ SegsC l r
 | .vec n c :: l, cs => c.length = n ∧ ∃ r, cs = c ++ r ∧ SegsC l r
 | _ :: _, _ => False
theorem cells_seg {V : View} {ρ : Nat → Value} : ∀ {l : List SV} {cs : List PV} {vs : List Value}, SegsC l cs → PCells V cs vs → Cells V ρ l vs
 | [], cs, vs, h, hp => by
   have h : cs = [] := h
   subst h
   simp only [Cells]
   exact List.eq_nil_of_length_eq_zero hp.1.symm
 | .pv x :: l, cs, vs, h, hp => by
   obtain ⟨r, rfl, h⟩ := h
   simp only [Cells]
   obtain ⟨v, hv, hx⟩ := hp.2 0 x rfl
   cases vs with
   | nil => cases hv
   | cons u us =>
     have : u = v := by simpa using hv
     subst this
     have hf : flatV u = [u] := by have := hx.one; cases u <;> simp_all [flatV, oneCell]
     refine ⟨u, us, by rw [hf]; rfl, by simp only [Conc]; exact hx, by rw [hf]; rfl, fun c hc => ?_, cells_seg h ⟨by simpa using hp.1, fun j y hy => by simpa using hp.2 (j + 1) y (by simpa using hy)⟩⟩
     rw [hf] at hc
     rw [List.mem_singleton.1 hc]
     exact hx.one
 | .vec n c :: l, cs, vs, h, hp => by
   obtain ⟨hn, r, rfl, h⟩ := h
   simp only [Cells]
   have hl : c.length + r.length = vs.length := by simpa using hp.1
   have hA : PCells V c (vs.take n) := ⟨by simp; omega, fun j y hy => by
    have hj := (List.getElem?_eq_some_iff.1 hy).1
    obtain ⟨v, h1, h2⟩ := hp.2 j y (by rw [List.getElem?_append_left hj]; exact hy)
    exact ⟨v, by rw [List.getElem?_take_of_lt (by omega)]; exact h1, h2⟩⟩
   refine ⟨.agg ⟨vs.take n⟩, vs.drop n, (List.take_append_drop n vs).symm, by simp only [Conc]; exact ⟨_, rfl, by simp; omega, hA⟩, by simp [flatV, SV.width]; omega, fun x hx => hA.one x hx, cells_seg h ⟨by simp; omega, fun j y hy => by
    obtain ⟨v, h1, h2⟩ := hp.2 (n + j) y (by rw [List.getElem?_append_right (by omega)]; simpa [hn] using hy)
    exact ⟨v, by rw [List.getElem?_drop]; exact h1, h2⟩⟩⟩
 | .agg _ :: _, _, _, h, _ => h.elim
 | .tup _ :: _, _, _, h, _ => h.elim
 | .p _ _ :: _, _, _, h, _ => h.elim
 | .ps _ _ :: _, _, _, h, _ => h.elim
 | .pr _ _ _ _ :: _, _, _, h, _ => h.elim
 | .pi _ _ _ _ :: _, _, _, h, _ => h.elim
 | .os _ :: _, _, _, h, _ => h.elim
 | .ov _ _ _ _ :: _, _, _, h, _ => h.elim
 | .fn _ _ :: _, _, _, h, _ => h.elim
 | .dead :: _, _, _, h, _ => h.elim
theorem imp_seg {l : List SV} {cs : List PV} {n : Nat} (h : SegsC l cs) : Imp (.vec n cs) (.agg l) := by
 intro V ρ v hv
 simp only [Conc] at hv ⊢
 obtain ⟨vs, rfl, _, hp⟩ := hv
 exact ⟨vs, rfl, cells_seg h hp⟩
def evS (l : List Evt) (k : Nat) : SV := if k = 0 then .pv (.sl true 0 []) else if k = l.length then .pv (.sl false 21 (l.map evE)) else .os 60
def evK (l : List Evt) (k : Nat) : Option Blk := if k = 0 ∨ k = l.length then none else some (.row 21 ((l.take k).map evE))
theorem evS_0 (l : List Evt) : evS l 0 = .pv (.sl true 0 []) := if_pos rfl
theorem evK_0 (l : List Evt) : evK l 0 = none := if_pos (.inl rfl)
theorem evS_k {l : List Evt} {k : Nat} (h : 0 < k ∧ k < l.length) : evS l k = .os 60 := by unfold evS; rw [if_neg (by omega), if_neg (by omega)]
theorem evK_k {l : List Evt} {k : Nat} (h : 0 < k ∧ k < l.length) : evK l k = some (.row 21 ((l.take k).map evE)) := if_neg (by omega)
theorem evS_n {l : List Evt} {k : Nat} (h : 0 < k ∧ k = l.length) : evS l k = .pv (.sl false 21 (l.map evE)) := by unfold evS; rw [if_neg (by omega), if_pos h.2]
theorem evK_n {l : List Evt} {k : Nat} (h : 0 < k ∧ k = l.length) : evK l k = none := if_pos (.inr h.2)
def tbM (m : Msg) (t : Nat → Vc) : Msg := { m with tb := t, f := true, z := 0, evs := [] }
theorem splice_tb (m : Msg) (t : Nat → Vc) {k : Nat} (hk : k < 8) (v : Vc) : splice (msgE (tbM m t)) (11 + k * 8) (vE v) = msgE (tbM m (setV t k v)) := by
 have e : tE (setV t k v) = splice (tE t) (k * 8) (vE v) := (splice_tE hk t v).symm
 simp only [splice, msgE, tbM] at e ⊢
 rw [e]
 have hk2 : k = 0 ∨ k = 1 ∨ k = 2 ∨ k = 3 ∨ k = 4 ∨ k = 5 ∨ k = 6 ∨ k = 7 := by omega
 rcases hk2 with rfl | rfl | rfl | rfl | rfl | rfl | rfl | rfl <;> rfl
def segJ (m : Msg) (x : SV) : List SV := [.pv (.i .i64 m.k), .pv (.i .i64 m.fr), .pv (.i .i64 m.to), .vec 8 (vE m.kn), .vec 64 (tE m.tb), x]
abbrev seg0 : List SV := [.pv (.i .i64 0), .pv (.i .i64 0), .pv (.i .i64 0), .vec 8 (vE fun _ => 0), .vec 64 (tE fun _ _ => 0), .pv (.sl true 0 [])]
theorem writeM_can (m : Msg) : writeM (canM m) = writeM m := by
 have e : (canM m).evs.map evB = m.evs.map evB := by show (m.evs.map canon).map evB = _; rw [List.map_map]; exact List.map_congr_left fun e _ => rfl
 unfold writeM fieldsM
 rw [e]; rfl
theorem mv_can {m : Msg} (h : mv m) : mv (canM m) := by
 obtain ⟨h1, h2, h3, h4, h5⟩ := h
 refine ⟨?_, by show (m.evs.map canon).length ≤ _; simpa using h2, fun e he => ?_, h4, h5⟩
 · show m.evs.map canon = [] ∨ (if m.evs.isEmpty then 0 else 21) = 21
   cases m.evs <;> simp
 · obtain ⟨x, hx, rfl⟩ := List.mem_map.1 (show e ∈ m.evs.map canon from he)
   exact ⟨canon_ev (h3 x hx).1, (h3 x hx).2⟩
theorem check_can (m : Msg) : checkM (canM m) = checkM m := by
 have e : (canM m).evs.all checkB = m.evs.all checkB := by
  show (m.evs.map canon).all checkB = _
  rw [List.all_map]
  congr 1
  funext x
  exact check_canon x
 have hH : HeadM (canM m) ↔ HeadM m := by
  unfold HeadM
  rw [show (canM m).evs.length = m.evs.length from List.length_map _]
  exact Iff.rfl
 by_cases h : HeadM m
 · rw [checkM_e h, checkM_e (hH.2 h), e]
 · rw [checkM_h h, checkM_h fun g => h (hH.1 g)]
theorem okWriteC (m : Msg) (hm : mv m) (hc : checkM m = true) {x : SV} (hx : .agg (segM (canM m)) = x) {h d} : FunOk Try.prog 29 [x] h d (.tup [.os d, .pv (.i .i64 0)]) [.new d (.row 1 (bytesE (writeM m)))] := by
 subst hx
 have hwr := okWriteM (canM m) (mv_can hm) ((check_can m).trans hc) (h := h) (d := d)
 rw [writeM_can] at hwr
 exact hwr.imp ⟨imp_agg (segM_cells _) (msgE_len _), trivial⟩ (by simp [tops, tn])
theorem mkOr_sg (e : Evt) (K : KK) : mkOr (cut (segE e) 0 21) true (some (evE e)) 0 21 K = K (.agg (segE e)) [] := (rfl)
def stRE (m : Msg) (l : List UInt8) (k : Nat) : FS := mk [(89, .pv (.i .i64 k)), (88, .pv (.i .i64 m.evs.length)), (87, .pv (.sl false 1 ((m.evs.map evB).map bE))), (2, .p 2 0), (6, .p 6 0), (0, .pv (.sl false 1 (bytesE l)))] [(6, some (.var (.agg (segJ m (evS (m.evs.map canon) k))))), (60, evK (m.evs.map canon) k), (2, some (.var (.agg seg0)))]
def stRT (m : Msg) (l : List UInt8) (E : List (List PV)) (k : Nat) : FS := mk [(65, .pv (.i .i64 k)), (2, .p 2 0), (4, .os 50), (6, .p 6 0), (0, .pv (.sl false 1 (bytesE l)))] [(6, some (.var (.vec 76 (msgE (tbM m fun i => if i < k then m.tb i else v0))))), (50, some (.row 1 E)), (2, some (.var (.agg seg0)))]
set_option maxHeartbeats 8000000 in
theorem okReadM (m : Msg) (hm : mv m) (hc : checkM m = true) {h d} : FunOk Try.prog 41 [.pv (.sl false 1 (bytesE (writeM m)))] h d (.tup [.agg (segM (canM m)), .pv (.i .i64 0)]) [] := by
 refine fun_pureW mixed fn41 (by simp) rfl rfl fun F => ?_
 have hH := head_of hc
 have hE := evs_of hc
 obtain ⟨h1, h2, h3, h4, h5⟩ := id hm
 obtain ⟨q1, q2, q3, q4, q5, q6⟩ := hH
 have hfl := fieldsM_le hm hc
 have hfp := fieldsM_pack hm hc
 have hfn := fieldsM_len m
 have hpl := packB_len (fieldsM m)
 have hu : unpackG (writeM m) [] 18 = (fieldsM m, 0) := unpack_all (fieldsM m) 18 (fun b hb => by have := hfl b hb; omega) (by omega)
 have hwl : (writeM m).length ≤ 65502 := by unfold writeM; omega
 have hel : ((fieldsM m).map bE).length = 10 + m.evs.length := by simp [hfn]
 have f0 : ((fieldsM m).map bE)[0]? = some [.sl false 1 (bytesE (headB m))] := by simp [fieldsM, bE]
 have f1 : ((fieldsM m).map bE)[Int.toNat 1]? = some [.sl false 1 (bytesE (shrinkB m.kn v0))] := by simp [fieldsM, bE]
 have ft : ∀ k, k < 8 → ((fieldsM m).map bE)[2 + k]? = some [.sl false 1 (bytesE (shrinkB (m.tb k) m.kn))] := fun k hk => by
  rw [show 2 + k = k + 1 + 1 by omega]
  simp only [fieldsM, rowsB, bE, List.cons_append, List.nil_append, List.map_cons, List.getElem?_cons_succ, List.map_append, List.map_map]
  rw [List.getElem?_append_left (by simpa using hk)]
  simp [hk]; rfl
 have fe : ((fieldsM m).map bE).drop 10 = (m.evs.map evB).map bE := by
  have : fieldsM m = ([headB m, shrinkB m.kn v0] ++ rowsB m 8) ++ m.evs.map evB := by simp [fieldsM]
  rw [this, List.map_append, List.drop_left' (by simp [rowsB])]
 have b0 : (bytesE (headB m))[0]? = some [.i .u8 ((UInt8.ofNat m.k.toNat).toNat : Int)] := rfl
 have b1 : (bytesE (headB m))[Int.toNat 1]? = some [.i .u8 ((UInt8.ofNat m.fr.toNat).toNat : Int)] := rfl
 have b2 : (bytesE (headB m))[Int.toNat 2]? = some [.i .u8 ((UInt8.ofNat m.to.toNat).toNat : Int)] := rfl
 have bl : (bytesE (headB m)).length = 3 := rfl
 have wb : ∀ n : Int, 0 ≤ n → n ≤ 8 → IntKind.i64.wrap ((UInt8.ofNat n.toNat).toNat : Int) = n := fun n h0 h8 => by
  rw [toNat_ofNat_lt (by omega), Int.toNat_of_nonneg h0]; exact wrap_i64 (by omega)
 have w1 := wb m.k (by omega) (by omega)
 have w2 := wb m.fr (by omega) (by omega)
 have w3 := wb m.to (by omega) (by omega)
 have v0ok : ∀ i, i < 8 → v0 i < 4294967296 := fun i _ => by show 0 < _; omega
 have gk := growB_shrink m.kn v0 h4 v0ok
 have gke : vE (growB (shrinkB m.kn v0) v0).1 = vE m.kn := vE_ext gk.2
 have skl := shrinkM_len m.kn v0 h4 v0ok
 generalize hEE : (fieldsM m).map bE = E at *
 (try simp only [bK1, bK2, bK3, bK4, bK5, bK6, bK7, bK8]); simp (maxSteps := 10000000) (disch := omega) only [ir41, go_sem, ↓reduceIte, Nat.reduceEqDiff, Nat.reduceSub, Nat.reduceLeDiff, Nat.reduceAdd, Int.reduceEq, Int.reduceLT, Int.reduceLE]
 refine call_with (okUnpack (f := false) (z := 1) (b := writeM m) (most := 18) (.inr rfl) (by omega)) ?_
 rw [hu, hEE]
 (try simp only [bK1, bK2, bK3, bK4, bK5, bK6, bK7, bK8]); simp (maxSteps := 10000000) (disch := omega) only [hel, f0, b0, b1, b2, bl, w1, w2, w3, ld_sl, load_c0, f1, go_sem, ↓reduceIte, Nat.reduceEqDiff, Nat.reduceSub, Nat.reduceLeDiff, Nat.reduceAdd, Int.reduceEq, Int.reduceLT, Int.reduceLE]
 refine call_with (okGrow v0 v0ok (by omega) rfl rfl (.inr rfl)) ?_
 (try simp only [bK1, bK2, bK3, bK4, bK5, bK6, bK7, bK8]); simp (maxSteps := 10000000) (disch := omega) only [gk.1, gke, go_sem, ↓reduceIte, Nat.reduceEqDiff, Nat.reduceSub, Nat.reduceLeDiff, Nat.reduceAdd, Int.reduceEq, Int.reduceLT, Int.reduceLE]
 refine loop_ok mixed (stRT m (writeM m) E) (fun k => k ≤ 8) (fun k => 8 - k) 0 (by simp) (wk_ren 16 50 (by decide) rfl (weak_mk ?_ ?_)) fun k hk => ?_
 · (try simp only [bK1, bK2, bK3, bK4, bK5, bK6, bK7, bK8]); simp (maxSteps := 10000000) (disch := omega) only [go_sem, ↓reduceIte, Nat.reduceEqDiff, Nat.reduceSub, Nat.reduceLeDiff, Nat.reduceAdd, Int.reduceEq, Int.reduceLT, Int.reduceLE]
 · (try simp only [bK1, bK2, bK3, bK4, bK5, bK6, bK7, bK8]); simp (maxSteps := 10000000) (disch := omega) only [go_sem, ↓reduceIte, Nat.reduceEqDiff, Nat.reduceSub, Nat.reduceLeDiff, Nat.reduceAdd, Int.reduceEq, Int.reduceLT, Int.reduceLE]
   refine imp_agg ?_ (msgE_len _)
   rw [msgE, show tE (tbM m fun i => if i < 0 then m.tb i else v0).tb = tE (fun _ _ => 0) from tE_none m.tb (fun _ => v0) rfl]
   rfl
 by_cases hlt : k < 8
 · have fk := ft k hlt
   have en : ((2 : Int) + (k : Int)) = ((2 + k : Nat) : Int) := by omega
   have gt := growB_shrink (m.tb k) m.kn (h5 k hlt) h4
   have gte : vE (growB (shrinkB (m.tb k) m.kn) m.kn).1 = vE (m.tb k) := vE_ext gt.2
   have tl := shrinkM_len (m.tb k) m.kn (h5 k hlt) h4
   have hsp := splice_tb m (fun i => if i < k then m.tb i else v0) hlt (m.tb k)
   have hkn : ∀ t, (tbM m t).kn = m.kn := fun _ => rfl
   (try simp only [bK1, bK2, bK3, bK4, bK5, bK6, bK7, bK8]); simp (maxSteps := 10000000) (disch := omega) only [stRT, hlt, en, fk, hel, ld_sl, hkn, go_sem, ↓reduceIte, Nat.reduceEqDiff, Nat.reduceSub, Nat.reduceLeDiff, Nat.reduceAdd, Int.reduceEq, Int.reduceLT, Int.reduceLE]
   refine call_with (okGrow (l := shrinkB (m.tb k) m.kn) m.kn h4 (by omega) rfl rfl (.inr rfl)) ?_
   (try simp only [bK1, bK2, bK3, bK4, bK5, bK6, bK7, bK8]); simp (maxSteps := 10000000) (disch := omega) only [gt.1, gte, hsp, go_sem, ↓reduceIte, Nat.reduceEqDiff, Nat.reduceSub, Nat.reduceLeDiff, Nat.reduceAdd, Int.reduceEq, Int.reduceLT, Int.reduceLE]
   refine loop_next (k + 1) _ _ rfl (by omega) (by omega) ?_ ?_
   · (try simp only [bK1, bK2, bK3, bK4, bK5, bK6, bK7, bK8]); simp (maxSteps := 10000000) (disch := omega) only [go_sem, ↓reduceIte, Nat.reduceEqDiff, Nat.reduceSub, Nat.reduceLeDiff, Nat.reduceAdd, Int.reduceEq, Int.reduceLT, Int.reduceLE]
   · (try simp only [bK1, bK2, bK3, bK4, bK5, bK6, bK7, bK8]); simp (maxSteps := 10000000) (disch := omega) only [go_sem, ↓reduceIte, Nat.reduceEqDiff, Nat.reduceSub, Nat.reduceLeDiff, Nat.reduceAdd, Int.reduceEq, Int.reduceLT, Int.reduceLE]
     refine imp_vec ?_
     rw [msgE, msgE, show tE (tbM m (setV (fun i => if i < k then m.tb i else v0) k (m.tb k))).tb = tE (tbM m fun i => if i < k + 1 then m.tb i else v0).tb from tE_setV_lt _ _ _ fun i hi => rfl]
     rfl
 obtain rfl : k = 8 := by omega
 have htb : tE (tbM m fun i => if i < 8 then m.tb i else v0).tb = tE m.tb := tE_all _ _ (Nat.le_refl 8)
 have etk : List.take (10 + m.evs.length) E = E := List.take_of_length_le (by omega)
 have e10 : Int.toNat 10 = 10 := rfl
 (try simp only [bK1, bK2, bK3, bK4, bK5, bK6, bK7, bK8]); simp (maxSteps := 10000000) (disch := omega) only [stRT, hel, etk, e10, fe, List.length_map, go_sem, ↓reduceIte, Nat.reduceEqDiff, Nat.reduceSub, Nat.reduceLeDiff, Nat.reduceAdd, Int.reduceEq, Int.reduceLT, Int.reduceLE]
 refine loop_ok mixed (stRE m (writeM m)) (fun k => k ≤ m.evs.length) (fun k => m.evs.length - k) 0 (by simp) (weak_mk ?_ ?_) fun k hk => ?_
 · (try simp only [bK1, bK2, bK3, bK4, bK5, bK6, bK7, bK8]); simp (maxSteps := 10000000) (disch := omega) only [go_sem, ↓reduceIte, Nat.reduceEqDiff, Nat.reduceSub, Nat.reduceLeDiff, Nat.reduceAdd, Int.reduceEq, Int.reduceLT, Int.reduceLE]
 · (try simp only [bK1, bK2, bK3, bK4, bK5, bK6, bK7, bK8]); simp (maxSteps := 10000000) (disch := omega) only [segJ, evS_0, evK_0, go_sem, ↓reduceIte, Nat.reduceEqDiff, Nat.reduceSub, Nat.reduceLeDiff, Nat.reduceAdd, Int.reduceEq, Int.reduceLT, Int.reduceLE]
   refine imp_seg ⟨_, rfl, _, rfl, _, rfl, vE_length _, _, rfl, tE_length _, [.sl true 0 []], ?_, _, rfl, rfl⟩
   rw [← htb]; rfl
 by_cases hlt : k < m.evs.length
 · have he : ((m.evs.map evB).map bE)[k]? = some [.sl false 1 (bytesE (evB m.evs[k]))] := by simp [hlt]; rfl
   have hmem := List.getElem_mem hlt
   have hce := hE _ hmem
   have hev := (h3 _ hmem).1
   have ht : ((m.evs.map canon).take (k + 1)).map evE = ((m.evs.map canon).take k).map evE ++ [evE (canon m.evs[k])] := by
    rw [List.take_add_one, List.getElem?_eq_getElem (by simpa using hlt)]; simp
   have hvl := evE_len (canon m.evs[k])
   have hkl : ((m.evs.map canon).take k).length ≤ 8 := by simp; omega
   have hkl' : (((m.evs.map canon).take k).map evE).length ≤ 8 := by simpa using hkl
   have hz := evE_len (canon m.evs[k])
   generalize m.evs[k] = e at *
   generalize hN : m.evs.map canon = N at *
   have hNl : N.length = m.evs.length := by rw [← hN]; simp
   (try simp only [bK1, bK2, bK3, bK4, bK5, bK6, bK7, bK8]); simp (maxSteps := 10000000) (disch := omega) only [stRE, segJ, hlt, he, ld_sl, List.length_map, hN, go_sem, ↓reduceIte, Nat.reduceEqDiff, Nat.reduceSub, Nat.reduceLeDiff, Nat.reduceAdd, Int.reduceEq, Int.reduceLT, Int.reduceLE]
   refine call_with (okRead_ok e hce hev) ?_
   by_cases hk0 : k = 0
   · subst hk0
     rw [List.take_zero, List.map_nil, List.nil_append, Nat.zero_add] at ht
     have h0 : ([evE (canon e)] = []) = False := by simp
     (try simp only [bK1, bK2, bK3, bK4, bK5, bK6, bK7, bK8]); simp (maxSteps := 10000000) (disch := omega) only [evS_0, evK_0, seg_cells, mkOr_sg, hz, h0, go_sem, ↓reduceIte, Nat.reduceEqDiff, Nat.reduceSub, Nat.reduceLeDiff, Nat.reduceAdd, Int.reduceEq, Int.reduceLT, Int.reduceLE]
     by_cases hn : 1 < m.evs.length
     · have sS := evS_k (l := N) (k := 1) ⟨by omega, by omega⟩
       have sK := evK_k (l := N) (k := 1) ⟨by omega, by omega⟩
       refine ⟨1, by omega, by omega, wk_ren 105 60 (by decide) rfl (weak_mk ?_ ?_)⟩
       · (try simp only [bK1, bK2, bK3, bK4, bK5, bK6, bK7, bK8]); simp (maxSteps := 10000000) (disch := omega) only [go_sem, ↓reduceIte, Nat.reduceEqDiff, Nat.reduceSub, Nat.reduceLeDiff, Nat.reduceAdd, Int.reduceEq, Int.reduceLT, Int.reduceLE]
       · (try simp only [bK1, bK2, bK3, bK4, bK5, bK6, bK7, bK8]); simp (maxSteps := 10000000) (disch := omega) only [ht, segJ, sS, sK, hN, go_sem, ↓reduceIte, Nat.reduceEqDiff, Nat.reduceSub, Nat.reduceLeDiff, Nat.reduceAdd, Int.reduceEq, Int.reduceLT, Int.reduceLE]
     · have sS := evS_n (l := N) (k := 1) ⟨by omega, by omega⟩
       have sK := evK_n (l := N) (k := 1) ⟨by omega, by omega⟩
       have htk : N.take (1) = N := List.take_of_length_le (by omega)
       rw [htk] at ht
       refine ⟨1, by omega, by omega, wk_frz 105 rfl (weak_mk ?_ ?_)⟩
       · (try simp only [bK1, bK2, bK3, bK4, bK5, bK6, bK7, bK8]); simp (maxSteps := 10000000) (disch := omega) only [hN, go_sem, ↓reduceIte, Nat.reduceEqDiff, Nat.reduceSub, Nat.reduceLeDiff, Nat.reduceAdd, Int.reduceEq, Int.reduceLT, Int.reduceLE]
       · (try simp only [bK1, bK2, bK3, bK4, bK5, bK6, bK7, bK8]); simp (maxSteps := 10000000) (disch := omega) only [ht, segJ, sS, sK, hN, go_sem, ↓reduceIte, Nat.reduceEqDiff, Nat.reduceSub, Nat.reduceLeDiff, Nat.reduceAdd, Int.reduceEq, Int.reduceLT, Int.reduceLE]
   · have sS0 := evS_k (l := N) (k := k) ⟨by omega, by omega⟩
     have sK0 := evK_k (l := N) (k := k) ⟨by omega, by omega⟩
     (try simp only [bK1, bK2, bK3, bK4, bK5, bK6, bK7, bK8]); simp (maxSteps := 10000000) (disch := omega) only [sS0, sK0, seg_cells, mkOr_sg, hz, go_sem, ↓reduceIte, Nat.reduceEqDiff, Nat.reduceSub, Nat.reduceLeDiff, Nat.reduceAdd, Int.reduceEq, Int.reduceLT, Int.reduceLE]
     by_cases hn : k + 1 < m.evs.length
     · have sS := evS_k (l := N) (k := k + 1) ⟨by omega, by omega⟩
       have sK := evK_k (l := N) (k := k + 1) ⟨by omega, by omega⟩
       refine ⟨k + 1, by omega, by omega, wk_ren 105 60 (by decide) rfl (weak_mk ?_ ?_)⟩
       · (try simp only [bK1, bK2, bK3, bK4, bK5, bK6, bK7, bK8]); simp (maxSteps := 10000000) (disch := omega) only [go_sem, ↓reduceIte, Nat.reduceEqDiff, Nat.reduceSub, Nat.reduceLeDiff, Nat.reduceAdd, Int.reduceEq, Int.reduceLT, Int.reduceLE]
       · (try simp only [bK1, bK2, bK3, bK4, bK5, bK6, bK7, bK8]); simp (maxSteps := 10000000) (disch := omega) only [ht, segJ, sS, sK, hN, go_sem, ↓reduceIte, Nat.reduceEqDiff, Nat.reduceSub, Nat.reduceLeDiff, Nat.reduceAdd, Int.reduceEq, Int.reduceLT, Int.reduceLE]
     · have sS := evS_n (l := N) (k := k + 1) ⟨by omega, by omega⟩
       have sK := evK_n (l := N) (k := k + 1) ⟨by omega, by omega⟩
       have htk : N.take (k + 1) = N := List.take_of_length_le (by omega)
       rw [htk] at ht
       refine ⟨k + 1, by omega, by omega, wk_frz 105 rfl (weak_mk ?_ ?_)⟩
       · (try simp only [bK1, bK2, bK3, bK4, bK5, bK6, bK7, bK8]); simp (maxSteps := 10000000) (disch := omega) only [hN, go_sem, ↓reduceIte, Nat.reduceEqDiff, Nat.reduceSub, Nat.reduceLeDiff, Nat.reduceAdd, Int.reduceEq, Int.reduceLT, Int.reduceLE]
       · (try simp only [bK1, bK2, bK3, bK4, bK5, bK6, bK7, bK8]); simp (maxSteps := 10000000) (disch := omega) only [ht, segJ, sS, sK, hN, go_sem, ↓reduceIte, Nat.reduceEqDiff, Nat.reduceSub, Nat.reduceLeDiff, Nat.reduceAdd, Int.reduceEq, Int.reduceLT, Int.reduceLE]
 obtain rfl : k = m.evs.length := by omega
 by_cases h0 : m.evs = []
 · have hcan : segM (canM m) = segJ m (.pv (.sl true 0 [])) := by simp [segM, canM, segJ, h0]
   have hl0 : m.evs.length = 0 := by simp [h0]
   (try simp only [bK1, bK2, bK3, bK4, bK5, bK6, bK7, bK8]); simp (maxSteps := 10000000) (disch := omega) only [stRE, hl0, evS_0, evK_0, segJ, go_sem, ↓reduceIte, Nat.reduceEqDiff, Nat.reduceSub, Nat.reduceLeDiff, Nat.reduceAdd, Int.reduceEq, Int.reduceLT, Int.reduceLE]
   refine call_with (okWriteC m hm hc (congrArg SV.agg hcan)) ?_
   (try simp only [bK1, bK2, bK3, bK4, bK5, bK6, bK7, bK8]); simp (maxSteps := 10000000) (disch := omega) only [go_sem, ↓reduceIte, Nat.reduceEqDiff, Nat.reduceSub, Nat.reduceLeDiff, Nat.reduceAdd, Int.reduceEq, Int.reduceLT, Int.reduceLE]
   refine call_with (okEqB (f := false) (g := false) (y := 1) (z := 1) (a := writeM m) (b := writeM m) rfl rfl (.inr rfl) (.inr rfl) (by omega) (by omega)) ?_
   (try simp only [bK1, bK2, bK3, bK4, bK5, bK6, bK7, bK8]); simp (maxSteps := 10000000) (disch := omega) only [hcan, segJ, go_sem, ↓reduceIte, Nat.reduceEqDiff, Nat.reduceSub, Nat.reduceLeDiff, Nat.reduceAdd, Int.reduceEq, Int.reduceLT, Int.reduceLE]
   refine ⟨_, .same _, ?_⟩
   (try simp only [bK1, bK2, bK3, bK4, bK5, bK6, bK7, bK8]); simp (maxSteps := 10000000) (disch := omega) only [go_sem, ↓reduceIte, Nat.reduceEqDiff, Nat.reduceSub, Nat.reduceLeDiff, Nat.reduceAdd, Int.reduceEq, Int.reduceLT, Int.reduceLE]
 have hpos := List.length_pos_iff.2 h0
 have sS := evS_n (l := m.evs.map canon) (k := m.evs.length) ⟨hpos, by simp⟩
 have sK := evK_n (l := m.evs.map canon) (k := m.evs.length) ⟨hpos, by simp⟩
 have hcan : segM (canM m) = segJ m (.pv (.sl false 21 ((m.evs.map canon).map evE))) := by
  have : m.evs.isEmpty = false := by simp [h0]
  simp only [segM, canM, segJ, this]; rfl
 (try simp only [bK1, bK2, bK3, bK4, bK5, bK6, bK7, bK8]); simp (maxSteps := 10000000) (disch := omega) only [stRE, sS, sK, segJ, go_sem, ↓reduceIte, Nat.reduceEqDiff, Nat.reduceSub, Nat.reduceLeDiff, Nat.reduceAdd, Int.reduceEq, Int.reduceLT, Int.reduceLE]
 refine call_with (okWriteC m hm hc (congrArg SV.agg hcan)) ?_
 (try simp only [bK1, bK2, bK3, bK4, bK5, bK6, bK7, bK8]); simp (maxSteps := 10000000) (disch := omega) only [go_sem, ↓reduceIte, Nat.reduceEqDiff, Nat.reduceSub, Nat.reduceLeDiff, Nat.reduceAdd, Int.reduceEq, Int.reduceLT, Int.reduceLE]
 refine call_with (okEqB (f := false) (g := false) (y := 1) (z := 1) (a := writeM m) (b := writeM m) rfl rfl (.inr rfl) (.inr rfl) (by omega) (by omega)) ?_
 (try simp only [bK1, bK2, bK3, bK4, bK5, bK6, bK7, bK8]); simp (maxSteps := 10000000) (disch := omega) only [hcan, segJ, go_sem, ↓reduceIte, Nat.reduceEqDiff, Nat.reduceSub, Nat.reduceLeDiff, Nat.reduceAdd, Int.reduceEq, Int.reduceLT, Int.reduceLE]
 refine ⟨_, .same _, ?_⟩
 (try simp only [bK1, bK2, bK3, bK4, bK5, bK6, bK7, bK8]); simp (maxSteps := 10000000) (disch := omega) only [go_sem, ↓reduceIte, Nat.reduceEqDiff, Nat.reduceSub, Nat.reduceLeDiff, Nat.reduceAdd, Int.reduceEq, Int.reduceLT, Int.reduceLE]
end Go.Proofs.Ytfkmlmckihmihaa.Fw
namespace Go.Proofs.Ytfkmlmckihmihaa.Fw
open Go.RowKit Go.Proofs
noncomputable def sameL (l m : List Evt) : Bool := decide (l.length = m.length) && (l.zip m).all fun p => sameB p.1 p.2
def evLs (f : Bool) (z : Nat) (l : List Evt) : Prop := (l = [] ∨ z = 21) ∧ l.length ≤ 1000 ∧ ∀ e ∈ l, ev e
def stSameEv (f g : Bool) (y z : Nat) (l m : List Evt) (k : Nat) : FS := mk [(5, .pv (.i .i64 k)), (0, .pv (.sl f y (l.map evE))), (1, .pv (.sl g z (m.map evE)))] []
set_option maxHeartbeats 2000000 in
theorem okSameEv {f g : Bool} {y z : Nat} {l m : List Evt} (hl : evLs f y l) (hm : evLs g z m) {h d} :
 FunOk Try.prog 34 [.pv (.sl f y (l.map evE)), .pv (.sl g z (m.map evE))] h d (.pv (.b (sameL l m))) [] := by
 refine fun_pure mixed fn34 (by simp) rfl rfl fun F => ?_
 obtain ⟨l1, l2, l3⟩ := hl
 obtain ⟨m1, m2, m3⟩ := hm
 by_cases hn : l.length = m.length
 rotate_left
 · have e : sameL l m = false := by simp [sameL, hn]
   have hz : ¬ (l.length : Int) = (m.length : Int) := by omega
   (try simp only [bK1, bK2, bK3, bK4, bK5, bK6, bK7, bK8]); simp (maxSteps := 10000000) (disch := omega) only [ir34, List.length_map, hz, e, go_sem, ↓reduceIte, Nat.reduceEqDiff, Nat.reduceSub, Nat.reduceLeDiff, Nat.reduceAdd, Int.reduceEq, Int.reduceLT, Int.reduceLE]
 have hz : (l.length : Int) = (m.length : Int) := by omega
 have e0 : sameL l m = (l.zip m).all fun p => sameB p.1 p.2 := by simp [sameL, hn]
 (try simp only [bK1, bK2, bK3, bK4, bK5, bK6, bK7, bK8]); simp (maxSteps := 10000000) (disch := omega) only [ir34, List.length_map, hz, go_sem, ↓reduceIte, Nat.reduceEqDiff, Nat.reduceSub, Nat.reduceLeDiff, Nat.reduceAdd, Int.reduceEq, Int.reduceLT, Int.reduceLE]
 refine loop_ok mixed (stSameEv f g y z l m) (fun k => k ≤ l.length ∧ ∀ j, (h1 : j < l.length) → (h2 : j < m.length) → j < k → sameB l[j] m[j] = true) (fun k => l.length - k) 0 (by simp) (weak_mk ?_ ?_) fun k hk => ?_
 · (try simp only [bK1, bK2, bK3, bK4, bK5, bK6, bK7, bK8]); simp (maxSteps := 10000000) (disch := omega) only [go_sem, ↓reduceIte, Nat.reduceEqDiff, Nat.reduceSub, Nat.reduceLeDiff, Nat.reduceAdd, Int.reduceEq, Int.reduceLT, Int.reduceLE]
 · (try simp only [bK1, bK2, bK3, bK4, bK5, bK6, bK7, bK8]); simp (maxSteps := 10000000) (disch := omega) only [go_sem, ↓reduceIte, Nat.reduceEqDiff, Nat.reduceSub, Nat.reduceLeDiff, Nat.reduceAdd, Int.reduceEq, Int.reduceLT, Int.reduceLE]
 obtain ⟨hk1, hk2⟩ := hk
 by_cases hlt : k < l.length
 · have hlm : k < m.length := by omega
   have hy2 : y = 21 := l1.resolve_left fun e => by subst e; simp at hlt
   have hz2 : z = 21 := m1.resolve_left fun e => by subst e; simp at hlm
   subst hy2 hz2
   have he : (l.map evE)[k]? = some (evE l[k]) := by simp [hlt]
   have hf : (m.map evE)[k]? = some (evE m[k]) := by simp [hlm]
   have ha := l3 _ (List.getElem_mem hlt)
   have hb := m3 _ (List.getElem_mem hlm)
   (try simp only [bK1, bK2, bK3, bK4, bK5, bK6, bK7, bK8]); simp (maxSteps := 10000000) (disch := omega) only [stSameEv, List.length_map, he, hf, ld_ev, go_sem, ↓reduceIte, Nat.reduceEqDiff, Nat.reduceSub, Nat.reduceLeDiff, Nat.reduceAdd, Int.reduceEq, Int.reduceLT, Int.reduceLE]
   refine call_with (okSameR8 l[k] m[k] ⟨ha.1, ha.2.1, ha.2.2.1, ha.2.2.2.1⟩ ⟨hb.1, hb.2.1, hb.2.2.1, hb.2.2.2.1⟩) ?_
   by_cases hs : sameB l[k] m[k] = true
   · (try simp only [bK1, bK2, bK3, bK4, bK5, bK6, bK7, bK8]); simp (maxSteps := 10000000) (disch := omega) only [hs, go_sem, ↓reduceIte, Nat.reduceEqDiff, Nat.reduceSub, Nat.reduceLeDiff, Nat.reduceAdd, Int.reduceEq, Int.reduceLT, Int.reduceLE]
     refine loop_next (k + 1) _ _ rfl ⟨by omega, fun j h1 h2 hjk => ?_⟩ (by omega) ?_ ?_
     · by_cases e : j = k
       · subst e; exact hs
       · exact hk2 j h1 h2 (by omega)
     · (try simp only [bK1, bK2, bK3, bK4, bK5, bK6, bK7, bK8]); simp (maxSteps := 10000000) (disch := omega) only [go_sem, ↓reduceIte, Nat.reduceEqDiff, Nat.reduceSub, Nat.reduceLeDiff, Nat.reduceAdd, Int.reduceEq, Int.reduceLT, Int.reduceLE]
     · (try simp only [bK1, bK2, bK3, bK4, bK5, bK6, bK7, bK8]); simp (maxSteps := 10000000) (disch := omega) only [go_sem, ↓reduceIte, Nat.reduceEqDiff, Nat.reduceSub, Nat.reduceLeDiff, Nat.reduceAdd, Int.reduceEq, Int.reduceLT, Int.reduceLE]
   · have hs' : sameB l[k] m[k] = false := by simpa using hs
     have e : sameL l m = false := by
      rw [e0, List.all_eq_false]
      exact ⟨(l[k], m[k]), List.mem_iff_getElem.2 ⟨k, by simp; omega, by simp⟩, by simp [hs']⟩
     (try simp only [bK1, bK2, bK3, bK4, bK5, bK6, bK7, bK8]); simp (maxSteps := 10000000) (disch := omega) only [hs', e, go_sem, ↓reduceIte, Nat.reduceEqDiff, Nat.reduceSub, Nat.reduceLeDiff, Nat.reduceAdd, Int.reduceEq, Int.reduceLT, Int.reduceLE]
 · obtain rfl : k = l.length := by omega
   have e : sameL l m = true := by
    rw [e0, List.all_eq_true]
    intro p hp
    obtain ⟨j, hj, rfl⟩ := List.getElem_of_mem hp
    have hj' : j < l.length ∧ j < m.length := by simp at hj; omega
    rw [List.getElem_zip]
    exact hk2 j hj'.1 hj'.2 hj'.1
   (try simp only [bK1, bK2, bK3, bK4, bK5, bK6, bK7, bK8]); simp (maxSteps := 10000000) (disch := omega) only [stSameEv, List.length_map, e, go_sem, ↓reduceIte, Nat.reduceEqDiff, Nat.reduceSub, Nat.reduceLeDiff, Nat.reduceAdd, Int.reduceEq, Int.reduceLT, Int.reduceLE]
noncomputable def sameM (a b : Msg) : Bool := decide (a.k = b.k) && (decide (a.fr = b.fr) && (decide (a.to = b.to) && (decide (vEq a.kn b.kn) && (decide (tEq a.tb b.tb) && sameL a.evs b.evs))))
set_option maxHeartbeats 8000000 in
theorem okSameM (a b : Msg) (ha : mv a) (hb : mv b) {h d} : FunOk Try.prog 15 [.vec 76 (msgE a), .vec 76 (msgE b)] h d (.pv (.b (sameM a b))) [] := by
 refine fun_pure mixed fn15 (by simp) rfl rfl fun F => ?_
 by_cases c1 : a.k = b.k
 rotate_left
 · have e : sameM a b = false := by simp [sameM, c1]
   (try simp only [bK1, bK2, bK3, bK4, bK5, bK6, bK7, bK8]); simp (maxSteps := 10000000) (disch := omega) only [ir15, c1, e, go_sem, ↓reduceIte, Nat.reduceEqDiff, Nat.reduceSub, Nat.reduceLeDiff, Nat.reduceAdd, Int.reduceEq, Int.reduceLT, Int.reduceLE]
 by_cases c2 : a.fr = b.fr
 rotate_left
 · have e : sameM a b = false := by simp [sameM, c2]
   (try simp only [bK1, bK2, bK3, bK4, bK5, bK6, bK7, bK8]); simp (maxSteps := 10000000) (disch := omega) only [ir15, c1, c2, e, go_sem, ↓reduceIte, Nat.reduceEqDiff, Nat.reduceSub, Nat.reduceLeDiff, Nat.reduceAdd, Int.reduceEq, Int.reduceLT, Int.reduceLE]
 by_cases c3 : a.to = b.to
 rotate_left
 · have e : sameM a b = false := by simp [sameM, c3]
   (try simp only [bK1, bK2, bK3, bK4, bK5, bK6, bK7, bK8]); simp (maxSteps := 10000000) (disch := omega) only [ir15, c1, c2, c3, e, go_sem, ↓reduceIte, Nat.reduceEqDiff, Nat.reduceSub, Nat.reduceLeDiff, Nat.reduceAdd, Int.reduceEq, Int.reduceLT, Int.reduceLE]
 by_cases c4 : vEq a.kn b.kn
 rotate_left
 · have e : sameM a b = false := by simp [sameM, c4]
   (try simp only [bK1, bK2, bK3, bK4, bK5, bK6, bK7, bK8]); simp (maxSteps := 10000000) (disch := omega) only [ir15, c1, c2, c3, c4, fits_vE, peq_vE, e, go_sem, ↓reduceIte, Nat.reduceEqDiff, Nat.reduceSub, Nat.reduceLeDiff, Nat.reduceAdd, Int.reduceEq, Int.reduceLT, Int.reduceLE]
 by_cases c5 : tEq a.tb b.tb
 rotate_left
 · have e : sameM a b = false := by simp [sameM, c5]
   (try simp only [bK1, bK2, bK3, bK4, bK5, bK6, bK7, bK8]); simp (maxSteps := 10000000) (disch := omega) only [ir15, c1, c2, c3, c4, c5, fits_vE, peq_vE, fits_tE, peq_tE, e, go_sem, ↓reduceIte, Nat.reduceEqDiff, Nat.reduceSub, Nat.reduceLeDiff, Nat.reduceAdd, Int.reduceEq, Int.reduceLT, Int.reduceLE]
 have e : sameM a b = sameL a.evs b.evs := by simp [sameM, c1, c2, c3, c4, c5]
 (try simp only [bK1, bK2, bK3, bK4, bK5, bK6, bK7, bK8]); simp (maxSteps := 10000000) (disch := omega) only [ir15, c1, c2, c3, c4, c5, fits_vE, peq_vE, fits_tE, peq_tE, go_sem, ↓reduceIte, Nat.reduceEqDiff, Nat.reduceSub, Nat.reduceLeDiff, Nat.reduceAdd, Int.reduceEq, Int.reduceLT, Int.reduceLE]
 refine call_with (okSameEv ⟨ha.1, ha.2.1, fun e he => (ha.2.2.1 e he).1⟩ ⟨hb.1, hb.2.1, fun e he => (hb.2.2.1 e he).1⟩) ?_
 (try simp only [bK1, bK2, bK3, bK4, bK5, bK6, bK7, bK8]); simp (maxSteps := 10000000) (disch := omega) only [e, go_sem, ↓reduceIte, Nat.reduceEqDiff, Nat.reduceSub, Nat.reduceLeDiff, Nat.reduceAdd, Int.reduceEq, Int.reduceLT, Int.reduceLE]
theorem okSameMA (a b : Msg) (ha : mv a) (hb : mv b) {h d} : FunOk Try.prog 15 [.agg (segM a), .vec 76 (msgE b)] h d (.pv (.b (sameM a b))) [] :=
 (okSameM a b ha hb).imp ⟨imp_agg (segM_cells a) (msgE_len a), Imp.refl _, trivial⟩ (by simp [tops, tn])
theorem same_zip : ∀ l : List Evt, (l.zip (l.map canon)).all (fun p => sameB p.1 p.2) = true
 | [] => rfl
 | e :: l => by simp only [List.map_cons, List.zip_cons_cons, List.all_cons, same_zip l, same_self, Bool.and_self]
theorem sameM_self (m : Msg) : sameM m (canM m) = true := by
 have e : sameL m.evs (m.evs.map canon) = true := by
  unfold sameL
  rw [same_zip, List.length_map]; simp
 have h1 : vEq m.kn m.kn := fun _ _ => rfl
 have h2 : tEq m.tb m.tb := fun _ _ _ _ => rfl
 show (decide (m.k = m.k) && (decide (m.fr = m.fr) && (decide (m.to = m.to) && (decide (vEq m.kn m.kn) && (decide (tEq m.tb m.tb) && sameL m.evs (m.evs.map canon)))))) = true
 rw [e]
 simp [h1, h2]
end Go.Proofs.Ytfkmlmckihmihaa.Fw
namespace Go.Proofs.Ytfkmlmckihmihaa.Fw
open Go.RowKit Go.Proofs
mutual
theorem rn_cl {π : Nat → Nat} : ∀ {x : SV}, x.closed = true → x.rn π = x
 | .pv _, _ => rfl
 | .vec _ _, _ => rfl
 | .pi _ _ _ _, _ => rfl
 | .dead, _ => rfl
 | .agg l, h => by simp only [SV.closed] at h; simp only [SV.rn, rnL_cl h]
 | .tup l, h => by simp only [SV.closed] at h; simp only [SV.rn, rnL_cl h]
 | .fn f l, h => by simp only [SV.closed] at h; simp only [SV.rn, rnL_cl h]
 | .p _ _, h => by simp [SV.closed] at h
 | .ps _ _, h => by simp [SV.closed] at h
 | .pr _ _ _ _, h => by simp [SV.closed] at h
 | .os _, h => by simp [SV.closed] at h
 | .ov _ _ _ _, h => by simp [SV.closed] at h
theorem rnL_cl {π : Nat → Nat} : ∀ {l : List SV}, SV.closedL l = true → SV.rnL π l = l
 | [], _ => rfl
 | x :: l, h => by
   simp only [SV.closedL, Bool.and_eq_true] at h
   simp only [SV.rnL, rn_cl h.1, rnL_cl h.2]
end
mutual
theorem tn_cl : ∀ {x : SV}, x.closed = true → tn x = []
 | .pv _, _ => rfl
 | .vec _ _, _ => rfl
 | .pi _ _ _ _, _ => rfl
 | .dead, _ => rfl
 | .agg l, h => rfl
 | .tup l, h => rfl
 | .fn f l, h => by simp only [SV.closed] at h; simp only [tn, tops_cl h]
 | .p _ _, h => by simp [SV.closed] at h
 | .ps _ _, h => by simp [SV.closed] at h
 | .pr _ _ _ _, h => by simp [SV.closed] at h
 | .os _, h => by simp [SV.closed] at h
 | .ov _ _ _ _, h => by simp [SV.closed] at h
theorem tops_cl : ∀ {l : List SV}, SV.closedL l = true → tops l = []
 | [], _ => rfl
 | x :: l, h => by
   simp only [SV.closedL, Bool.and_eq_true] at h
   simp only [tops, tn_cl h.1, tops_cl h.2, List.append_nil]
end
theorem sw1_a (a m : Nat) : sw1 a m a = m := if_pos rfl
theorem FunOk.io {P : Program} {f : Nat} {a : List SV} {c c' x : SV} (hf : ∀ h d, h 900 = some (.var c) → FunOk P f (.p 900 0 :: a) h d x [.upd 900 (.var c')]) (ha : SV.closedL a = true) (hx : x.closed = true) (hc : c.closed = true) (hc' : c'.closed = true) {g : Nat} {h : Nat → Option Blk} {d : Nat} (hg : h g = some (.var c)) :
 FunOk P f (.p g 0 :: a) h d x [.upd g (.var c')] := by
 have h1 := (hf (fun k => h (sw1 900 g k)) d (by show h (sw1 900 g 900) = _; rw [sw1_a]; exact hg)).rn (π := sw1 900 g) (sw1_inv 900 g) (d' := d)
 simp only [SV.rnL, SV.rn, HU.rn, Blk.rn, List.map_cons, List.map_nil, sw1_a, rnL_cl ha, rn_cl hx, rn_cl hc'] at h1
 refine h1.at fun n hn => ?_
 simp only [tops, tn, tops_cl ha, List.append_nil, List.mem_singleton] at hn
 subst hn
 simp only [sw1_inv, hg, Option.map_some, Blk.rn, rn_cl hc]
theorem FunOk.ownAny {P : Program} {f : Nat} {a : List SV} {sz sz' : Nat} {es es' : List (List PV)} (hf : ∀ h d, h 900 = some (.row sz es) → FunOk P f (.os 900 :: a) h d (.os d) [.del 900, .new d (.row sz' es')]) (ha : SV.closedL a = true) {g : Nat} {h : Nat → Option Blk} {d : Nat} (hg : h g = some (.row sz es)) :
 FunOk P f (.os g :: a) h d (.os d) [.del g, .new d (.row sz' es')] := by
 have h1 := (hf (fun k => h (sw1 900 g k)) (sw1 900 g d) (by show h (sw1 900 g 900) = _; rw [sw1_a]; exact hg)).rn (π := sw1 900 g) (sw1_inv 900 g) (d' := d)
 simp only [SV.rnL, SV.rn, HU.rn, Blk.rn, List.map_cons, List.map_nil, sw1_a, rnL_cl ha, sw1_inv] at h1
 refine h1.at fun n hn => ?_
 simp only [tops, tn, tops_cl ha, List.append_nil, List.mem_singleton] at hn
 subst hn
 simp only [sw1_inv, hg, Option.map_some, Blk.rn]
def bagV (f : Bool) (z : Nat) (L : List (List UInt8)) (most : Int) : SV := .agg [.pv (.sl f z (L.map bE)), .pv (.i .i64 most)]
theorem okNewB (most : Int) {h d} : FunOk Try.prog 11 [.pv (.i .i64 most)] h d (.p d 0) [.new d (.var (bagV true 0 [] (max 0 most)))] := by
 refine fun_var mixed fn11 (by simp) rfl rfl fun F => ?_
 (try simp only [bK1, bK2, bK3, bK4, bK5, bK6, bK7, bK8]); simp (maxSteps := 10000000) (disch := omega) only [ir11, go_sem, ↓reduceIte, Nat.reduceEqDiff, Nat.reduceSub, Nat.reduceLeDiff, Nat.reduceAdd, Int.reduceEq, Int.reduceLT, Int.reduceLE]
 exact ⟨6, rfl, if_pos rfl⟩
theorem okLenB {f : Bool} {z : Nat} {L : List (List UInt8)} {most : Int} {g : Nat} {h d} (hg : h g = some (.var (bagV f z L most))) : FunOk Try.prog 16 [.p g 0] h d (.pv (.i .i64 L.length)) [.upd g (.var (bagV f z L most))] := by
 refine FunOk.io (fun h d hg => ?_) rfl rfl rfl rfl hg
 refine fun_io1 (g := 900) mixed fn16 (by simp) (by simp [tops, tn]) (by simp [tops, tn]) hg rfl (by simp [Blk.ptr, SV.kill]) rfl (fun _ => rfl) fun F => ?_
 (try simp only [bK1, bK2, bK3, bK4, bK5, bK6, bK7, bK8]); simp (maxSteps := 10000000) (disch := omega) only [ir16, bagV, Blk.ptr, go_sem, ↓reduceIte, Nat.reduceEqDiff, Nat.reduceSub, Nat.reduceLeDiff, Nat.reduceAdd, Int.reduceEq, Int.reduceLT, Int.reduceLE]
 refine ⟨_, .same _, ?_⟩
 (try simp only [bK1, bK2, bK3, bK4, bK5, bK6, bK7, bK8]); simp (maxSteps := 10000000) (disch := omega) only [go_sem, ↓reduceIte, Nat.reduceEqDiff, Nat.reduceSub, Nat.reduceLeDiff, Nat.reduceAdd, Int.reduceEq, Int.reduceLT, Int.reduceLE]
 exact ⟨900, rfl, if_pos rfl⟩
def mayB (L : List (List UInt8)) (i : Int) : Int := if 0 ≤ i ∧ i < L.length then 0 else 2
theorem okMayB {f : Bool} {z : Nat} {L : List (List UInt8)} {most i : Int} {g : Nat} {h d} (hg : h g = some (.var (bagV f z L most))) : FunOk Try.prog 31 [.p g 0, .pv (.i .i64 i)] h d (.pv (.i .i64 (mayB L i))) [.upd g (.var (bagV f z L most))] := by
 refine FunOk.io (fun h d hg => ?_) rfl rfl rfl rfl hg
 refine fun_io1 (g := 900) mixed fn31 (by simp) (by simp [tops, tn]) (by simp [tops, tn]) hg rfl (by simp [Blk.ptr, SV.kill]) rfl (fun _ => rfl) fun F => ?_
 by_cases h0 : i < 0
 · have e : mayB L i = 2 := if_neg (by omega)
   (try simp only [bK1, bK2, bK3, bK4, bK5, bK6, bK7, bK8]); simp (maxSteps := 10000000) (disch := omega) only [ir31, bagV, Blk.ptr, h0, go_sem, ↓reduceIte, Nat.reduceEqDiff, Nat.reduceSub, Nat.reduceLeDiff, Nat.reduceAdd, Int.reduceEq, Int.reduceLT, Int.reduceLE]
   refine ⟨_, .same _, ?_⟩
   (try simp only [bK1, bK2, bK3, bK4, bK5, bK6, bK7, bK8]); simp (maxSteps := 10000000) (disch := omega) only [e, go_sem, ↓reduceIte, Nat.reduceEqDiff, Nat.reduceSub, Nat.reduceLeDiff, Nat.reduceAdd, Int.reduceEq, Int.reduceLT, Int.reduceLE]
   exact ⟨900, rfl, if_pos rfl⟩
 by_cases h1 : (L.length : Int) ≤ i
 · have e : mayB L i = 2 := if_neg (by omega)
   (try simp only [bK1, bK2, bK3, bK4, bK5, bK6, bK7, bK8]); simp (maxSteps := 10000000) (disch := omega) only [ir31, bagV, Blk.ptr, h0, h1, List.length_map, go_sem, ↓reduceIte, Nat.reduceEqDiff, Nat.reduceSub, Nat.reduceLeDiff, Nat.reduceAdd, Int.reduceEq, Int.reduceLT, Int.reduceLE]
   refine ⟨_, .same _, ?_⟩
   (try simp only [bK1, bK2, bK3, bK4, bK5, bK6, bK7, bK8]); simp (maxSteps := 10000000) (disch := omega) only [e, go_sem, ↓reduceIte, Nat.reduceEqDiff, Nat.reduceSub, Nat.reduceLeDiff, Nat.reduceAdd, Int.reduceEq, Int.reduceLT, Int.reduceLE]
   exact ⟨900, rfl, if_pos rfl⟩
 · have e : mayB L i = 0 := if_pos (by omega)
   (try simp only [bK1, bK2, bK3, bK4, bK5, bK6, bK7, bK8]); simp (maxSteps := 10000000) (disch := omega) only [ir31, bagV, Blk.ptr, h0, h1, List.length_map, go_sem, ↓reduceIte, Nat.reduceEqDiff, Nat.reduceSub, Nat.reduceLeDiff, Nat.reduceAdd, Int.reduceEq, Int.reduceLT, Int.reduceLE]
   refine ⟨_, .same _, ?_⟩
   (try simp only [bK1, bK2, bK3, bK4, bK5, bK6, bK7, bK8]); simp (maxSteps := 10000000) (disch := omega) only [e, go_sem, ↓reduceIte, Nat.reduceEqDiff, Nat.reduceSub, Nat.reduceLeDiff, Nat.reduceAdd, Int.reduceEq, Int.reduceLT, Int.reduceLE]
   exact ⟨900, rfl, if_pos rfl⟩
theorem okClipB {f : Bool} {z : Nat} {es : List (List PV)} (hz : es = [] ∨ z = 1) {h d} : FunOk Try.prog 30 [.pv (.sl f z es)] h d (.pv (.sl true z es)) [] := by
 refine fun_pure mixed fn30 (by simp) rfl rfl fun F => ?_
 have e := List.take_length (l := es)
 (try simp only [bK1, bK2, bK3, bK4, bK5, bK6, bK7, bK8]); simp (maxSteps := 10000000) (disch := omega) only [ir30, hz, e, List.drop_zero, go_sem, ↓reduceIte, Nat.reduceEqDiff, Nat.reduceSub, Nat.reduceLeDiff, Nat.reduceAdd, Int.reduceEq, Int.reduceLT, Int.reduceLE]
theorem okCloneB {f : Bool} {z : Nat} {es : List (List PV)} (hne : es ≠ []) (hz : es = [] ∨ z = 1) (hn : es.length ≤ 100000) {h d} : FunOk Try.prog 33 [.pv (.sl f z es)] h d (.os d) [.new d (.row 1 es)] := by
 refine fun_row mixed fn33 (by simp) rfl (.inl rfl) fun F => ?_
 (try simp only [bK1, bK2, bK3, bK4, bK5, bK6, bK7, bK8]); simp (maxSteps := 10000000) (disch := omega) only [ir33, hz, go_sem, ↓reduceIte, Nat.reduceEqDiff, Nat.reduceSub, Nat.reduceLeDiff, Nat.reduceAdd, Int.reduceEq, Int.reduceLT, Int.reduceLE]
 intro b hb
 have hb' := hb hne
 subst hb'
 (try simp only [bK1, bK2, bK3, bK4, bK5, bK6, bK7, bK8]); simp (maxSteps := 10000000) (disch := omega) only [hz, go_sem, ↓reduceIte, Nat.reduceEqDiff, Nat.reduceSub, Nat.reduceLeDiff, Nat.reduceAdd, Int.reduceEq, Int.reduceLT, Int.reduceLE]
theorem okDelB {es : List (List PV)} {i : Nat} (hi : i < es.length) (hn : es.length ≤ 100000) {g : Nat} {h d} (hg : h g = some (.row 1 es)) : FunOk Try.prog 32 [.os g, .pv (.i .i64 i), .pv (.i .i64 ((i : Int) + 1))] h d (.os d) [.del g, .new d (.row 1 (es.take i ++ es.drop (i + 1)))] := by
 refine FunOk.ownAny (fun h d hg => ?_) rfl hg
 refine fun_ownV mixed fn32 (by simp) rfl fun F => ?_
 have n1 : ¬ (i : Int) = (i : Int) + 1 := by omega
 have ei : ((i : Int) + 1).toNat = i + 1 := by omega
 have hA : (es.take i ++ es.drop (i + 1)).length = i + (es.drop (i + 1)).length := by simp; omega
 (try simp only [bK1, bK2, bK3, bK4, bK5, bK6, bK7, bK8]); simp (maxSteps := 10000000) (disch := omega) only [ir32, hg, n1, ei, go_sem, ↓reduceIte, Nat.reduceEqDiff, Nat.reduceSub, Nat.reduceLeDiff, Nat.reduceAdd, Int.reduceEq, Int.reduceLT, Int.reduceLE]
 refine ⟨by simp; omega, by simp; omega, by simp; omega, 900, _, _, rfl, if_pos rfl, ?_⟩
 rw [List.take_left' hA, List.append_assoc, List.take_left' hA]
theorem mkOr_sgM (m : Msg) (K : KK) : mkOr (cut (segM m) 0 76) true (some (msgE m)) 0 76 K = K (.agg (segM m)) [] := (rfl)
theorem okAtB_bad {f : Bool} {z : Nat} {L : List (List UInt8)} {most i : Int} (hi : ¬ (0 ≤ i ∧ i < L.length)) {g : Nat} {h d} (hg : h g = some (.var (bagV f z L most))) : FunOk Try.prog 21 [.p g 0, .pv (.i .i64 i)] h d (.tup [.agg seg0, .pv (.i .i64 2)]) [.upd g (.var (bagV f z L most))] := by
 refine FunOk.io (fun h d hg => ?_) rfl rfl rfl rfl hg
 refine fun_io1 (g := 900) mixed fn21 (by simp) (by simp [tops, tn]) (by simp [tops, tn]) hg rfl (by simp [Blk.ptr, SV.kill]) rfl (fun _ => rfl) fun F => ?_
 have e : mayB L i = 2 := if_neg hi
 (try simp only [bK1, bK2, bK3, bK4, bK5, bK6, bK7, bK8]); simp (maxSteps := 10000000) (disch := omega) only [ir21, Blk.ptr, go_sem, ↓reduceIte, Nat.reduceEqDiff, Nat.reduceSub, Nat.reduceLeDiff, Nat.reduceAdd, Int.reduceEq, Int.reduceLT, Int.reduceLE]
 refine call_with (okMayB (by simp [mk, lk]; rfl)) ?_
 (try simp only [bK1, bK2, bK3, bK4, bK5, bK6, bK7, bK8]); simp (maxSteps := 10000000) (disch := omega) only [e, go_sem, ↓reduceIte, Nat.reduceEqDiff, Nat.reduceSub, Nat.reduceLeDiff, Nat.reduceAdd, Int.reduceEq, Int.reduceLT, Int.reduceLE]
 refine ⟨_, .same _, ?_⟩
 (try simp only [bK1, bK2, bK3, bK4, bK5, bK6, bK7, bK8]); simp (maxSteps := 10000000) (disch := omega) only [go_sem, ↓reduceIte, Nat.reduceEqDiff, Nat.reduceSub, Nat.reduceLeDiff, Nat.reduceAdd, Int.reduceEq, Int.reduceLT, Int.reduceLE]
 exact ⟨900, rfl, rfl⟩
theorem okAtB {f : Bool} {z : Nat} {L : List (List UInt8)} {most : Int} {k : Nat} {m : Msg} (hz : L = [] ∨ z = 1) (hk : L[k]? = some (writeM m)) (hm : mv m) (hc : checkM m = true) {g : Nat} {h d} (hg : h g = some (.var (bagV f z L most))) : FunOk Try.prog 21 [.p g 0, .pv (.i .i64 k)] h d (.tup [.agg (segM (canM m)), .pv (.i .i64 0)]) [.upd g (.var (bagV f z L most))] := by
 refine FunOk.io (fun h d hg => ?_) rfl rfl rfl rfl hg
 refine fun_io1 (g := 900) mixed fn21 (by simp) (by simp [tops, tn]) (by simp [tops, tn]) hg rfl (by simp [Blk.ptr, SV.kill]) rfl (fun _ => rfl) fun F => ?_
 have hlt := (List.getElem?_eq_some_iff.1 hk).1
 have e : mayB L k = 0 := if_pos (by omega)
 have hz1 : z = 1 := hz.resolve_left fun e => by subst e; simp at hlt
 subst hz1
 have he : (L.map bE)[k]? = some [.sl false 1 (bytesE (writeM m))] := by rw [List.getElem?_map, hk]; rfl
 (try simp only [bK1, bK2, bK3, bK4, bK5, bK6, bK7, bK8]); simp (maxSteps := 10000000) (disch := omega) only [ir21, Blk.ptr, go_sem, ↓reduceIte, Nat.reduceEqDiff, Nat.reduceSub, Nat.reduceLeDiff, Nat.reduceAdd, Int.reduceEq, Int.reduceLT, Int.reduceLE]
 refine call_with (okMayB (by simp [mk, lk]; rfl)) ?_
 (try simp only [bK1, bK2, bK3, bK4, bK5, bK6, bK7, bK8]); simp (maxSteps := 10000000) (disch := omega) only [e, bagV, List.length_map, he, ld_sl, go_sem, ↓reduceIte, Nat.reduceEqDiff, Nat.reduceSub, Nat.reduceLeDiff, Nat.reduceAdd, Int.reduceEq, Int.reduceLT, Int.reduceLE]
 refine call_with (okReadM m hm hc) ?_
 (try simp only [bK1, bK2, bK3, bK4, bK5, bK6, bK7, bK8]); simp (maxSteps := 10000000) (disch := omega) only [go_sem, ↓reduceIte, Nat.reduceEqDiff, Nat.reduceSub, Nat.reduceLeDiff, Nat.reduceAdd, Int.reduceEq, Int.reduceLT, Int.reduceLE]
 refine ⟨_, .same _, ?_⟩
 (try simp only [bK1, bK2, bK3, bK4, bK5, bK6, bK7, bK8]); simp (maxSteps := 10000000) (disch := omega) only [segM_cells, mkOr_sgM, go_sem, ↓reduceIte, Nat.reduceEqDiff, Nat.reduceSub, Nat.reduceLeDiff, Nat.reduceAdd, Int.reduceEq, Int.reduceLT, Int.reduceLE]
 exact ⟨900, rfl, rfl⟩
theorem okPutB_bad {f : Bool} {z : Nat} {L : List (List UInt8)} {most : Int} (m : Msg) (hm : mv m) (hc : checkM m = false) {g : Nat} {h d} (hg : h g = some (.var (bagV f z L most))) : FunOk Try.prog 12 [.p g 0, .vec 76 (msgE m)] h d (.pv (.i .i64 7)) [.upd g (.var (bagV f z L most))] := by
 refine FunOk.io (fun h d hg => ?_) rfl rfl rfl rfl hg
 refine fun_io1 (g := 900) mixed fn12 (by simp) (by simp [tops, tn]) (by simp [tops, tn]) hg rfl (by simp [Blk.ptr, SV.kill]) rfl (fun _ => rfl) fun F => ?_
 (try simp only [bK1, bK2, bK3, bK4, bK5, bK6, bK7, bK8]); simp (maxSteps := 10000000) (disch := omega) only [ir12, Blk.ptr, go_sem, ↓reduceIte, Nat.reduceEqDiff, Nat.reduceSub, Nat.reduceLeDiff, Nat.reduceAdd, Int.reduceEq, Int.reduceLT, Int.reduceLE]
 refine call_with (okWriteM_bad m hm hc) ?_
 (try simp only [bK1, bK2, bK3, bK4, bK5, bK6, bK7, bK8]); simp (maxSteps := 10000000) (disch := omega) only [go_sem, ↓reduceIte, Nat.reduceEqDiff, Nat.reduceSub, Nat.reduceLeDiff, Nat.reduceAdd, Int.reduceEq, Int.reduceLT, Int.reduceLE]
 refine ⟨_, .same _, ?_⟩
 (try simp only [bK1, bK2, bK3, bK4, bK5, bK6, bK7, bK8]); simp (maxSteps := 10000000) (disch := omega) only [go_sem, ↓reduceIte, Nat.reduceEqDiff, Nat.reduceSub, Nat.reduceLeDiff, Nat.reduceAdd, Int.reduceEq, Int.reduceLT, Int.reduceLE]
 exact ⟨900, rfl, rfl⟩
theorem okPutB_full {f : Bool} {z : Nat} {L : List (List UInt8)} {most : Int} (m : Msg) (hm : mv m) (hc : checkM m = true) (hf : most ≤ L.length) {g : Nat} {h d} (hg : h g = some (.var (bagV f z L most))) : FunOk Try.prog 12 [.p g 0, .vec 76 (msgE m)] h d (.pv (.i .i64 5)) [.upd g (.var (bagV f z L most))] := by
 refine FunOk.io (fun h d hg => ?_) rfl rfl rfl rfl hg
 refine fun_io1 (g := 900) mixed fn12 (by simp) (by simp [tops, tn]) (by simp [tops, tn]) hg rfl (by simp [Blk.ptr, SV.kill]) rfl (fun _ => rfl) fun F => ?_
 (try simp only [bK1, bK2, bK3, bK4, bK5, bK6, bK7, bK8]); simp (maxSteps := 10000000) (disch := omega) only [ir12, Blk.ptr, go_sem, ↓reduceIte, Nat.reduceEqDiff, Nat.reduceSub, Nat.reduceLeDiff, Nat.reduceAdd, Int.reduceEq, Int.reduceLT, Int.reduceLE]
 refine call_with (okWriteM m hm hc) ?_
 (try simp only [bK1, bK2, bK3, bK4, bK5, bK6, bK7, bK8]); simp (maxSteps := 10000000) (disch := omega) only [bagV, List.length_map, hf, go_sem, ↓reduceIte, Nat.reduceEqDiff, Nat.reduceSub, Nat.reduceLeDiff, Nat.reduceAdd, Int.reduceEq, Int.reduceLT, Int.reduceLE]
 refine ⟨_, .same _, ?_⟩
 (try simp only [bK1, bK2, bK3, bK4, bK5, bK6, bK7, bK8]); simp (maxSteps := 10000000) (disch := omega) only [go_sem, ↓reduceIte, Nat.reduceEqDiff, Nat.reduceSub, Nat.reduceLeDiff, Nat.reduceAdd, Int.reduceEq, Int.reduceLT, Int.reduceLE]
 exact ⟨900, rfl, rfl⟩
theorem okPutB {f : Bool} {z : Nat} {L : List (List UInt8)} {most : Int} (m : Msg) (hm : mv m) (hc : checkM m = true) (hf : ¬ most ≤ L.length) (hz : L = [] ∨ z = 1) (hn : L.length ≤ 1000) {g : Nat} {h d} (hg : h g = some (.var (bagV f z L most))) : FunOk Try.prog 12 [.p g 0, .vec 76 (msgE m)] h d (.pv (.i .i64 0)) [.upd g (.var (bagV false 1 (L ++ [writeM m]) most))] := by
 refine FunOk.io (fun h d hg => ?_) rfl rfl rfl rfl hg
 refine fun_io1 (g := 900) mixed fn12 (by simp) (by simp [tops, tn]) (by simp [tops, tn]) hg rfl (by simp [Blk.ptr, SV.kill]) rfl (fun _ => rfl) fun F => ?_
 have hz' : L.map bE = [] ∨ z = 1 := hz.imp_left fun e => by rw [e]; rfl
 (try simp only [bK1, bK2, bK3, bK4, bK5, bK6, bK7, bK8]); simp (maxSteps := 10000000) (disch := omega) only [ir12, Blk.ptr, go_sem, ↓reduceIte, Nat.reduceEqDiff, Nat.reduceSub, Nat.reduceLeDiff, Nat.reduceAdd, Int.reduceEq, Int.reduceLT, Int.reduceLE]
 refine call_with (okWriteM m hm hc) ?_
 (try simp only [bK1, bK2, bK3, bK4, bK5, bK6, bK7, bK8]); simp (maxSteps := 10000000) (disch := omega) only [bagV, List.length_map, hf, go_sem, ↓reduceIte, Nat.reduceEqDiff, Nat.reduceSub, Nat.reduceLeDiff, Nat.reduceAdd, Int.reduceEq, Int.reduceLT, Int.reduceLE]
 refine call_with (okClipB hz') ?_
 have ne : ([[PV.sl false 1 (bytesE (writeM m))]] = ([] : List (List PV))) = False := by simp
 have em : L.map bE ++ [[PV.sl false 1 (bytesE (writeM m))]] = (L ++ [writeM m]).map bE := by simp [bE]
 (try simp only [bK1, bK2, bK3, bK4, bK5, bK6, bK7, bK8]); simp (maxSteps := 10000000) (disch := omega) only [List.length_map, hz', ne, em, go_sem, ↓reduceIte, Nat.reduceEqDiff, Nat.reduceSub, Nat.reduceLeDiff, Nat.reduceAdd, Int.reduceEq, Int.reduceLT, Int.reduceLE]
 refine ⟨_, wk_frz 37 rfl (.same _), ?_⟩
 (try simp only [bK1, bK2, bK3, bK4, bK5, bK6, bK7, bK8]); simp (maxSteps := 10000000) (disch := omega) only [go_sem, ↓reduceIte, Nat.reduceEqDiff, Nat.reduceSub, Nat.reduceLeDiff, Nat.reduceAdd, Int.reduceEq, Int.reduceLT, Int.reduceLE]
 exact ⟨900, rfl, rfl⟩
theorem okLateB_bad {f : Bool} {z : Nat} {L : List (List UInt8)} {most i : Int} (hi : ¬ (0 ≤ i ∧ i < L.length)) {g : Nat} {h d} (hg : h g = some (.var (bagV f z L most))) : FunOk Try.prog 13 [.p g 0, .pv (.i .i64 i)] h d (.pv (.i .i64 2)) [.upd g (.var (bagV f z L most))] := by
 refine FunOk.io (fun h d hg => ?_) rfl rfl rfl rfl hg
 refine fun_io1 (g := 900) mixed fn13 (by simp) (by simp [tops, tn]) (by simp [tops, tn]) hg rfl (by simp [Blk.ptr, SV.kill]) rfl (fun _ => rfl) fun F => ?_
 have e : mayB L i = 2 := if_neg hi
 (try simp only [bK1, bK2, bK3, bK4, bK5, bK6, bK7, bK8]); simp (maxSteps := 10000000) (disch := omega) only [ir13, Blk.ptr, go_sem, ↓reduceIte, Nat.reduceEqDiff, Nat.reduceSub, Nat.reduceLeDiff, Nat.reduceAdd, Int.reduceEq, Int.reduceLT, Int.reduceLE]
 refine call_with (okMayB (by simp [mk, lk]; rfl)) ?_
 (try simp only [bK1, bK2, bK3, bK4, bK5, bK6, bK7, bK8]); simp (maxSteps := 10000000) (disch := omega) only [e, go_sem, ↓reduceIte, Nat.reduceEqDiff, Nat.reduceSub, Nat.reduceLeDiff, Nat.reduceAdd, Int.reduceEq, Int.reduceLT, Int.reduceLE]
 refine ⟨_, .same _, ?_⟩
 (try simp only [bK1, bK2, bK3, bK4, bK5, bK6, bK7, bK8]); simp (maxSteps := 10000000) (disch := omega) only [go_sem, ↓reduceIte, Nat.reduceEqDiff, Nat.reduceSub, Nat.reduceLeDiff, Nat.reduceAdd, Int.reduceEq, Int.reduceLT, Int.reduceLE]
 exact ⟨900, rfl, rfl⟩
theorem okLateB {f : Bool} {z : Nat} {L : List (List UInt8)} {most : Int} {k : Nat} {b : List UInt8} (hz : L = [] ∨ z = 1) (hk : L[k]? = some b) (hn : L.length ≤ 1000) {g : Nat} {h d} (hg : h g = some (.var (bagV f z L most))) : FunOk Try.prog 13 [.p g 0, .pv (.i .i64 k)] h d (.pv (.i .i64 0)) [.upd g (.var (bagV false 1 (L.take k ++ L.drop (k + 1) ++ [b]) most))] := by
 refine FunOk.io (fun h d hg => ?_) rfl rfl rfl rfl hg
 refine fun_io1 (g := 900) mixed fn13 (by simp) (by simp [tops, tn]) (by simp [tops, tn]) hg rfl (by simp [Blk.ptr, SV.kill]) rfl (fun _ => rfl) fun F => ?_
 have hlt := (List.getElem?_eq_some_iff.1 hk).1
 have e : mayB L k = 0 := if_pos (by omega)
 have hz1 : z = 1 := hz.resolve_left fun e => by subst e; simp at hlt
 subst hz1
 have hne : L.map bE ≠ [] := by intro e; rw [List.map_eq_nil_iff] at e; subst e; simp at hlt
 have he : (L.map bE)[k]? = some [.sl false 1 (bytesE b)] := by rw [List.getElem?_map, hk]; rfl
 have hml : (L.map bE).length ≤ 100000 := by simp; omega
 have hmk : k < (L.map bE).length := by simpa using hlt
 (try simp only [bK1, bK2, bK3, bK4, bK5, bK6, bK7, bK8]); simp (maxSteps := 10000000) (disch := omega) only [ir13, Blk.ptr, go_sem, ↓reduceIte, Nat.reduceEqDiff, Nat.reduceSub, Nat.reduceLeDiff, Nat.reduceAdd, Int.reduceEq, Int.reduceLT, Int.reduceLE]
 refine call_with (okMayB (by simp [mk, lk]; rfl)) ?_
 (try simp only [bK1, bK2, bK3, bK4, bK5, bK6, bK7, bK8]); simp (maxSteps := 10000000) (disch := omega) only [e, bagV, List.length_map, he, ld_sl, go_sem, ↓reduceIte, Nat.reduceEqDiff, Nat.reduceSub, Nat.reduceLeDiff, Nat.reduceAdd, Int.reduceEq, Int.reduceLT, Int.reduceLE]
 refine call_with (okCloneB hne (.inr rfl) hml) ?_
 (try simp only [bK1, bK2, bK3, bK4, bK5, bK6, bK7, bK8]); simp (maxSteps := 10000000) (disch := omega) only [go_sem, ↓reduceIte, Nat.reduceEqDiff, Nat.reduceSub, Nat.reduceLeDiff, Nat.reduceAdd, Int.reduceEq, Int.reduceLT, Int.reduceLE]
 refine call_with (okDelB hmk hml rfl) ?_
 have em : List.take k (L.map bE) ++ List.drop (k + 1) (L.map bE) ++ [[PV.sl false 1 (bytesE b)]] = (L.take k ++ L.drop (k + 1) ++ [b]).map bE := by simp [bE]
 (try simp only [bK1, bK2, bK3, bK4, bK5, bK6, bK7, bK8]); simp (maxSteps := 10000000) (disch := omega) only [List.length_append, List.length_take, List.length_drop, List.length_map, em, go_sem, ↓reduceIte, Nat.reduceEqDiff, Nat.reduceSub, Nat.reduceLeDiff, Nat.reduceAdd, Int.reduceEq, Int.reduceLT, Int.reduceLE]
 refine ⟨_, wk_frz 32 rfl (.same _), ?_⟩
 (try simp only [bK1, bK2, bK3, bK4, bK5, bK6, bK7, bK8]); simp (maxSteps := 10000000) (disch := omega) only [go_sem, ↓reduceIte, Nat.reduceEqDiff, Nat.reduceSub, Nat.reduceLeDiff, Nat.reduceAdd, Int.reduceEq, Int.reduceLT, Int.reduceLE]
 exact ⟨900, rfl, rfl⟩
theorem okTakeB_bad {f : Bool} {z : Nat} {L : List (List UInt8)} {most i : Int} (hi : ¬ (0 ≤ i ∧ i < L.length)) {g : Nat} {h d} (hg : h g = some (.var (bagV f z L most))) : FunOk Try.prog 14 [.p g 0, .pv (.i .i64 i)] h d (.tup [.agg seg0, .pv (.i .i64 2)]) [.upd g (.var (bagV f z L most))] := by
 refine FunOk.io (fun h d hg => ?_) rfl rfl rfl rfl hg
 refine fun_io1 (g := 900) mixed fn14 (by simp) (by simp [tops, tn]) (by simp [tops, tn]) hg rfl (by simp [Blk.ptr, SV.kill]) rfl (fun _ => rfl) fun F => ?_
 (try simp only [bK1, bK2, bK3, bK4, bK5, bK6, bK7, bK8]); simp (maxSteps := 10000000) (disch := omega) only [ir14, Blk.ptr, go_sem, ↓reduceIte, Nat.reduceEqDiff, Nat.reduceSub, Nat.reduceLeDiff, Nat.reduceAdd, Int.reduceEq, Int.reduceLT, Int.reduceLE]
 refine call_with (okAtB_bad hi (by simp [mk, lk]; rfl)) ?_
 (try simp only [bK1, bK2, bK3, bK4, bK5, bK6, bK7, bK8]); simp (maxSteps := 10000000) (disch := omega) only [go_sem, ↓reduceIte, Nat.reduceEqDiff, Nat.reduceSub, Nat.reduceLeDiff, Nat.reduceAdd, Int.reduceEq, Int.reduceLT, Int.reduceLE]
 refine ⟨_, .same _, ?_⟩
 (try simp only [bK1, bK2, bK3, bK4, bK5, bK6, bK7, bK8]); simp (maxSteps := 10000000) (disch := omega) only [go_sem, ↓reduceIte, Nat.reduceEqDiff, Nat.reduceSub, Nat.reduceLeDiff, Nat.reduceAdd, Int.reduceEq, Int.reduceLT, Int.reduceLE]
 exact ⟨900, rfl, rfl⟩
theorem okTakeB {f : Bool} {z : Nat} {L : List (List UInt8)} {most : Int} {k : Nat} {m : Msg} (hz : L = [] ∨ z = 1) (hk : L[k]? = some (writeM m)) (hm : mv m) (hc : checkM m = true) (hn : L.length ≤ 1000) {g : Nat} {h d} (hg : h g = some (.var (bagV f z L most))) : FunOk Try.prog 14 [.p g 0, .pv (.i .i64 k)] h d (.tup [.agg (segM (canM m)), .pv (.i .i64 0)]) [.upd g (.var (bagV false 1 (L.take k ++ L.drop (k + 1)) most))] := by
 refine FunOk.io (fun h d hg => ?_) rfl rfl rfl rfl hg
 refine fun_io1 (g := 900) mixed fn14 (by simp) (by simp [tops, tn]) (by simp [tops, tn]) hg rfl (by simp [Blk.ptr, SV.kill]) rfl (fun _ => rfl) fun F => ?_
 have hlt := (List.getElem?_eq_some_iff.1 hk).1
 have hz1 : z = 1 := hz.resolve_left fun e => by subst e; simp at hlt
 subst hz1
 have hne : L.map bE ≠ [] := by intro e; rw [List.map_eq_nil_iff] at e; subst e; simp at hlt
 have hml : (L.map bE).length ≤ 100000 := by simp; omega
 have hmk : k < (L.map bE).length := by simpa using hlt
 (try simp only [bK1, bK2, bK3, bK4, bK5, bK6, bK7, bK8]); simp (maxSteps := 10000000) (disch := omega) only [ir14, Blk.ptr, go_sem, ↓reduceIte, Nat.reduceEqDiff, Nat.reduceSub, Nat.reduceLeDiff, Nat.reduceAdd, Int.reduceEq, Int.reduceLT, Int.reduceLE]
 refine call_with (okAtB hz hk hm hc (by simp [mk, lk]; rfl)) ?_
 (try simp only [bK1, bK2, bK3, bK4, bK5, bK6, bK7, bK8]); simp (maxSteps := 10000000) (disch := omega) only [bagV, go_sem, ↓reduceIte, Nat.reduceEqDiff, Nat.reduceSub, Nat.reduceLeDiff, Nat.reduceAdd, Int.reduceEq, Int.reduceLT, Int.reduceLE]
 refine call_with (okCloneB hne (.inr rfl) hml) ?_
 (try simp only [bK1, bK2, bK3, bK4, bK5, bK6, bK7, bK8]); simp (maxSteps := 10000000) (disch := omega) only [go_sem, ↓reduceIte, Nat.reduceEqDiff, Nat.reduceSub, Nat.reduceLeDiff, Nat.reduceAdd, Int.reduceEq, Int.reduceLT, Int.reduceLE]
 refine call_with (okDelB hmk hml rfl) ?_
 have em : List.take k (L.map bE) ++ List.drop (k + 1) (L.map bE) = (L.take k ++ L.drop (k + 1)).map bE := by simp
 (try simp only [bK1, bK2, bK3, bK4, bK5, bK6, bK7, bK8]); simp (maxSteps := 10000000) (disch := omega) only [em, segM_cells, mkOr_sgM, go_sem, ↓reduceIte, Nat.reduceEqDiff, Nat.reduceSub, Nat.reduceLeDiff, Nat.reduceAdd, Int.reduceEq, Int.reduceLT, Int.reduceLE]
 refine ⟨_, wk_frz 25 rfl (.same _), ?_⟩
 (try simp only [bK1, bK2, bK3, bK4, bK5, bK6, bK7, bK8]); simp (maxSteps := 10000000) (disch := omega) only [segM_cells, mkOr_sgM, go_sem, ↓reduceIte, Nat.reduceEqDiff, Nat.reduceSub, Nat.reduceLeDiff, Nat.reduceAdd, Int.reduceEq, Int.reduceLT, Int.reduceLE]
 exact ⟨900, rfl, rfl⟩
theorem okPutA {f : Bool} {z : Nat} {L : List (List UInt8)} {most : Int} (m : Msg) (hm : mv m) (hc : checkM m = true) (hf : ¬ most ≤ L.length) (hz : L = [] ∨ z = 1) (hn : L.length ≤ 1000) {g : Nat} {h d} (hg : h g = some (.var (bagV f z L most))) : FunOk Try.prog 12 [.p g 0, .agg (segM m)] h d (.pv (.i .i64 0)) [.upd g (.var (bagV false 1 (L ++ [writeM m]) most))] :=
 (okPutB m hm hc hf hz hn hg).imp ⟨Imp.refl _, imp_agg (segM_cells m) (msgE_len m), trivial⟩ (by simp [tops, tn])
theorem okPutA_full {f : Bool} {z : Nat} {L : List (List UInt8)} {most : Int} (m : Msg) (hm : mv m) (hc : checkM m = true) (hf : most ≤ L.length) {g : Nat} {h d} (hg : h g = some (.var (bagV f z L most))) : FunOk Try.prog 12 [.p g 0, .agg (segM m)] h d (.pv (.i .i64 5)) [.upd g (.var (bagV f z L most))] :=
 (okPutB_full m hm hc hf hg).imp ⟨Imp.refl _, imp_agg (segM_cells m) (msgE_len m), trivial⟩ (by simp [tops, tn])
theorem okCopyB_bad {f : Bool} {z : Nat} {L : List (List UInt8)} {most i : Int} (hi : ¬ (0 ≤ i ∧ i < L.length)) {g : Nat} {h d} (hg : h g = some (.var (bagV f z L most))) : FunOk Try.prog 18 [.p g 0, .pv (.i .i64 i)] h d (.pv (.i .i64 2)) [.upd g (.var (bagV f z L most))] := by
 refine FunOk.io (fun h d hg => ?_) rfl rfl rfl rfl hg
 refine fun_io1 (g := 900) mixed fn18 (by simp) (by simp [tops, tn]) (by simp [tops, tn]) hg rfl (by simp [Blk.ptr, SV.kill]) rfl (fun _ => rfl) fun F => ?_
 (try simp only [bK1, bK2, bK3, bK4, bK5, bK6, bK7, bK8]); simp (maxSteps := 10000000) (disch := omega) only [ir18, Blk.ptr, go_sem, ↓reduceIte, Nat.reduceEqDiff, Nat.reduceSub, Nat.reduceLeDiff, Nat.reduceAdd, Int.reduceEq, Int.reduceLT, Int.reduceLE]
 refine call_with (okAtB_bad hi (by simp [mk, lk]; rfl)) ?_
 (try simp only [bK1, bK2, bK3, bK4, bK5, bK6, bK7, bK8]); simp (maxSteps := 10000000) (disch := omega) only [go_sem, ↓reduceIte, Nat.reduceEqDiff, Nat.reduceSub, Nat.reduceLeDiff, Nat.reduceAdd, Int.reduceEq, Int.reduceLT, Int.reduceLE]
 refine ⟨_, .same _, ?_⟩
 (try simp only [bK1, bK2, bK3, bK4, bK5, bK6, bK7, bK8]); simp (maxSteps := 10000000) (disch := omega) only [go_sem, ↓reduceIte, Nat.reduceEqDiff, Nat.reduceSub, Nat.reduceLeDiff, Nat.reduceAdd, Int.reduceEq, Int.reduceLT, Int.reduceLE]
 exact ⟨900, rfl, rfl⟩
theorem okCopyB_full {f : Bool} {z : Nat} {L : List (List UInt8)} {most : Int} {k : Nat} {m : Msg} (hz : L = [] ∨ z = 1) (hk : L[k]? = some (writeM m)) (hm : mv m) (hc : checkM m = true) (hf : most ≤ L.length) {g : Nat} {h d} (hg : h g = some (.var (bagV f z L most))) : FunOk Try.prog 18 [.p g 0, .pv (.i .i64 k)] h d (.pv (.i .i64 5)) [.upd g (.var (bagV f z L most))] := by
 refine FunOk.io (fun h d hg => ?_) rfl rfl rfl rfl hg
 refine fun_io1 (g := 900) mixed fn18 (by simp) (by simp [tops, tn]) (by simp [tops, tn]) hg rfl (by simp [Blk.ptr, SV.kill]) rfl (fun _ => rfl) fun F => ?_
 (try simp only [bK1, bK2, bK3, bK4, bK5, bK6, bK7, bK8]); simp (maxSteps := 10000000) (disch := omega) only [ir18, Blk.ptr, go_sem, ↓reduceIte, Nat.reduceEqDiff, Nat.reduceSub, Nat.reduceLeDiff, Nat.reduceAdd, Int.reduceEq, Int.reduceLT, Int.reduceLE]
 refine call_with (okAtB hz hk hm hc (by simp [mk, lk]; rfl)) ?_
 (try simp only [bK1, bK2, bK3, bK4, bK5, bK6, bK7, bK8]); simp (maxSteps := 10000000) (disch := omega) only [segM_cells, mkOr_sgM, go_sem, ↓reduceIte, Nat.reduceEqDiff, Nat.reduceSub, Nat.reduceLeDiff, Nat.reduceAdd, Int.reduceEq, Int.reduceLT, Int.reduceLE]
 refine call_with (okPutA_full (canM m) (mv_can hm) ((check_can m).trans hc) hf rfl) ?_
 (try simp only [bK1, bK2, bK3, bK4, bK5, bK6, bK7, bK8]); simp (maxSteps := 10000000) (disch := omega) only [go_sem, ↓reduceIte, Nat.reduceEqDiff, Nat.reduceSub, Nat.reduceLeDiff, Nat.reduceAdd, Int.reduceEq, Int.reduceLT, Int.reduceLE]
 refine ⟨_, .same _, ?_⟩
 (try simp only [bK1, bK2, bK3, bK4, bK5, bK6, bK7, bK8]); simp (maxSteps := 10000000) (disch := omega) only [go_sem, ↓reduceIte, Nat.reduceEqDiff, Nat.reduceSub, Nat.reduceLeDiff, Nat.reduceAdd, Int.reduceEq, Int.reduceLT, Int.reduceLE]
 exact ⟨900, rfl, rfl⟩
theorem okCopyB {f : Bool} {z : Nat} {L : List (List UInt8)} {most : Int} {k : Nat} {m : Msg} (hz : L = [] ∨ z = 1) (hk : L[k]? = some (writeM m)) (hm : mv m) (hc : checkM m = true) (hf : ¬ most ≤ L.length) (hn : L.length ≤ 1000) {g : Nat} {h d} (hg : h g = some (.var (bagV f z L most))) : FunOk Try.prog 18 [.p g 0, .pv (.i .i64 k)] h d (.pv (.i .i64 0)) [.upd g (.var (bagV false 1 (L ++ [writeM m]) most))] := by
 refine FunOk.io (fun h d hg => ?_) rfl rfl rfl rfl hg
 refine fun_io1 (g := 900) mixed fn18 (by simp) (by simp [tops, tn]) (by simp [tops, tn]) hg rfl (by simp [Blk.ptr, SV.kill]) rfl (fun _ => rfl) fun F => ?_
 (try simp only [bK1, bK2, bK3, bK4, bK5, bK6, bK7, bK8]); simp (maxSteps := 10000000) (disch := omega) only [ir18, Blk.ptr, go_sem, ↓reduceIte, Nat.reduceEqDiff, Nat.reduceSub, Nat.reduceLeDiff, Nat.reduceAdd, Int.reduceEq, Int.reduceLT, Int.reduceLE]
 refine call_with (okAtB hz hk hm hc (by simp [mk, lk]; rfl)) ?_
 (try simp only [bK1, bK2, bK3, bK4, bK5, bK6, bK7, bK8]); simp (maxSteps := 10000000) (disch := omega) only [segM_cells, mkOr_sgM, go_sem, ↓reduceIte, Nat.reduceEqDiff, Nat.reduceSub, Nat.reduceLeDiff, Nat.reduceAdd, Int.reduceEq, Int.reduceLT, Int.reduceLE]
 refine call_with (okPutA (canM m) (mv_can hm) ((check_can m).trans hc) hf hz hn rfl) ?_
 (try simp only [bK1, bK2, bK3, bK4, bK5, bK6, bK7, bK8]); simp (maxSteps := 10000000) (disch := omega) only [writeM_can, go_sem, ↓reduceIte, Nat.reduceEqDiff, Nat.reduceSub, Nat.reduceLeDiff, Nat.reduceAdd, Int.reduceEq, Int.reduceLT, Int.reduceLE]
 refine ⟨_, .same _, ?_⟩
 (try simp only [bK1, bK2, bK3, bK4, bK5, bK6, bK7, bK8]); simp (maxSteps := 10000000) (disch := omega) only [go_sem, ↓reduceIte, Nat.reduceEqDiff, Nat.reduceSub, Nat.reduceLeDiff, Nat.reduceAdd, Int.reduceEq, Int.reduceLT, Int.reduceLE]
 exact ⟨900, rfl, rfl⟩
end Go.Proofs.Ytfkmlmckihmihaa.Fw
namespace Go.Proofs.Ytfkmlmckihmihaa.Fw
open Go.RowKit Go.Proofs
def askM (a b : Int) : Msg := ⟨1, a, b, fun _ => 0, fun _ _ => 0, true, 0, []⟩
theorem askM_mv (a b : Int) : mv (askM a b) := ⟨.inl rfl, (by show 0 ≤ 1000; omega), fun e he => (by cases he), fun i _ => by show 0 < 4294967296; omega, fun i _ j _ => by show 0 < 4294967296; omega⟩
theorem askM_check {a b : Int} (ha : 1 ≤ a ∧ a ≤ 8) (hb : 1 ≤ b ∧ b ≤ 8) (hn : a ≠ b) : checkM (askM a b) = true := by
 rw [checkM_e ⟨.inl rfl, ha, hb, hn, by show 0 ≤ 8; omega, fun _ => rfl⟩]; rfl
theorem okAsk (a b : Int) {h d} : FunOk Try.prog 17 [.pv (.i .i64 a), .pv (.i .i64 b)] h d (.agg (segM (askM a b))) [] := by
 refine fun_pure mixed fn17 (by simp) rfl rfl fun F => ?_
 (try simp only [bK1, bK2, bK3, bK4, bK5, bK6, bK7, bK8]); simp (maxSteps := 10000000) (disch := omega) only [ir17, segM, askM, List.map_nil, go_sem, ↓reduceIte, Nat.reduceEqDiff, Nat.reduceSub, Nat.reduceLeDiff, Nat.reduceAdd, Int.reduceEq, Int.reduceLT, Int.reduceLE]
def zeroM : Msg := ⟨0, 0, 0, fun _ => 0, fun _ _ => 0, true, 0, []⟩
theorem zeroM_mv : mv zeroM := askM_mv 0 0
set_option maxHeartbeats 4000000 in
theorem livesBag {h d} : FunOk Try.prog 9 [] h d (.pv (.b true)) [] := by
 refine fun_pure mixed fn9 (by simp) rfl rfl fun F => ?_
 have c1 := askM_check (a := 1) (b := 2) (by omega) (by omega) (by omega)
 have c2 := askM_check (a := 2) (b := 3) (by omega) (by omega) (by omega)
 have m3 : max (0 : Int) 3 = 3 := by omega
 (try simp only [bK1, bK2, bK3, bK4, bK5, bK6, bK7, bK8]); simp (maxSteps := 10000000) (disch := omega) only [ir9, go_sem, ↓reduceIte, Nat.reduceEqDiff, Nat.reduceSub, Nat.reduceLeDiff, Nat.reduceAdd, Int.reduceEq, Int.reduceLT, Int.reduceLE]
 refine call_with (okNewB 3) ?_
 rw [m3]
 (try simp only [bK1, bK2, bK3, bK4, bK5, bK6, bK7, bK8]); simp (maxSteps := 10000000) (disch := omega) only [go_sem, ↓reduceIte, Nat.reduceEqDiff, Nat.reduceSub, Nat.reduceLeDiff, Nat.reduceAdd, Int.reduceEq, Int.reduceLT, Int.reduceLE]
 refine call_with (okAsk 1 2) ?_
 (try simp only [bK1, bK2, bK3, bK4, bK5, bK6, bK7, bK8]); simp (maxSteps := 10000000) (disch := omega) only [go_sem, ↓reduceIte, Nat.reduceEqDiff, Nat.reduceSub, Nat.reduceLeDiff, Nat.reduceAdd, Int.reduceEq, Int.reduceLT, Int.reduceLE]
 refine call_with (okPutA (L := []) (askM 1 2) (askM_mv 1 2) c1 (by simp) (.inl rfl) (by simp) rfl) ?_
 (try simp only [bK1, bK2, bK3, bK4, bK5, bK6, bK7, bK8]); simp (maxSteps := 10000000) (disch := omega) only [go_sem, ↓reduceIte, Nat.reduceEqDiff, Nat.reduceSub, Nat.reduceLeDiff, Nat.reduceAdd, Int.reduceEq, Int.reduceLT, Int.reduceLE]
 refine call_with (okAsk 2 3) ?_
 (try simp only [bK1, bK2, bK3, bK4, bK5, bK6, bK7, bK8]); simp (maxSteps := 10000000) (disch := omega) only [List.nil_append, go_sem, ↓reduceIte, Nat.reduceEqDiff, Nat.reduceSub, Nat.reduceLeDiff, Nat.reduceAdd, Int.reduceEq, Int.reduceLT, Int.reduceLE]
 refine call_with (okPutA (L := [writeM (askM 1 2)]) (askM 2 3) (askM_mv 2 3) c2 (by simp) (.inr rfl) (by simp) rfl) ?_
 (try simp only [bK1, bK2, bK3, bK4, bK5, bK6, bK7, bK8]); simp (maxSteps := 10000000) (disch := omega) only [List.cons_append, List.nil_append, go_sem, ↓reduceIte, Nat.reduceEqDiff, Nat.reduceSub, Nat.reduceLeDiff, Nat.reduceAdd, Int.reduceEq, Int.reduceLT, Int.reduceLE]
 refine call_with (okLateB (k := 0) (L := [writeM (askM 1 2), writeM (askM 2 3)]) (.inr rfl) rfl (by simp) rfl) ?_
 (try simp only [bK1, bK2, bK3, bK4, bK5, bK6, bK7, bK8]); simp (maxSteps := 10000000) (disch := omega) only [List.take_zero, List.drop_succ_cons, List.drop_zero, List.nil_append, List.cons_append, go_sem, ↓reduceIte, Nat.reduceEqDiff, Nat.reduceSub, Nat.reduceLeDiff, Nat.reduceAdd, Int.reduceEq, Int.reduceLT, Int.reduceLE]
 refine call_with (okLenB (L := [writeM (askM 2 3), writeM (askM 1 2)]) rfl) ?_
 (try simp only [bK1, bK2, bK3, bK4, bK5, bK6, bK7, bK8]); simp (maxSteps := 10000000) (disch := omega) only [List.length_cons, List.length_nil, go_sem, ↓reduceIte, Nat.reduceEqDiff, Nat.reduceSub, Nat.reduceLeDiff, Nat.reduceAdd, Int.reduceEq, Int.reduceLT, Int.reduceLE]
 refine call_with (okAtB (k := 1) (L := [writeM (askM 2 3), writeM (askM 1 2)]) (.inr rfl) rfl (askM_mv 1 2) c1 rfl) ?_
 (try simp only [bK1, bK2, bK3, bK4, bK5, bK6, bK7, bK8]); simp (maxSteps := 10000000) (disch := omega) only [segM, show (canM (askM 1 2)).fr = 1 from rfl, go_sem, ↓reduceIte, Nat.reduceEqDiff, Nat.reduceSub, Nat.reduceLeDiff, Nat.reduceAdd, Int.reduceEq, Int.reduceLT, Int.reduceLE]
end Go.Proofs.Ytfkmlmckihmihaa.Fw
namespace Go.Proofs.Ytfkmlmckihmihaa.Fw
open Go.RowKit Go.Proofs
structure Act where
 kind : Int
 m : Msg
 at_ : Int
def actE (a : Act) : List PV := .i .i64 a.kind :: (msgE a.m ++ [.i .i64 a.at_])
theorem actE_len (a : Act) : (actE a).length = 78 := by simp [actE, msgE_len]
theorem ld_ac (a : Act) (K : KK) : LoadK (some (actE a)) 0 78 true K = K (.vec 78 (actE a)) [] := load_whole (actE_len a) K
theorem ld_ac0 (a : Act) (K : KK) : LoadK (some (actE a)) 0 1 false K = K (.pv (.i .i64 a.kind)) [] := by
 simp only [LoadK, ldX, eq_iff_iff]
 exact ⟨fun h => h.2.2, fun h => ⟨by simp [actE, msgE, vE, tE, arrF], .inr trivial, h⟩⟩
theorem ld_ac76 (a : Act) (K : KK) : LoadK (some (actE a)) 76 1 false K = K (.pv (.sl a.m.f a.m.z (a.m.evs.map evE))) [] := by
 simp only [LoadK, ldX, eq_iff_iff]
 exact ⟨fun h => h.2.2, fun h => ⟨by simp [actE, msgE, vE, tE, arrF], .inr trivial, h⟩⟩
theorem ld_ac77 (a : Act) (K : KK) : LoadK (some (actE a)) 77 1 false K = K (.pv (.i .i64 a.at_)) [] := by
 simp only [LoadK, ldX, eq_iff_iff]
 exact ⟨fun h => h.2.2, fun h => ⟨by simp [actE, msgE, vE, tE, arrF], .inr trivial, h⟩⟩
theorem ld_acM (a : Act) (K : KK) : LoadK (some (actE a)) 1 76 true K = K (.vec 76 (msgE a.m)) [] := by
 have e : ((actE a).drop 1).take 76 = msgE a.m := by
  show (msgE a.m ++ [PV.i .i64 a.at_]).take 76 = _
  rw [List.take_left' (msgE_len _)]
 simp only [LoadK, ldX, eq_iff_iff, e]
 exact ⟨fun h => h.2.2, fun h => ⟨by simp [actE_len], .inl trivial, h⟩⟩
attribute [go_sem] ld_ac ld_ac0 ld_ac76 ld_ac77 ld_acM actE_len
abbrev shMsg : Sh := .st [.int .i64, .int .i64, .int .i64, .arr 8 (.int .u32), .arr 8 (.arr 8 (.int .u32)), .sl shEvt]
abbrev shAct : Sh := .st [.int .i64, shMsg, .int .i64]
def okE (e : Evt) : Prop := (∀ i, i < 8 → e.dep i < 4294967296) ∧ e.gone.ok ∧ e.base.ok
def okM (m : Msg) : Prop := (m.evs = [] ∨ m.z = 21) ∧ (∀ e ∈ m.evs, okE e) ∧ (∀ i, i < 8 → m.kn i < 4294967296) ∧ ∀ i, i < 8 → ∀ j, j < 8 → m.tb i j < 4294967296
theorem GC_msg {cs : List PV} (h : GC shMsg cs) : ∃ m : Msg, cs = msgE m ∧ okM m := by
 simp only [GC] at h
 simp only [GCL] at h
 obtain ⟨c0, r0, rfl, ⟨n0, rfl, w0⟩, c1, r1, rfl, ⟨n1, rfl, w1⟩, c2, r2, rfl, ⟨n2, rfl, w2⟩, c3, r3, rfl, g3, c4, r4, rfl, g4, c5, r5, rfl, g5, rfl⟩ := h
 obtain ⟨a, rfl, ha⟩ := GC_vE (by simp only [GC]; exact g3)
 obtain ⟨t, rfl, ht⟩ := GC_tE (by simp only [GC]; exact g4)
 obtain ⟨es, rfl, l6, g6⟩ := GC_sl (s := shEvt) (by simp only [GC]; exact g5)
 obtain ⟨m6, rfl, h6⟩ := els_of (f := evE) GC_evt g6
 exact ⟨⟨n0, n1, n2, a, t, false, 21, m6⟩, by simp [msgE]; rfl, .inr rfl, fun e he => ⟨(h6 e he).1, (h6 e he).2.1, (h6 e he).2.2.1⟩, ha, ht⟩
theorem GC_act {cs : List PV} (h : GC shAct cs) : ∃ a : Act, cs = actE a ∧ okM a.m := by
 simp only [GC] at h
 simp only [GCL] at h
 obtain ⟨c0, r0, rfl, ⟨n0, rfl, w0⟩, c1, r1, rfl, g1, c2, r2, rfl, ⟨n2, rfl, w2⟩, rfl⟩ := h
 obtain ⟨m, rfl, hm⟩ := GC_msg (by simp only [GC]; simp only [GCL]; exact g1)
 exact ⟨⟨n0, m, n2⟩, rfl, hm⟩
def fitE (e : Evt) : Prop := e.name.length ≤ 30 ∧ e.data.length ≤ 250 ∧ e.gone.l.length ≤ 10 ∧ e.base.l.length ≤ 10
def fitA (a : Act) : Prop := a.m.evs.length ≤ 10 ∧ ∀ e ∈ a.m.evs, fitE e
noncomputable def fitsB (l : List Act) : Bool := open Classical in decide (l.length ≤ 40 ∧ ∀ a ∈ l, fitA a)
theorem fits_no {l : List Act} (h : ¬ (l.length ≤ 40 ∧ ∀ a ∈ l, fitA a)) : fitsB l = false := by simp only [fitsB, h, decide_false]
theorem fits_yes {l : List Act} (h : l.length ≤ 40 ∧ ∀ a ∈ l, fitA a) : fitsB l = true := by
 unfold fitsB
 exact @decide_eq_true _ (_) h
theorem fits_of {l : List Act} (h : fitsB l = true) : l.length ≤ 40 ∧ ∀ a ∈ l, fitA a := Classical.byContradiction fun hn => by rw [fits_no hn] at h; cases h
theorem mv_of {a : Act} (h : fitA a) (hm : okM a.m) : mv a.m :=
 ⟨hm.1, by have := h.1; omega, fun e he => by
  obtain ⟨h1, h2, h3⟩ := hm.2.1 e he
  obtain ⟨f1, f2, f3, f4⟩ := h.2 e he
  exact ⟨⟨h2, h3, by omega, by omega, by omega⟩, h1⟩, hm.2.2.1, hm.2.2.2⟩
def stFit (l : List Act) (k : Nat) : FS := mk [(12, .pv (.i .i64 k)), (11, .pv (.i .i64 l.length)), (10, .pv (.sl false 78 (l.map actE)))] []
def stFitE (l : List Act) (m : Msg) (k j : Nat) : FS := mk [(25, .pv (.i .i64 j)), (24, .pv (.i .i64 m.evs.length)), (23, .pv (.sl m.f m.z (m.evs.map evE))), (12, .pv (.i .i64 k)), (11, .pv (.i .i64 l.length)), (10, .pv (.sl false 78 (l.map actE)))] []
set_option maxHeartbeats 8000000 in
theorem okFits {l : List Act} (hl : ∀ a ∈ l, a.m.evs = [] ∨ a.m.z = 21) {h d} : FunOk Try.prog 10 [.pv (.sl false 78 (l.map actE))] h d (.pv (.b (fitsB l))) [] := by
 refine fun_pure mixed fn10 (by simp) rfl rfl fun F => ?_
 by_cases hlen : (40 : Int) < (l.length : Int)
 · have e := fits_no (l := l) fun h => by omega
   (try simp only [bK1, bK2, bK3, bK4, bK5, bK6, bK7, bK8]); simp (maxSteps := 10000000) (disch := omega) only [ir10, List.length_map, hlen, e, go_sem, ↓reduceIte, Nat.reduceEqDiff, Nat.reduceSub, Nat.reduceLeDiff, Nat.reduceAdd, Int.reduceEq, Int.reduceLT, Int.reduceLE]
 (try simp only [bK1, bK2, bK3, bK4, bK5, bK6, bK7, bK8]); simp (maxSteps := 10000000) (disch := omega) only [ir10, List.length_map, hlen, go_sem, ↓reduceIte, Nat.reduceEqDiff, Nat.reduceSub, Nat.reduceLeDiff, Nat.reduceAdd, Int.reduceEq, Int.reduceLT, Int.reduceLE]
 refine loop_ok mixed (stFit l) (fun k => k ≤ l.length ∧ ∀ a ∈ l.take k, fitA a) (fun k => l.length - k) 0 (by simp) (weak_mk ?_ ?_) fun k hk => ?_
 · (try simp only [bK1, bK2, bK3, bK4, bK5, bK6, bK7, bK8]); simp (maxSteps := 10000000) (disch := omega) only [go_sem, ↓reduceIte, Nat.reduceEqDiff, Nat.reduceSub, Nat.reduceLeDiff, Nat.reduceAdd, Int.reduceEq, Int.reduceLT, Int.reduceLE]
 · (try simp only [bK1, bK2, bK3, bK4, bK5, bK6, bK7, bK8]); simp (maxSteps := 10000000) (disch := omega) only [go_sem, ↓reduceIte, Nat.reduceEqDiff, Nat.reduceSub, Nat.reduceLeDiff, Nat.reduceAdd, Int.reduceEq, Int.reduceLT, Int.reduceLE]
 obtain ⟨hk1, hk2⟩ := hk
 by_cases hlt : k < l.length
 · have he : (l.map actE)[k]? = some (actE l[k]) := by simp [hlt]
   have hmem := List.getElem_mem hlt
   have hz := hl _ hmem
   have ht : l.take (k + 1) = l.take k ++ [l[k]] := by rw [List.take_add_one, List.getElem?_eq_getElem hlt]; rfl
   generalize l[k] = a at *
   by_cases h10 : (10 : Int) < (a.m.evs.length : Int)
   · have e := fits_no (l := l) fun h => by have := (h.2 a hmem).1; omega
     (try simp only [bK1, bK2, bK3, bK4, bK5, bK6, bK7, bK8]); simp (maxSteps := 10000000) (disch := omega) only [stFit, List.length_map, he, h10, e, go_sem, ↓reduceIte, Nat.reduceEqDiff, Nat.reduceSub, Nat.reduceLeDiff, Nat.reduceAdd, Int.reduceEq, Int.reduceLT, Int.reduceLE]
   (try simp only [bK1, bK2, bK3, bK4, bK5, bK6, bK7, bK8]); simp (maxSteps := 10000000) (disch := omega) only [stFit, List.length_map, he, h10, go_sem, ↓reduceIte, Nat.reduceEqDiff, Nat.reduceSub, Nat.reduceLeDiff, Nat.reduceAdd, Int.reduceEq, Int.reduceLT, Int.reduceLE]
   refine loop_ok mixed (stFitE l a.m k) (fun j => j ≤ a.m.evs.length ∧ ∀ e ∈ a.m.evs.take j, fitE e) (fun j => a.m.evs.length - j) 0 (by simp) (weak_mk ?_ ?_) fun j hj => ?_
   · (try simp only [bK1, bK2, bK3, bK4, bK5, bK6, bK7, bK8]); simp (maxSteps := 10000000) (disch := omega) only [go_sem, ↓reduceIte, Nat.reduceEqDiff, Nat.reduceSub, Nat.reduceLeDiff, Nat.reduceAdd, Int.reduceEq, Int.reduceLT, Int.reduceLE]
   · (try simp only [bK1, bK2, bK3, bK4, bK5, bK6, bK7, bK8]); simp (maxSteps := 10000000) (disch := omega) only [go_sem, ↓reduceIte, Nat.reduceEqDiff, Nat.reduceSub, Nat.reduceLeDiff, Nat.reduceAdd, Int.reduceEq, Int.reduceLT, Int.reduceLE]
   obtain ⟨hj1, hj2⟩ := hj
   by_cases hltj : j < a.m.evs.length
   · have hz2 : a.m.z = 21 := hz.resolve_left fun e => by rw [e] at hltj; simp at hltj
     have hej : (a.m.evs.map evE)[j]? = some (evE a.m.evs[j]) := by simp [hltj]
     have hmj := List.getElem_mem hltj
     have htj : a.m.evs.take (j + 1) = a.m.evs.take j ++ [a.m.evs[j]] := by rw [List.take_add_one, List.getElem?_eq_getElem hltj]; rfl
     generalize a.m.evs[j] = x at *
     by_cases n1 : (30 : Int) < (x.name.length : Int)
     · have e := fits_no (l := l) fun h => by have := ((h.2 a hmem).2 x hmj).1; omega
       (try simp only [bK1, bK2, bK3, bK4, bK5, bK6, bK7, bK8]); simp (maxSteps := 10000000) (disch := omega) only [stFitE, List.length_map, hz2, hej, ld_ev, n1, e, go_sem, ↓reduceIte, Nat.reduceEqDiff, Nat.reduceSub, Nat.reduceLeDiff, Nat.reduceAdd, Int.reduceEq, Int.reduceLT, Int.reduceLE]
     by_cases n2 : (250 : Int) < (x.data.length : Int)
     · have e := fits_no (l := l) fun h => by have := ((h.2 a hmem).2 x hmj).2.1; omega
       (try simp only [bK1, bK2, bK3, bK4, bK5, bK6, bK7, bK8]); simp (maxSteps := 10000000) (disch := omega) only [stFitE, List.length_map, hz2, hej, ld_ev, n1, n2, e, go_sem, ↓reduceIte, Nat.reduceEqDiff, Nat.reduceSub, Nat.reduceLeDiff, Nat.reduceAdd, Int.reduceEq, Int.reduceLT, Int.reduceLE]
     by_cases n3 : (10 : Int) < (x.gone.l.length : Int)
     · have e := fits_no (l := l) fun h => by have := ((h.2 a hmem).2 x hmj).2.2.1; omega
       (try simp only [bK1, bK2, bK3, bK4, bK5, bK6, bK7, bK8]); simp (maxSteps := 10000000) (disch := omega) only [stFitE, List.length_map, hz2, hej, ld_ev, n1, n2, n3, e, go_sem, ↓reduceIte, Nat.reduceEqDiff, Nat.reduceSub, Nat.reduceLeDiff, Nat.reduceAdd, Int.reduceEq, Int.reduceLT, Int.reduceLE]
     by_cases n4 : (10 : Int) < (x.base.l.length : Int)
     · have e := fits_no (l := l) fun h => by have := ((h.2 a hmem).2 x hmj).2.2.2; omega
       (try simp only [bK1, bK2, bK3, bK4, bK5, bK6, bK7, bK8]); simp (maxSteps := 10000000) (disch := omega) only [stFitE, List.length_map, hz2, hej, ld_ev, n1, n2, n3, n4, e, go_sem, ↓reduceIte, Nat.reduceEqDiff, Nat.reduceSub, Nat.reduceLeDiff, Nat.reduceAdd, Int.reduceEq, Int.reduceLT, Int.reduceLE]
     (try simp only [bK1, bK2, bK3, bK4, bK5, bK6, bK7, bK8]); simp (maxSteps := 10000000) (disch := omega) only [stFitE, List.length_map, hz2, hej, ld_ev, n1, n2, n3, n4, go_sem, ↓reduceIte, Nat.reduceEqDiff, Nat.reduceSub, Nat.reduceLeDiff, Nat.reduceAdd, Int.reduceEq, Int.reduceLT, Int.reduceLE]
     refine loop_next (j + 1) _ _ rfl ⟨by omega, fun e he => ?_⟩ (by omega) ?_ ?_
     · rw [htj] at he
       rcases List.mem_append.1 he with he | he
       · exact hj2 e he
       · rw [List.mem_singleton.1 he]; exact ⟨by omega, by omega, by omega, by omega⟩
     · (try simp only [bK1, bK2, bK3, bK4, bK5, bK6, bK7, bK8]); simp (maxSteps := 10000000) (disch := omega) only [hz2, go_sem, ↓reduceIte, Nat.reduceEqDiff, Nat.reduceSub, Nat.reduceLeDiff, Nat.reduceAdd, Int.reduceEq, Int.reduceLT, Int.reduceLE]
     · (try simp only [bK1, bK2, bK3, bK4, bK5, bK6, bK7, bK8]); simp (maxSteps := 10000000) (disch := omega) only [go_sem, ↓reduceIte, Nat.reduceEqDiff, Nat.reduceSub, Nat.reduceLeDiff, Nat.reduceAdd, Int.reduceEq, Int.reduceLT, Int.reduceLE]
   obtain rfl : j = a.m.evs.length := by omega
   rw [List.take_length] at hj2
   (try simp only [bK1, bK2, bK3, bK4, bK5, bK6, bK7, bK8]); simp (maxSteps := 10000000) (disch := omega) only [stFitE, go_sem, ↓reduceIte, Nat.reduceEqDiff, Nat.reduceSub, Nat.reduceLeDiff, Nat.reduceAdd, Int.reduceEq, Int.reduceLT, Int.reduceLE]
   refine loop_next (k + 1) _ _ rfl ⟨by omega, fun b hb => ?_⟩ (by omega) ?_ ?_
   · rw [ht] at hb
     rcases List.mem_append.1 hb with hb | hb
     · exact hk2 b hb
     · rw [List.mem_singleton.1 hb]; exact ⟨by omega, hj2⟩
   · (try simp only [bK1, bK2, bK3, bK4, bK5, bK6, bK7, bK8]); simp (maxSteps := 10000000) (disch := omega) only [go_sem, ↓reduceIte, Nat.reduceEqDiff, Nat.reduceSub, Nat.reduceLeDiff, Nat.reduceAdd, Int.reduceEq, Int.reduceLT, Int.reduceLE]
   · (try simp only [bK1, bK2, bK3, bK4, bK5, bK6, bK7, bK8]); simp (maxSteps := 10000000) (disch := omega) only [go_sem, ↓reduceIte, Nat.reduceEqDiff, Nat.reduceSub, Nat.reduceLeDiff, Nat.reduceAdd, Int.reduceEq, Int.reduceLT, Int.reduceLE]
 obtain rfl : k = l.length := by omega
 rw [List.take_length] at hk2
 have e := fits_yes (l := l) ⟨by omega, hk2⟩
 (try simp only [bK1, bK2, bK3, bK4, bK5, bK6, bK7, bK8]); simp (maxSteps := 10000000) (disch := omega) only [stFit, e, go_sem, ↓reduceIte, Nat.reduceEqDiff, Nat.reduceSub, Nat.reduceLeDiff, Nat.reduceAdd, Int.reduceEq, Int.reduceLT, Int.reduceLE]
end Go.Proofs.Ytfkmlmckihmihaa.Fw
namespace Go.Proofs.Ytfkmlmckihmihaa.Fw
open Go.RowKit Go.Proofs
theorem imp_bag0 (n : Int) : Imp (.agg [.pv (.sl true 0 []), .pv (.i .i64 n)]) (.agg [.pv (.sl false 1 []), .pv (.i .i64 n)]) = True := by
 refine eq_true fun V ρ v h => ?_
 simp only [Conc, Cells] at h ⊢
 obtain ⟨vs, rfl, u, us, e1, h1, h2, h3, h4⟩ := h
 refine ⟨vs, rfl, u, us, e1, ?_, h2, h3, h4⟩
 cases h1 with
 | sl _ _ _ a cap cs bl off arr hcap hfull hsz ha hcs hel =>
   exact .sl false 1 [] a cap cs bl off arr hcap (by simp) (by simp) (by simp) (by simp) (by simp)
theorem k_bag (n f z L m) : SV.kill n (bagV f z L m) = bagV f z L m := (rfl)
theorem f_bag (n v f z L m) : SV.frz n v (bagV f z L m) = bagV f z L m := (rfl)
theorem r_bag (a b f z L m) : SV.ren a b (bagV f z L m) = bagV f z L m := (rfl)
theorem w_bag (f z L m) : (bagV f z L m).width = 2 := (rfl)
attribute [go_sem] k_bag f_bag r_bag w_bag
end Go.Proofs.Ytfkmlmckihmihaa.Fw
namespace Go.Proofs.Ytfkmlmckihmihaa.Fw
open Go.RowKit Go.Proofs
section iov
variable {P : Program}
theorem RelR.swaping {F : Fr} {N : Nat} {ρ : Nat → Value} {s : FS} {a : Go.Act} {w w' : World} (hR : RelR F N ρ s a w) (g d : Nat) (blk bd : Blk) (p : Value) (hgd : g ≠ d) (hsg : s.h g = some blk)
 (hos : w'.os = w.os) (htape : w'.tape = w.tape) (hout : w'.output = w.output) (hsize : w.heap.size ≤ w'.heap.size) (hblock : ∀ b, b < w.heap.size → idOf (ρ g) ≠ some b → w'.heap[b]? = w.heap[b]?)
 (hid : ∀ b, idOf p = some b → w.heap.size ≤ b ∧ b < w'.heap.size)
 (hown : Own w' (vw F w' (Fw.upd ρ d p) ((s.kill d).seth d (some bd))) (Fw.upd ρ d p) d bd)
 (howng : Own w' (vw F w' (Fw.upd ρ d p) ((s.kill d).seth d (some bd))) (Fw.upd ρ d p) g (blk.kill d)) :
 RelR F N (Fw.upd ρ d p) ((s.kill d).seth d (some bd)) a w' ∧ (vw F w ρ s).le (vw F w' (Fw.upd ρ d p) ((s.kill d).seth d (some bd))) := by
 have hs : ∀ m x, ((s.kill d).seth d (some bd)).h m = some x → (m = d ∧ x = bd) ∨ (m ≠ d ∧ ∃ y, s.h m = some y ∧ x = y.kill d) := by
  intro m x hm
  simp only [FS.seth, FS.kill] at hm
  by_cases e : m = d
  · simp only [e, if_true] at hm; cases hm; exact .inl ⟨e, rfl⟩
  · simp only [e, if_false] at hm
    cases hy : s.h m with
    | none => rw [hy] at hm; cases hm
    | some y => rw [hy] at hm; cases hm; exact .inr ⟨e, y, rfl, rfl⟩
 have key : ∀ b, owned (Fw.upd ρ d p) ((s.kill d).seth d (some bd)).h b → owned ρ s.h b ∨ (w.heap.size ≤ b ∧ b < w'.heap.size) := by
  rintro b ⟨m, x, hm, hb⟩
  rcases hs m x hm with ⟨rfl, rfl⟩ | ⟨e1, y, hy, rfl⟩
  · rw [upd_self] at hb; exact .inr (hid b hb)
  · rw [upd_ne e1] at hb; exact .inl ⟨m, y, hy, hb⟩
 have hV : (vw F w ρ s).le (vw F w' (Fw.upd ρ d p) ((s.kill d).seth d (some bd))) := viewOf_le fun b c ho hc => by
  have hlt := cellsAt_of hc
  refine ⟨fun hb => ?_, ?_⟩
  · rcases hb with hb | hb
    · rcases key b hb with h | h
      · exact ho (.inl h)
      · omega
    · exact ho (.inr hb)
  · rw [cellsAt_congr (hblock b hlt fun h => ho (.inl ⟨g, blk, hsg, h⟩))]; exact hc
 refine ⟨⟨⟨hos.trans hR.fr.os, htape.trans hR.fr.tape, hout.trans hR.fr.output, Nat.le_trans hR.fr.size hsize, fun b hb hm => ?_, hR.fr.hid⟩, fun b hb => ?_, fun m x hm => ?_, fun m k x y b hm hk hbm hbk => ?_, fun m => ?_, hR.size, hR.defers⟩, hV⟩
 · rw [hblock b (Nat.lt_of_lt_of_le hb hR.fr.size) fun h => by
    rcases hR.may b ⟨g, blk, hsg, h⟩ with h1 | h1
    · omega
    · exact hm h1]
   exact hR.fr.block b hb hm
 · rcases key b hb with h | h
   · exact hR.may b h
   · exact .inl (Nat.le_trans hR.fr.size h.1)
 · rcases hs m x hm with ⟨rfl, rfl⟩ | ⟨e1, y, hy, rfl⟩
   · exact hown
   · by_cases e2 : m = g
     · subst e2; rw [hsg] at hy; cases hy; exact howng
     · have ho := hR.own m y hy
       exact (ho.congr (V' := vw F w ρ s) (w' := w') (fun _ _ x => x) (fun b hb => hblock b (ho.lt hb) fun hb' => e2 (hR.inj m g y blk b hy hsg hb hb'))).kill hV e1
 · rcases hs m x hm with ⟨rfl, rfl⟩ | ⟨e1, z, hz, rfl⟩
   · rcases hs k y hk with ⟨rfl, rfl⟩ | ⟨f1, u, hu, rfl⟩
     · rfl
     · exfalso; rw [upd_self] at hbm; rw [upd_ne f1] at hbk
       have h := hid b hbm
       have := (hR.own k u hu).lt hbk; omega
   · rcases hs k y hk with ⟨rfl, rfl⟩ | ⟨f1, u, hu, rfl⟩
     · exfalso; rw [upd_self] at hbk; rw [upd_ne e1] at hbm
       have h := hid b hbk
       have := (hR.own m z hz).lt hbm; omega
     · rw [upd_ne e1] at hbm; rw [upd_ne f1] at hbk
       exact hR.inj m k z u b hz hu hbm hbk
 · show Conc _ _ ((s.t m).kill d) _
   exact (hR.tmps m).kill hV
theorem fun_iov (hm : P.follows .mixedOrders = true) {f N' : Nat} {rs : List Rv} {c : C} (hf : fnOf P f = some (N', rs, c)) {args : List SV} {h : Nat → Option Blk} {d g : Nat} {blk : Blk} {fn : Fn} (hgd : g ≠ d) (hlen : args.length ≤ N')
 (hts : ∀ n ∈ tops args, n = g) (hgt : g ∈ tops args) (hg : h g = some blk) (hp : (blk.ptr g).kill g ≠ blk.ptr g) (hb' : blk.plain = true) (hkb : blk.kill d = blk) (hpp : ∀ m, blk.ptr m = blk.ptr m)
 (hrun : ∀ F, sx (env P F N') c (RetW rs fun y s => ∃ n m, y = .fn fn [.p n 0] ∧ s.h n = some (.var (.p m 0)) ∧ n ≠ m ∧ s.t 1000000 = blk.ptr m ∧ s.h m = some blk) (mk (argT 0 args ++ [(1000000, blk.ptr g)]) [(g, some blk)])) :
 FunOk P f args h d (.fn fn [.p d 0]) [.new d (.var (.p g 0))] := by
 refine ⟨entered_of hf, fun F N ρ s a w hR hh vs hc => ?_⟩
 have hsg : s.h g = some blk := (hh g hgt).trans hg
 have hvl : vs.length = args.length := by
  clear hrun hlen hts hh hgt
  induction args generalizing vs with
  | nil => simp only [ConcL] at hc; subst hc; rfl
  | cons x l ih =>
    simp only [ConcL] at hc
    obtain ⟨v, us, rfl, _, h⟩ := hc
    simp [ih _ h]
 let F' : Fr := ⟨w, mine ρ s.h [g], F.out ρ (without s [g]).h, fun _ => ρ g, []⟩
 have hmine : ∀ b, mine ρ s.h [g] b ↔ idOf (ρ g) = some b := fun b => by
  constructor
  · rintro ⟨n, hn, x, h1, h2⟩
    simp only [List.mem_singleton] at hn; subst hn; exact h2
  · intro hb; exact ⟨g, List.mem_singleton.2 rfl, blk, hsg, hb⟩
 have hlk : ∀ n, lk none n [(g, some blk)] = if n = g then some blk else none := fun n => by simp only [lk]
 have how : ∀ b, owned ρ (mk (argT 0 args ++ [(1000000, blk.ptr g)]) [(g, some blk)]).h b ↔ mine ρ s.h [g] b := fun b => by
  rw [hmine]
  constructor
  · rintro ⟨n, x, h1, h2⟩
    simp only [mk, hlk] at h1
    split at h1
    · rename_i e; subst e; exact h2
    · cases h1
  · intro hb; exact ⟨g, blk, by simp [mk, lk], hb⟩
 have hoth : ∀ b, owned ρ (without s [g]).h b ↔ ∃ n, n ≠ g ∧ ∃ x, s.h n = some x ∧ idOf (ρ n) = some b := fun b => by
  constructor
  · rintro ⟨n, x, h1, h2⟩
    simp only [without, List.mem_singleton] at h1; split at h1
    · cases h1
    · rename_i hn; exact ⟨n, hn, x, h1, h2⟩
  · rintro ⟨n, hn, x, h1, h2⟩
    exact ⟨n, x, by simp only [without, List.mem_singleton, if_neg hn]; exact h1, h2⟩
 have hview : viewOf w (F'.out ρ (mk (argT 0 args ++ [(1000000, blk.ptr g)]) [(g, some blk)]).h) = vw F w ρ s := by
  show viewOf w _ = viewOf w _
  congr 1
  funext b
  refine propext ⟨fun hb => ?_, fun hb => ?_⟩
  · rcases hb with hb | hb
    · obtain ⟨n, _, x, h1, h2⟩ := (how b).1 hb; exact .inl ⟨n, x, h1, h2⟩
    · rcases hb with hb | hb
      · obtain ⟨n, _, x, h1, h2⟩ := (hoth b).1 hb; exact .inl ⟨n, x, h1, h2⟩
      · exact .inr hb
  · rcases hb with ⟨n, x, h1, h2⟩ | hb
    · by_cases hn : n = g
      · subst hn; exact .inl ((how b).2 ((hmine b).2 h2))
      · exact .inr (.inl ((hoth b).2 ⟨n, hn, x, h1, h2⟩))
    · exact .inr (.inr hb)
 have hgl : ∀ (k : Nat) (l : List SV) (n : Nat) (t : List (Nat × SV)), (∀ i, k ≤ i → i < k + l.length → i ≠ n) → lk .dead n (argT k l ++ t) = lk .dead n t := by
  intro k l
  induction l generalizing k with
  | nil => intro n t _; rfl
  | cons y l ih =>
    intro n t hn
    simp only [argT, List.cons_append, lk]
    rw [if_neg fun e => hn k (Nat.le_refl k) (by simp) e.symm]
    exact ih (k + 1) n t fun i h1 h2 => hn i (by omega) (by simp only [List.length_cons]; omega)
 have hap : ∀ (k : Nat) (l : List SV) (n : Nat) (t : List (Nat × SV)), k ≤ n → n < k + l.length → lk .dead n (argT k l ++ t) = lk .dead n (argT k l) := by
  intro k l
  induction l generalizing k with
  | nil => intro n t h1 h2; simp at h2; omega
  | cons y l ih =>
    intro n t h1 h2
    simp only [argT, List.cons_append, lk]
    split
    · rfl
    · exact ih (k + 1) n t (by omega) (by simp only [List.length_cons] at h2; omega)
 have hN := fnOf_le hf
 have hR0 : RelR F' N' ρ (mk (argT 0 args ++ [(1000000, blk.ptr g)]) [(g, some blk)]) { tmps := (⟨vs⟩ : Array Value) ++ Array.replicate (N' - (⟨vs⟩ : Array Value).size) undef, defers := [] } w := by
  refine ⟨⟨rfl, rfl, rfl, Nat.le_refl _, fun _ _ _ => rfl, fun b hb => ⟨?_, fun hmi => ?_⟩⟩, fun b hb => .inr ((how b).1 hb), fun n x hx => ?_, fun n m x y b hx hy hbx hby => ?_, fun n => ?_, by simp; omega, rfl⟩
  · rcases hb with hb | hb
    · obtain ⟨n, _, x, h1, h2⟩ := (hoth b).1 hb; exact (hR.own n x h1).lt h2
    · exact Nat.lt_of_lt_of_le (hR.fr.hid b hb).1 hR.fr.size
  · have hmb := (hmine b).1 hmi
    rcases hb with hb | hb
    · obtain ⟨m, hm, y, g1, g2⟩ := (hoth b).1 hb
      exact hm (hR.inj m g y blk b g1 hsg g2 hmb)
    · exact hR.shown ⟨g, blk, hsg, hmb⟩ hb
  · rw [hview]
    simp only [mk, hlk] at hx; split at hx
    · rename_i e; subst e; cases hx; exact hR.own _ _ hsg
    · cases hx
  · simp only [mk, hlk] at hx hy
    split at hx
    · split at hy
      · rename_i e1 e2; rw [e1, e2]
      · cases hy
    · cases hx
  · rw [hview]
    simp only [mk]
    unfold Fr.val
    by_cases hb : n < big
    · rw [if_pos hb]
      have he : ((⟨vs⟩ : Array Value) ++ Array.replicate (N' - (⟨vs⟩ : Array Value).size) undef).getD n undef = (vs[n]?).getD undef := by
       rw [Array.getD_eq_getD_getElem?]
       by_cases hn : n < vs.length
       · rw [Array.getElem?_append_left (by simpa using hn)]; simp
       · rw [Array.getElem?_append_right (by simpa using hn)]
         rw [List.getElem?_eq_none (by omega)]
         simp only [Array.getElem?_replicate, Option.getD_none]
         split <;> rfl
      rw [he]
      have := argT_conc 0 n hc
      simp only [Nat.zero_le, if_true, Nat.sub_zero] at this
      by_cases hn : n < args.length
      · rw [hap 0 args n _ (Nat.zero_le n) (by omega)]; exact this
      · rw [hgl 0 args n _ fun i h1 h2 => by omega]
        have : n ≠ 1000000 := fun e => by rw [e] at hb; exact Nat.lt_irrefl _ hb
        simp only [lk, if_neg this, Conc]
    · rw [if_neg hb, hgl 0 args n _ fun i h1 h2 => by omega]
      simp only [lk]
      split
      · exact own_ptr hp (hR.own g blk hsg)
      · simp only [Conc]
 refine Calls.mono (call_fromG hm hf rfl hR0.fr (fun b hb => by
  obtain ⟨n, hn, x, h1, h2⟩ := hb
  exact (hR.own n x h1).lt h2) hR0 retW_w (hrun F')) fun e w' he => ?_
 obtain ⟨v, ρ', s', a', y, rfl, hR', hy, n0, m, rfl, hn0, hnm, ht, hm'⟩ := he
 have hadr : ρ g = ρ' m := by
  have h1 := hR'.tmps 1000000
  rw [ht] at h1
  have e : F'.val a' 1000000 = ρ g := by
   unfold Fr.val
   rw [if_neg (show ¬ (1000000 : Nat) < big from Nat.lt_irrefl _)]
  rw [e] at h1
  exact ptr_addr (hpp m) hp (own_ptr hp (hR.own g blk hsg)) h1
 have hkeep : ∀ b, b < w.heap.size → idOf (ρ g) ≠ some b → w'.heap[b]? = w.heap[b]? := fun b hb hn => hR'.fr.block b hb fun hmi => hn ((hmine b).1 hmi)
 have hidp : ∀ b, idOf (ρ' n0) = some b → w.heap.size ≤ b ∧ b < w'.heap.size := fun b hb => by
  have ho : owned ρ' s'.h b := ⟨n0, _, hn0, hb⟩
  refine ⟨?_, hR'.lt ho⟩
  rcases hR'.may b ho with h1 | h1
  · exact h1
  · have h2 := (hmine b).1 h1
    rw [hadr] at h2
    exact absurd (hR'.inj n0 m _ _ b hn0 hm' hb h2) hnm
 have hV2 : (viewOf w' (F'.out ρ' s'.h)).le (vw F w' (Fw.upd ρ d (ρ' n0)) ((s.kill d).seth d (some (.var (.p g 0))))) := viewOf_le fun b c ho hc => ⟨fun hb => ho ?_, hc⟩
 · have hres := hR.swaping g d blk (.var (.p g 0)) (ρ' n0) hgd hsg hR'.fr.os hR'.fr.tape hR'.fr.output hR'.fr.size hkeep hidp (by
    obtain ⟨b, vs', ty, fr, u, g1, g2, g3, g4, g5, g6, g7⟩ := hR'.own n0 _ hn0
    refine ⟨b, vs', ty, fr, u, by rw [upd_self]; exact g1, g2, g3, ?_, g5, g6, g7⟩
    simp only [Conc] at g4 ⊢
    rw [upd_ne hgd, hadr]; exact g4) (by
    rw [hkb]
    exact Own.closed hb' hV2 (by rw [upd_ne hgd]; exact hadr) (hR'.own m _ hm'))
   refine ⟨v, _, rfl, hres.1, ?_⟩
   simp only [Conc, ConcL] at hy ⊢
   obtain ⟨vs', h1, u, us, h2, ⟨b, h3, h4⟩, h5⟩ := hy
   exact ⟨vs', h1, u, us, h2, ⟨b, by rw [upd_self]; exact h3, h4⟩, h5⟩
 · rcases hb with ⟨q, z, h1, h2⟩ | hb
   · simp only [FS.seth, FS.kill] at h1
     by_cases hq : q = d
     · subst hq
       rw [upd_self] at h2
       exact .inl ⟨n0, _, hn0, h2⟩
     · rw [upd_ne hq] at h2
       simp only [hq, if_false] at h1
       obtain ⟨z', hz', _⟩ := Option.map_eq_some_iff.1 h1
       by_cases hqg : q = g
       · subst hqg; exact .inl ⟨m, _, hm', by rw [← hadr]; exact h2⟩
       · exact .inr (.inl ((hoth b).2 ⟨q, hqg, z', hz', h2⟩))
   · exact .inr (.inr hb)
end iov
theorem FunOk.iov {P : Program} {f : Nat} {c : SV} {fn : Fn} (hf : ∀ h d, d ≠ 900 → h 900 = some (.var c) → FunOk P f [.p 900 0] h d (.fn fn [.p d 0]) [.new d (.var (.p 900 0))]) (hc : c.closed = true) {g : Nat} {h : Nat → Option Blk} {d : Nat} (hgd : g ≠ d) (hg : h g = some (.var c)) :
 FunOk P f [.p g 0] h d (.fn fn [.p d 0]) [.new d (.var (.p g 0))] := by
 have hne : sw1 900 g d ≠ 900 := fun e => by
  have := congrArg (sw1 900 g) e
  rw [sw1_inv, sw1_a] at this
  exact hgd this.symm
 have h1 := (hf (fun k => h (sw1 900 g k)) (sw1 900 g d) hne (by show h (sw1 900 g 900) = _; rw [sw1_a]; exact hg)).rn (π := sw1 900 g) (sw1_inv 900 g) (d' := d)
 simp only [SV.rnL, SV.rn, HU.rn, Blk.rn, List.map_cons, List.map_nil, sw1_a, sw1_inv] at h1
 refine h1.at fun n hn => ?_
 simp only [tops, tn, List.append_nil, List.mem_singleton] at hn
 subst hn
 simp only [sw1_inv, hg, Option.map_some, Blk.rn, rn_cl hc]
end Go.Proofs.Ytfkmlmckihmihaa.Fw
namespace Go.Proofs.Ytfkmlmckihmihaa.Fw
open Go.RowKit Go.Proofs
theorem okAllB {f : Bool} {z : Nat} {L : List (List UInt8)} {most : Int} {g : Nat} {h d} (hgd : g ≠ d) (hg : h g = some (.var (bagV f z L most))) : FunOk Try.prog 20 [.p g 0] h d (.fn (.func 40) [.p d 0]) [.new d (.var (.p g 0))] := by
 refine FunOk.iov (fun h d hd hg => ?_) rfl hgd hg
 refine fun_iov (g := 900) mixed fn20 (Ne.symm hd) (by simp) (by simp [tops, tn]) (by simp [tops, tn]) hg (by simp [Blk.ptr, SV.kill]) rfl rfl (fun _ => rfl) fun F => ?_
 (try simp only [bK1, bK2, bK3, bK4, bK5, bK6, bK7, bK8]); simp (maxSteps := 10000000) (disch := omega) only [ir20, Blk.ptr, go_sem, ↓reduceIte, Nat.reduceEqDiff, Nat.reduceSub, Nat.reduceLeDiff, Nat.reduceAdd, Int.reduceEq, Int.reduceLT, Int.reduceLE]
 refine ⟨_, .same _, ?_⟩
 (try simp only [bK1, bK2, bK3, bK4, bK5, bK6, bK7, bK8]); simp (maxSteps := 10000000) (disch := omega) only [go_sem, ↓reduceIte, Nat.reduceEqDiff, Nat.reduceSub, Nat.reduceLeDiff, Nat.reduceAdd, Int.reduceEq, Int.reduceLT, Int.reduceLE]
 exact ⟨1, 900, rfl, rfl, by decide, rfl, rfl⟩
end Go.Proofs.Ytfkmlmckihmihaa.Fw
namespace Go.Proofs.Ytfkmlmckihmihaa.Fw
open Go.RowKit Go.Proofs
theorem okCloneN {f : Bool} {z : Nat} {es : List (List PV)} (hz : es = [] ∨ z = 1) (hn : es.length ≤ 100000) {h d} : FunOk Try.prog 33 [.pv (.sl f z es)] h d (.os d) [.new d (.row 1 es)] := by
 refine fun_rowN mixed fn33 (by simp) rfl (.inl rfl) fun F => ?_
 (try simp only [bK1, bK2, bK3, bK4, bK5, bK6, bK7, bK8]); simp (maxSteps := 10000000) (disch := omega) only [ir33, hz, go_sem, ↓reduceIte, Nat.reduceEqDiff, Nat.reduceSub, Nat.reduceLeDiff, Nat.reduceAdd, Int.reduceEq, Int.reduceLT, Int.reduceLE]
 intro b hb
 cases b
 · (try simp only [bK1, bK2, bK3, bK4, bK5, bK6, bK7, bK8]); simp (maxSteps := 10000000) (disch := omega) only [hz, go_sem, ↓reduceIte, Nat.reduceEqDiff, Nat.reduceSub, Nat.reduceLeDiff, Nat.reduceAdd, Int.reduceEq, Int.reduceLT, Int.reduceLE]
 · have he : es = [] := Classical.byContradiction fun h => by cases hb h
   subst he
   (try simp only [bK1, bK2, bK3, bK4, bK5, bK6, bK7, bK8]); simp (maxSteps := 10000000) (disch := omega) only [go_sem, ↓reduceIte, Nat.reduceEqDiff, Nat.reduceSub, Nat.reduceLeDiff, Nat.reduceAdd, Int.reduceEq, Int.reduceLT, Int.reduceLE]
   exact Nat.one_pos
theorem sameB_can (e x : Evt) : sameB (canon e) x = sameB e x := rfl
theorem sameL_can (l m : List Evt) : sameL (l.map canon) m = sameL l m := by
 unfold sameL
 rw [List.length_map]
 congr 1
 induction l generalizing m with
 | nil => rfl
 | cons e l ih =>
   cases m with
   | nil => rfl
   | cons x m => simp only [List.map_cons, List.zip_cons_cons, List.all_cons, sameB_can, ih]
theorem sameM_can (m w : Msg) : sameM (canM m) w = sameM m w := by
 show (decide (m.k = w.k) && (decide (m.fr = w.fr) && (decide (m.to = w.to) && (decide (vEq m.kn w.kn) && (decide (tEq m.tb w.tb) && sameL (m.evs.map canon) w.evs))))) = _
 rw [sameL_can]; rfl
end Go.Proofs.Ytfkmlmckihmihaa.Fw
namespace Go.Proofs.Ytfkmlmckihmihaa.Fw
open Go.RowKit Go.Proofs
def stRC (m : Msg) (k : Nat) : FS := mk [(3, .pv (.i .i64 k)), (1, .p 1 0)] [(1, some (.var (.vec 76 (msgE m))))]
set_option maxHeartbeats 8000000 in
theorem okCheckRM (m : Msg) (hm : mv m) {h d} : FunOk Try.prog 48 [.vec 76 (msgE m)] h d (.pv (.b (checkM m))) [] := by
 refine fun_pure mixed fn48 (by simp) rfl rfl fun F => ?_
 obtain ⟨h1, h2, h3, h4, h5⟩ := hm
 by_cases a1 : m.k < 1
 · have e := checkM_h (m := m) fun h => by have := h.1; omega
   (try simp only [bK1, bK2, bK3, bK4, bK5, bK6, bK7, bK8]); simp (maxSteps := 10000000) (disch := omega) only [ir48, a1, e, go_sem, ↓reduceIte, Nat.reduceEqDiff, Nat.reduceSub, Nat.reduceLeDiff, Nat.reduceAdd, Int.reduceEq, Int.reduceLT, Int.reduceLE]
 by_cases a2 : 2 < m.k
 · have e := checkM_h (m := m) fun h => by have := h.1; omega
   (try simp only [bK1, bK2, bK3, bK4, bK5, bK6, bK7, bK8]); simp (maxSteps := 10000000) (disch := omega) only [ir48, a1, a2, e, go_sem, ↓reduceIte, Nat.reduceEqDiff, Nat.reduceSub, Nat.reduceLeDiff, Nat.reduceAdd, Int.reduceEq, Int.reduceLT, Int.reduceLE]
 by_cases a3 : m.fr < 1
 · have e := checkM_h (m := m) fun h => by have := h.2.1; omega
   (try simp only [bK1, bK2, bK3, bK4, bK5, bK6, bK7, bK8]); simp (maxSteps := 10000000) (disch := omega) only [ir48, a1, a2, a3, e, go_sem, ↓reduceIte, Nat.reduceEqDiff, Nat.reduceSub, Nat.reduceLeDiff, Nat.reduceAdd, Int.reduceEq, Int.reduceLT, Int.reduceLE]
 by_cases a4 : 8 < m.fr
 · have e := checkM_h (m := m) fun h => by have := h.2.1; omega
   (try simp only [bK1, bK2, bK3, bK4, bK5, bK6, bK7, bK8]); simp (maxSteps := 10000000) (disch := omega) only [ir48, a1, a2, a3, a4, e, go_sem, ↓reduceIte, Nat.reduceEqDiff, Nat.reduceSub, Nat.reduceLeDiff, Nat.reduceAdd, Int.reduceEq, Int.reduceLT, Int.reduceLE]
 by_cases a5 : m.to < 1
 · have e := checkM_h (m := m) fun h => by have := h.2.2.1; omega
   (try simp only [bK1, bK2, bK3, bK4, bK5, bK6, bK7, bK8]); simp (maxSteps := 10000000) (disch := omega) only [ir48, a1, a2, a3, a4, a5, e, go_sem, ↓reduceIte, Nat.reduceEqDiff, Nat.reduceSub, Nat.reduceLeDiff, Nat.reduceAdd, Int.reduceEq, Int.reduceLT, Int.reduceLE]
 by_cases a6 : 8 < m.to
 · have e := checkM_h (m := m) fun h => by have := h.2.2.1; omega
   (try simp only [bK1, bK2, bK3, bK4, bK5, bK6, bK7, bK8]); simp (maxSteps := 10000000) (disch := omega) only [ir48, a1, a2, a3, a4, a5, a6, e, go_sem, ↓reduceIte, Nat.reduceEqDiff, Nat.reduceSub, Nat.reduceLeDiff, Nat.reduceAdd, Int.reduceEq, Int.reduceLT, Int.reduceLE]
 by_cases a7 : m.fr = m.to
 · have e := checkM_h (m := m) fun h => h.2.2.2.1 a7
   have a3' : ¬ m.to < 1 := a5
   (try simp only [bK1, bK2, bK3, bK4, bK5, bK6, bK7, bK8]); simp (maxSteps := 10000000) (disch := omega) only [ir48, a1, a2, a3, a4, a5, a6, a7, e, go_sem, ↓reduceIte, Nat.reduceEqDiff, Nat.reduceSub, Nat.reduceLeDiff, Nat.reduceAdd, Int.reduceEq, Int.reduceLT, Int.reduceLE]
 by_cases a8 : (8 : Int) < (m.evs.length : Int)
 · have e := checkM_h (m := m) fun h => by have := h.2.2.2.2.1; omega
   (try simp only [bK1, bK2, bK3, bK4, bK5, bK6, bK7, bK8]); simp (maxSteps := 10000000) (disch := omega) only [ir48, List.length_map, a1, a2, a3, a4, a5, a6, a7, a8, e, go_sem, ↓reduceIte, Nat.reduceEqDiff, Nat.reduceSub, Nat.reduceLeDiff, Nat.reduceAdd, Int.reduceEq, Int.reduceLT, Int.reduceLE]
 by_cases k1 : m.k = 1
 · by_cases a9 : (0 : Int) < (m.evs.length : Int)
   · have e := checkM_h (m := m) fun h => by have := h.2.2.2.2.2 k1; omega
     (try simp only [bK1, bK2, bK3, bK4, bK5, bK6, bK7, bK8]); simp (maxSteps := 10000000) (disch := omega) only [ir48, List.length_map, k1, a3, a4, a5, a6, a7, a8, a9, e, go_sem, ↓reduceIte, Nat.reduceEqDiff, Nat.reduceSub, Nat.reduceLeDiff, Nat.reduceAdd, Int.reduceEq, Int.reduceLT, Int.reduceLE]
   have hH : HeadM m := ⟨.inl k1, by omega, by omega, a7, by omega, fun _ => by omega⟩
   (try simp only [bK1, bK2, bK3, bK4, bK5, bK6, bK7, bK8]); simp (maxSteps := 10000000) (disch := omega) only [ir48, List.length_map, k1, a3, a4, a5, a6, a7, a8, a9, go_sem, ↓reduceIte, Nat.reduceEqDiff, Nat.reduceSub, Nat.reduceLeDiff, Nat.reduceAdd, Int.reduceEq, Int.reduceLT, Int.reduceLE]
   refine loop_ok mixed (stRC m) (fun k => k ≤ m.evs.length) (fun k => m.evs.length - k) 0 (by simp) (weak_mk ?_ ?_) fun k hk => ?_
   · (try simp only [bK1, bK2, bK3, bK4, bK5, bK6, bK7, bK8]); simp (maxSteps := 10000000) (disch := omega) only [go_sem, ↓reduceIte, Nat.reduceEqDiff, Nat.reduceSub, Nat.reduceLeDiff, Nat.reduceAdd, Int.reduceEq, Int.reduceLT, Int.reduceLE]
   · (try simp only [bK1, bK2, bK3, bK4, bK5, bK6, bK7, bK8]); simp (maxSteps := 10000000) (disch := omega) only [go_sem, ↓reduceIte, Nat.reduceEqDiff, Nat.reduceSub, Nat.reduceLeDiff, Nat.reduceAdd, Int.reduceEq, Int.reduceLT, Int.reduceLE]
   obtain rfl : k = m.evs.length := by omega
   have e : checkM m = true := by
    rw [checkM_e hH, List.all_eq_true]
    intro x hx
    obtain ⟨j, hj, rfl⟩ := List.getElem_of_mem hx
    omega
   (try simp only [bK1, bK2, bK3, bK4, bK5, bK6, bK7, bK8]); simp (maxSteps := 10000000) (disch := omega) only [stRC, List.length_map, e, go_sem, ↓reduceIte, Nat.reduceEqDiff, Nat.reduceSub, Nat.reduceLeDiff, Nat.reduceAdd, Int.reduceEq, Int.reduceLT, Int.reduceLE]
 · have hH : HeadM m := ⟨.inr (by omega), by omega, by omega, a7, by omega, fun h => absurd h k1⟩
   (try simp only [bK1, bK2, bK3, bK4, bK5, bK6, bK7, bK8]); simp (maxSteps := 10000000) (disch := omega) only [ir48, List.length_map, k1, a1, a2, a3, a4, a5, a6, a7, a8, go_sem, ↓reduceIte, Nat.reduceEqDiff, Nat.reduceSub, Nat.reduceLeDiff, Nat.reduceAdd, Int.reduceEq, Int.reduceLT, Int.reduceLE]
   refine loop_ok mixed (stRC m) (fun k => k ≤ m.evs.length ∧ ∀ j, (hj : j < m.evs.length) → j < k → checkB m.evs[j] = true) (fun k => m.evs.length - k) 0 (by simp) (weak_mk ?_ ?_) fun k hk => ?_
   · (try simp only [bK1, bK2, bK3, bK4, bK5, bK6, bK7, bK8]); simp (maxSteps := 10000000) (disch := omega) only [go_sem, ↓reduceIte, Nat.reduceEqDiff, Nat.reduceSub, Nat.reduceLeDiff, Nat.reduceAdd, Int.reduceEq, Int.reduceLT, Int.reduceLE]
   · (try simp only [bK1, bK2, bK3, bK4, bK5, bK6, bK7, bK8]); simp (maxSteps := 10000000) (disch := omega) only [go_sem, ↓reduceIte, Nat.reduceEqDiff, Nat.reduceSub, Nat.reduceLeDiff, Nat.reduceAdd, Int.reduceEq, Int.reduceLT, Int.reduceLE]
   obtain ⟨hk1, hk2⟩ := hk
   by_cases hlt : k < m.evs.length
   · have hz2 : m.z = 21 := h1.resolve_left fun e => by rw [e] at hlt; simp at hlt
     have he : (m.evs.map evE)[k]? = some (evE m.evs[k]) := by simp [hlt]
     have hmem := List.getElem_mem hlt
     (try simp only [bK1, bK2, bK3, bK4, bK5, bK6, bK7, bK8]); simp (maxSteps := 10000000) (disch := omega) only [stRC, List.length_map, hz2, he, ld_ev, go_sem, ↓reduceIte, Nat.reduceEqDiff, Nat.reduceSub, Nat.reduceLeDiff, Nat.reduceAdd, Int.reduceEq, Int.reduceLT, Int.reduceLE]
     refine call_with (okCheckR m.evs[k] (h3 _ hmem).1 (h3 _ hmem).2) ?_
     by_cases hp : checkB m.evs[k] = true
     · (try simp only [bK1, bK2, bK3, bK4, bK5, bK6, bK7, bK8]); simp (maxSteps := 10000000) (disch := omega) only [hp, go_sem, ↓reduceIte, Nat.reduceEqDiff, Nat.reduceSub, Nat.reduceLeDiff, Nat.reduceAdd, Int.reduceEq, Int.reduceLT, Int.reduceLE]
       refine loop_next (k + 1) _ _ rfl ⟨by omega, fun j hj hjk => ?_⟩ (by omega) ?_ ?_
       · by_cases e : j = k
         · subst e; exact hp
         · exact hk2 j hj (by omega)
       · (try simp only [bK1, bK2, bK3, bK4, bK5, bK6, bK7, bK8]); simp (maxSteps := 10000000) (disch := omega) only [go_sem, ↓reduceIte, Nat.reduceEqDiff, Nat.reduceSub, Nat.reduceLeDiff, Nat.reduceAdd, Int.reduceEq, Int.reduceLT, Int.reduceLE]
       · (try simp only [bK1, bK2, bK3, bK4, bK5, bK6, bK7, bK8]); simp (maxSteps := 10000000) (disch := omega) only [go_sem, ↓reduceIte, Nat.reduceEqDiff, Nat.reduceSub, Nat.reduceLeDiff, Nat.reduceAdd, Int.reduceEq, Int.reduceLT, Int.reduceLE]
     · have hp' : checkB m.evs[k] = false := by simpa using hp
       have e : checkM m = false := by
        rw [checkM_e hH, List.all_eq_false]
        exact ⟨_, hmem, by simp [hp']⟩
       (try simp only [bK1, bK2, bK3, bK4, bK5, bK6, bK7, bK8]); simp (maxSteps := 10000000) (disch := omega) only [hp', e, go_sem, ↓reduceIte, Nat.reduceEqDiff, Nat.reduceSub, Nat.reduceLeDiff, Nat.reduceAdd, Int.reduceEq, Int.reduceLT, Int.reduceLE]
   · obtain rfl : k = m.evs.length := by omega
     have e : checkM m = true := by
      rw [checkM_e hH, List.all_eq_true]
      intro x hx
      obtain ⟨j, hj, rfl⟩ := List.getElem_of_mem hx
      exact hk2 j hj hj
     (try simp only [bK1, bK2, bK3, bK4, bK5, bK6, bK7, bK8]); simp (maxSteps := 10000000) (disch := omega) only [stRC, List.length_map, e, go_sem, ↓reduceIte, Nat.reduceEqDiff, Nat.reduceSub, Nat.reduceLeDiff, Nat.reduceAdd, Int.reduceEq, Int.reduceLT, Int.reduceLE]
def refV (l : List Msg) (most : Int) : SV := .agg [.pv (.sl false 76 (l.map msgE)), .pv (.i .i64 most)]
theorem okAtR_bad {l : List Msg} {most i : Int} (hi : ¬ (0 ≤ i ∧ i < l.length)) {h d} : FunOk Try.prog 38 [refV l most, .pv (.i .i64 i)] h d (.tup [.agg seg0, .pv (.i .i64 2)]) [] := by
 refine fun_pure mixed fn38 (by simp) rfl rfl fun F => ?_
 by_cases h0 : i < 0
 · (try simp only [bK1, bK2, bK3, bK4, bK5, bK6, bK7, bK8]); simp (maxSteps := 10000000) (disch := omega) only [ir38, refV, h0, go_sem, ↓reduceIte, Nat.reduceEqDiff, Nat.reduceSub, Nat.reduceLeDiff, Nat.reduceAdd, Int.reduceEq, Int.reduceLT, Int.reduceLE]
 · have h1 : (l.length : Int) ≤ i := by omega
   (try simp only [bK1, bK2, bK3, bK4, bK5, bK6, bK7, bK8]); simp (maxSteps := 10000000) (disch := omega) only [ir38, refV, h0, h1, List.length_map, go_sem, ↓reduceIte, Nat.reduceEqDiff, Nat.reduceSub, Nat.reduceLeDiff, Nat.reduceAdd, Int.reduceEq, Int.reduceLT, Int.reduceLE]
theorem okAtR {l : List Msg} {most : Int} {k : Nat} {m : Msg} (hk : l[k]? = some m) {h d} : FunOk Try.prog 38 [refV l most, .pv (.i .i64 k)] h d (.tup [.vec 76 (msgE m), .pv (.i .i64 0)]) [] := by
 refine fun_pure mixed fn38 (by simp) rfl rfl fun F => ?_
 have hlt := (List.getElem?_eq_some_iff.1 hk).1
 have he : (l.map msgE)[k]? = some (msgE m) := by rw [List.getElem?_map, hk]; rfl
 have h1 : ¬ (l.length : Int) ≤ (k : Int) := by omega
 (try simp only [bK1, bK2, bK3, bK4, bK5, bK6, bK7, bK8]); simp (maxSteps := 10000000) (disch := omega) only [ir38, refV, h1, List.length_map, he, go_sem, ↓reduceIte, Nat.reduceEqDiff, Nat.reduceSub, Nat.reduceLeDiff, Nat.reduceAdd, Int.reduceEq, Int.reduceLT, Int.reduceLE]
theorem okPutR_bad {l : List Msg} {most : Int} (m : Msg) (hm : mv m) (hc : checkM m = false) {h d} : FunOk Try.prog 39 [refV l most, .vec 76 (msgE m)] h d (.tup [refV l most, .pv (.i .i64 7)]) [] := by
 refine fun_pure mixed fn39 (by simp) rfl rfl fun F => ?_
 (try simp only [bK1, bK2, bK3, bK4, bK5, bK6, bK7, bK8]); simp (maxSteps := 10000000) (disch := omega) only [ir39, refV, go_sem, ↓reduceIte, Nat.reduceEqDiff, Nat.reduceSub, Nat.reduceLeDiff, Nat.reduceAdd, Int.reduceEq, Int.reduceLT, Int.reduceLE]
 refine call_with (okCheckRM m hm) ?_
 (try simp only [bK1, bK2, bK3, bK4, bK5, bK6, bK7, bK8]); simp (maxSteps := 10000000) (disch := omega) only [hc, go_sem, ↓reduceIte, Nat.reduceEqDiff, Nat.reduceSub, Nat.reduceLeDiff, Nat.reduceAdd, Int.reduceEq, Int.reduceLT, Int.reduceLE]
theorem okPutR_full {l : List Msg} {most : Int} (m : Msg) (hm : mv m) (hc : checkM m = true) (hf : most ≤ l.length) {h d} : FunOk Try.prog 39 [refV l most, .vec 76 (msgE m)] h d (.tup [refV l most, .pv (.i .i64 5)]) [] := by
 refine fun_pure mixed fn39 (by simp) rfl rfl fun F => ?_
 (try simp only [bK1, bK2, bK3, bK4, bK5, bK6, bK7, bK8]); simp (maxSteps := 10000000) (disch := omega) only [ir39, refV, go_sem, ↓reduceIte, Nat.reduceEqDiff, Nat.reduceSub, Nat.reduceLeDiff, Nat.reduceAdd, Int.reduceEq, Int.reduceLT, Int.reduceLE]
 refine call_with (okCheckRM m hm) ?_
 (try simp only [bK1, bK2, bK3, bK4, bK5, bK6, bK7, bK8]); simp (maxSteps := 10000000) (disch := omega) only [hc, List.length_map, hf, go_sem, ↓reduceIte, Nat.reduceEqDiff, Nat.reduceSub, Nat.reduceLeDiff, Nat.reduceAdd, Int.reduceEq, Int.reduceLT, Int.reduceLE]
theorem okPutR {l : List Msg} {most : Int} (m : Msg) (hm : mv m) (hc : checkM m = true) (hf : ¬ most ≤ l.length) (hn : l.length ≤ 1000) {h d} : FunOk Try.prog 39 [refV l most, .vec 76 (msgE m)] h d (.tup [refV (l ++ [m]) most, .pv (.i .i64 0)]) [] := by
 refine fun_pureW mixed fn39 (by simp) rfl rfl fun F => ?_
 have em : l.map msgE ++ [msgE m] = (l ++ [m]).map msgE := by simp
 (try simp only [bK1, bK2, bK3, bK4, bK5, bK6, bK7, bK8]); simp (maxSteps := 10000000) (disch := omega) only [ir39, refV, go_sem, ↓reduceIte, Nat.reduceEqDiff, Nat.reduceSub, Nat.reduceLeDiff, Nat.reduceAdd, Int.reduceEq, Int.reduceLT, Int.reduceLE]
 refine call_with (okCheckRM m hm) ?_
 (try simp only [bK1, bK2, bK3, bK4, bK5, bK6, bK7, bK8]); simp (maxSteps := 10000000) (disch := omega) only [hc, List.length_map, hf, List.nil_append, em, go_sem, ↓reduceIte, Nat.reduceEqDiff, Nat.reduceSub, Nat.reduceLeDiff, Nat.reduceAdd, Int.reduceEq, Int.reduceLT, Int.reduceLE]
 refine ⟨_, wk_frz 25 rfl (.same _), ?_⟩
 (try simp only [bK1, bK2, bK3, bK4, bK5, bK6, bK7, bK8]); simp (maxSteps := 10000000) (disch := omega) only [go_sem, ↓reduceIte, Nat.reduceEqDiff, Nat.reduceSub, Nat.reduceLeDiff, Nat.reduceAdd, Int.reduceEq, Int.reduceLT, Int.reduceLE]
theorem okCopyR_bad {l : List Msg} {most i : Int} (hi : ¬ (0 ≤ i ∧ i < l.length)) {h d} : FunOk Try.prog 36 [refV l most, .pv (.i .i64 i)] h d (.tup [refV l most, .pv (.i .i64 2)]) [] := by
 refine fun_pure mixed fn36 (by simp) rfl rfl fun F => ?_
 (try simp only [bK1, bK2, bK3, bK4, bK5, bK6, bK7, bK8]); simp (maxSteps := 10000000) (disch := omega) only [ir36, refV, go_sem, ↓reduceIte, Nat.reduceEqDiff, Nat.reduceSub, Nat.reduceLeDiff, Nat.reduceAdd, Int.reduceEq, Int.reduceLT, Int.reduceLE]
 refine call_with (okAtR_bad hi) ?_
 (try simp only [bK1, bK2, bK3, bK4, bK5, bK6, bK7, bK8]); simp (maxSteps := 10000000) (disch := omega) only [go_sem, ↓reduceIte, Nat.reduceEqDiff, Nat.reduceSub, Nat.reduceLeDiff, Nat.reduceAdd, Int.reduceEq, Int.reduceLT, Int.reduceLE]
theorem okCopyR_full {l : List Msg} {most : Int} {k : Nat} {m : Msg} (hk : l[k]? = some m) (hm : mv m) (hc : checkM m = true) (hf : most ≤ l.length) {h d} : FunOk Try.prog 36 [refV l most, .pv (.i .i64 k)] h d (.tup [refV l most, .pv (.i .i64 5)]) [] := by
 refine fun_pure mixed fn36 (by simp) rfl rfl fun F => ?_
 (try simp only [bK1, bK2, bK3, bK4, bK5, bK6, bK7, bK8]); simp (maxSteps := 10000000) (disch := omega) only [ir36, refV, go_sem, ↓reduceIte, Nat.reduceEqDiff, Nat.reduceSub, Nat.reduceLeDiff, Nat.reduceAdd, Int.reduceEq, Int.reduceLT, Int.reduceLE]
 refine call_with (okAtR hk) ?_
 (try simp only [bK1, bK2, bK3, bK4, bK5, bK6, bK7, bK8]); simp (maxSteps := 10000000) (disch := omega) only [go_sem, ↓reduceIte, Nat.reduceEqDiff, Nat.reduceSub, Nat.reduceLeDiff, Nat.reduceAdd, Int.reduceEq, Int.reduceLT, Int.reduceLE]
 refine call_with (okPutR_full m hm hc hf) ?_
 (try simp only [bK1, bK2, bK3, bK4, bK5, bK6, bK7, bK8]); simp (maxSteps := 10000000) (disch := omega) only [refV, go_sem, ↓reduceIte, Nat.reduceEqDiff, Nat.reduceSub, Nat.reduceLeDiff, Nat.reduceAdd, Int.reduceEq, Int.reduceLT, Int.reduceLE]
theorem okCopyR {l : List Msg} {most : Int} {k : Nat} {m : Msg} (hk : l[k]? = some m) (hm : mv m) (hc : checkM m = true) (hf : ¬ most ≤ l.length) (hn : l.length ≤ 1000) {h d} : FunOk Try.prog 36 [refV l most, .pv (.i .i64 k)] h d (.tup [refV (l ++ [m]) most, .pv (.i .i64 0)]) [] := by
 refine fun_pure mixed fn36 (by simp) rfl rfl fun F => ?_
 (try simp only [bK1, bK2, bK3, bK4, bK5, bK6, bK7, bK8]); simp (maxSteps := 10000000) (disch := omega) only [ir36, refV, go_sem, ↓reduceIte, Nat.reduceEqDiff, Nat.reduceSub, Nat.reduceLeDiff, Nat.reduceAdd, Int.reduceEq, Int.reduceLT, Int.reduceLE]
 refine call_with (okAtR hk) ?_
 (try simp only [bK1, bK2, bK3, bK4, bK5, bK6, bK7, bK8]); simp (maxSteps := 10000000) (disch := omega) only [go_sem, ↓reduceIte, Nat.reduceEqDiff, Nat.reduceSub, Nat.reduceLeDiff, Nat.reduceAdd, Int.reduceEq, Int.reduceLT, Int.reduceLE]
 refine call_with (okPutR m hm hc hf hn) ?_
 (try simp only [bK1, bK2, bK3, bK4, bK5, bK6, bK7, bK8]); simp (maxSteps := 10000000) (disch := omega) only [refV, go_sem, ↓reduceIte, Nat.reduceEqDiff, Nat.reduceSub, Nat.reduceLeDiff, Nat.reduceAdd, Int.reduceEq, Int.reduceLT, Int.reduceLE]
theorem okTakeR_bad {l : List Msg} {most i : Int} (hi : ¬ (0 ≤ i ∧ i < l.length)) {h d} : FunOk Try.prog 35 [refV l most, .pv (.i .i64 i)] h d (.tup [refV l most, .agg seg0, .pv (.i .i64 2)]) [] := by
 refine fun_pure mixed fn35 (by simp) rfl rfl fun F => ?_
 (try simp only [bK1, bK2, bK3, bK4, bK5, bK6, bK7, bK8]); simp (maxSteps := 10000000) (disch := omega) only [ir35, refV, go_sem, ↓reduceIte, Nat.reduceEqDiff, Nat.reduceSub, Nat.reduceLeDiff, Nat.reduceAdd, Int.reduceEq, Int.reduceLT, Int.reduceLE]
 refine call_with (okAtR_bad hi) ?_
 (try simp only [bK1, bK2, bK3, bK4, bK5, bK6, bK7, bK8]); simp (maxSteps := 10000000) (disch := omega) only [go_sem, ↓reduceIte, Nat.reduceEqDiff, Nat.reduceSub, Nat.reduceLeDiff, Nat.reduceAdd, Int.reduceEq, Int.reduceLT, Int.reduceLE]
 refine anyP_now ?_
 (try simp only [bK1, bK2, bK3, bK4, bK5, bK6, bK7, bK8]); simp (maxSteps := 10000000) (disch := omega) only [go_sem, ↓reduceIte, Nat.reduceEqDiff, Nat.reduceSub, Nat.reduceLeDiff, Nat.reduceAdd, Int.reduceEq, Int.reduceLT, Int.reduceLE]
end Go.Proofs.Ytfkmlmckihmihaa.Fw
namespace Go.Proofs.Ytfkmlmckihmihaa.Fw
open Go.RowKit Go.Proofs
theorem fun_rowX {P : Program} (hm : P.follows .mixedOrders = true) {f N' : Nat} {rs : List Rv} {c : C} (hf : fnOf P f = some (N', rs, c)) {args : List SV} {h : Nat → Option Blk} {d : Nat} {sz : Nat} {es : List (List PV)} {X : Nat → SV} (hlen : args.length ≤ N')
 (hargs : SV.closedL args = true) (hX : ∀ (V V' : View) (ρ ρ' : Nat → Value) (n d : Nat) (v : Value), View.le V V' → ρ' d = ρ n → Conc V ρ (X n) v → Conc V' ρ' (X d) v)
 (hrun : ∀ F, sx (env P F N') c (RetQ rs fun y g => ∃ n, y = X n ∧ g n = some (.row sz es)) (mk (argT 0 args) [])) :
 FunOk P f args h d (X d) [.new d (.row sz es)] := by
 obtain ⟨h1, h2, h3⟩ := lentNames_nil hargs
 refine ⟨entered_of hf, fun F N ρ s a w hR hh vs hc => ?_⟩
 refine Calls.mono (call_after hm hf (h := h) hlen h2 retS_w (by rw [h3]; exact hrun) hR hh hc) fun e w' he => ?_
 obtain ⟨v, rfl, hg, N'', ρ', s', a', y, hR', hy, n, rfl, hn⟩ := he
 rw [h1, without_nil] at hR' hy
 obtain ⟨base, cap, g1, g2, g3, g4, g5⟩ := hR'.own n _ hn
 have hown : ∀ b, idOf (ρ' n) = some b → w.heap.size ≤ b ∧ b < w'.heap.size := fun b hb => by
  have ho : owned ρ' s'.h b := ⟨n, _, hn, hb⟩
  exact ⟨(hR'.may b ho).resolve_right id, hR'.lt ho⟩
 have hnew := hR.adopt hg d (.row sz es) (ρ' n) hown fun _ => by
  refine ⟨base, cap, by rw [upd_self]; exact g1, g2, g3, g4, fun hcap => ?_⟩
  obtain ⟨b, vs', ty, fr, k1, k2, k3, k4, k5, k6⟩ := g5 hcap
  refine ⟨b, vs', ty, fr, k1, k2, k3, k4, k5, fun i c hi => (k6 i c hi).mono (viewOf_le fun b' c' ho hc' => ⟨fun hb' => ?_, hc'⟩)⟩
  rcases hb' with ⟨m, z, hm1, hm2⟩ | hb'
  · by_cases hmd : m = d
    · subst hmd
      rw [upd_self] at hm2
      exact ho (.inl ⟨n, _, hn, hm2⟩)
    · rw [upd_ne hmd] at hm2
      simp only [FS.hup, FS.seth, FS.kill, hmd, if_false] at hm1
      obtain ⟨z', hz', _⟩ := Option.map_eq_some_iff.1 hm1
      exact ho (.inr (.inl ⟨m, z', hz', hm2⟩))
  · exact ho (.inr (.inr hb'))
 refine ⟨v, _, rfl, hnew.1, hX _ _ _ _ _ _ _ (viewOf_le fun b' c' ho hc' => ⟨fun hb' => ?_, hc'⟩) upd_self hy⟩
 rcases hb' with ⟨m, z, hm1, hm2⟩ | hb'
 · by_cases hmd : m = d
   · subst hmd
     rw [upd_self] at hm2
     exact ho (.inl ⟨n, _, hn, hm2⟩)
   · rw [upd_ne hmd] at hm2
     simp only [FS.hup, FS.seth, FS.kill, hmd, if_false] at hm1
     obtain ⟨z', hz', _⟩ := Option.map_eq_some_iff.1 hm1
     exact ho (.inr (.inl ⟨m, z', hz', hm2⟩))
 · exact ho (.inr (.inr hb'))
end Go.Proofs.Ytfkmlmckihmihaa.Fw
namespace Go.Proofs.Ytfkmlmckihmihaa.Fw
open Go.RowKit Go.Proofs
def tkX (m : Msg) (most : Int) (n : Nat) : SV := .tup [.agg [.os n, .pv (.i .i64 most)], .vec 76 (msgE m), .pv (.i .i64 0)]
theorem tkX_ok (m : Msg) (most : Int) (V V' : View) (ρ ρ' : Nat → Value) (n d : Nat) (v : Value) (hV : View.le V V') (he : ρ' d = ρ n) (h : Conc V ρ (tkX m most n) v) : Conc V' ρ' (tkX m most d) v := by
 unfold tkX at h ⊢
 simp only [Conc, ConcL, Cells] at h ⊢
 obtain ⟨vs, rfl, u, us, rfl, ⟨cs, rfl, u1, us1, rfl, ⟨e1, o1⟩, l1, c1, u2, us2, rfl, p2, l2, c2, r2⟩, u3, us3, rfl, ⟨ws, rfl, lw, pw⟩, u4, us4, rfl, p4, r4⟩ := h
 exact ⟨_, rfl, _, _, rfl, ⟨_, rfl, u1, _, rfl, ⟨e1.trans he.symm, o1⟩, l1, c1, u2, _, rfl, p2.mono hV, l2, c2, r2⟩, _, _, rfl, ⟨_, rfl, lw, pw.mono hV⟩, _, _, rfl, p4.mono hV, r4⟩
set_option maxHeartbeats 4000000 in
theorem okTakeR {l : List Msg} {most : Int} {k : Nat} {m : Msg} (hk : l[k]? = some m) (hn : l.length ≤ 1000) {h d} : FunOk Try.prog 35 [refV l most, .pv (.i .i64 k)] h d (tkX m most d) [.new d (.row 76 ((l.take k ++ l.drop (k + 1)).map msgE))] := by
 refine fun_rowX (X := tkX m most) mixed fn35 (by simp) rfl (tkX_ok m most) fun F => ?_
 have hlt := (List.getElem?_eq_some_iff.1 hk).1
 have ek : ((k : Int) + 1).toNat = k + 1 := by omega
 have el : l.map msgE = l.map msgE := rfl
 have etl : List.take l.length (l.map msgE) = l.map msgE := by rw [List.take_of_length_le (by simp)]
 have em : List.take k (l.map msgE) ++ List.drop (k + 1) (l.map msgE) = (l.take k ++ l.drop (k + 1)).map msgE := by simp
 (try simp only [bK1, bK2, bK3, bK4, bK5, bK6, bK7, bK8]); simp (maxSteps := 10000000) (disch := omega) only [ir35, refV, go_sem, ↓reduceIte, Nat.reduceEqDiff, Nat.reduceSub, Nat.reduceLeDiff, Nat.reduceAdd, Int.reduceEq, Int.reduceLT, Int.reduceLE]
 refine call_with (okAtR hk) ?_
 (try simp only [bK1, bK2, bK3, bK4, bK5, bK6, bK7, bK8]); simp (maxSteps := 10000000) (disch := omega) only [List.length_map, List.nil_append, ek, etl, em, go_sem, ↓reduceIte, Nat.reduceEqDiff, Nat.reduceSub, Nat.reduceLeDiff, Nat.reduceAdd, Int.reduceEq, Int.reduceLT, Int.reduceLE]
 have b1 : (List.take k (l.map msgE)).length ≤ 1000 := by simp; omega
 have b2 : (List.drop (k + 1) (l.map msgE)).length ≤ 1000 := by simp; omega
 refine ⟨by omega, by omega, anyP_now ?_⟩
 (try simp only [bK1, bK2, bK3, bK4, bK5, bK6, bK7, bK8]); simp (maxSteps := 10000000) (disch := omega) only [go_sem, ↓reduceIte, Nat.reduceEqDiff, Nat.reduceSub, Nat.reduceLeDiff, Nat.reduceAdd, Int.reduceEq, Int.reduceLT, Int.reduceLE]
 refine ⟨33, rfl, ?_⟩
 (try simp only [bK1, bK2, bK3, bK4, bK5, bK6, bK7, bK8]); simp (maxSteps := 10000000) (disch := omega) only [go_sem, ↓reduceIte, Nat.reduceEqDiff, Nat.reduceSub, Nat.reduceLeDiff, Nat.reduceAdd, Int.reduceEq, Int.reduceLT, Int.reduceLE]
theorem okLateR_bad {l : List Msg} {most i : Int} (hi : ¬ (0 ≤ i ∧ i < l.length)) {h d} : FunOk Try.prog 37 [refV l most, .pv (.i .i64 i)] h d (.tup [refV l most, .pv (.i .i64 2)]) [] := by
 refine fun_pure mixed fn37 (by simp) rfl rfl fun F => ?_
 (try simp only [bK1, bK2, bK3, bK4, bK5, bK6, bK7, bK8]); simp (maxSteps := 10000000) (disch := omega) only [ir37, refV, go_sem, ↓reduceIte, Nat.reduceEqDiff, Nat.reduceSub, Nat.reduceLeDiff, Nat.reduceAdd, Int.reduceEq, Int.reduceLT, Int.reduceLE]
 refine call_with (okTakeR_bad hi) ?_
 (try simp only [bK1, bK2, bK3, bK4, bK5, bK6, bK7, bK8]); simp (maxSteps := 10000000) (disch := omega) only [refV, go_sem, ↓reduceIte, Nat.reduceEqDiff, Nat.reduceSub, Nat.reduceLeDiff, Nat.reduceAdd, Int.reduceEq, Int.reduceLT, Int.reduceLE]
theorem okLateR {l : List Msg} {most : Int} {k : Nat} {m : Msg} (hk : l[k]? = some m) (hn : l.length ≤ 1000) {h d} : FunOk Try.prog 37 [refV l most, .pv (.i .i64 k)] h d (.tup [refV (l.take k ++ l.drop (k + 1) ++ [m]) most, .pv (.i .i64 0)]) [] := by
 refine fun_pureW mixed fn37 (by simp) rfl rfl fun F => ?_
 have em : (l.take k ++ l.drop (k + 1)).map msgE ++ [msgE m] = (l.take k ++ l.drop (k + 1) ++ [m]).map msgE := by simp
 have hl2 : (l.take k ++ l.drop (k + 1)).length ≤ 1000 := by simp; omega
 (try simp only [bK1, bK2, bK3, bK4, bK5, bK6, bK7, bK8]); simp (maxSteps := 10000000) (disch := omega) only [ir37, refV, go_sem, ↓reduceIte, Nat.reduceEqDiff, Nat.reduceSub, Nat.reduceLeDiff, Nat.reduceAdd, Int.reduceEq, Int.reduceLT, Int.reduceLE]
 refine call_with (okTakeR hk hn) ?_
 (try simp only [bK1, bK2, bK3, bK4, bK5, bK6, bK7, bK8]); simp (maxSteps := 10000000) (disch := omega) only [tkX, List.length_map, em, go_sem, ↓reduceIte, Nat.reduceEqDiff, Nat.reduceSub, Nat.reduceLeDiff, Nat.reduceAdd, Int.reduceEq, Int.reduceLT, Int.reduceLE]
 refine ⟨_, wk_frz 24 rfl (.same _), ?_⟩
 (try simp only [bK1, bK2, bK3, bK4, bK5, bK6, bK7, bK8]); simp (maxSteps := 10000000) (disch := omega) only [go_sem, ↓reduceIte, Nat.reduceEqDiff, Nat.reduceSub, Nat.reduceLeDiff, Nat.reduceAdd, Int.reduceEq, Int.reduceLT, Int.reduceLE]
end Go.Proofs.Ytfkmlmckihmihaa.Fw
