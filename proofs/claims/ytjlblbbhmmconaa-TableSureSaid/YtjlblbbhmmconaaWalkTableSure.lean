/- What the functions that the law TableSure reaches compute. -/
import Derived.Test.YtjlblbbhmmconaaIr
import Derived.OpenShut
import Derived.ShutString
import Derived.ChangeOld
import Derived.SizedLaws
set_option linter.unusedVariables false
set_option linter.unusedSimpArgs false
set_option linter.unusedSectionVars false
set_option maxRecDepth 100000
namespace Go.Proofs.Ytjlblbbhmmconaa.Fw
open Go.RowKit Go.Proofs
def vJoin (a b : Vc) : Vc := fun i => max (a i) (b i)
def vMeet (a b : Vc) : Vc := fun i => min (a i) (b i)
/-- all that the one means the other one does -/
def vLe (a b : Vc) : Prop := ∀ i, i < 8 → a i ≤ b i
instance (a b : Vc) : Decidable (vLe a b) := inferInstanceAs (Decidable (∀ i, i < 8 → a i ≤ b i))
def vOrd (a b : Vc) : Int := if vEq a b then 0 else if vLe a b then -1 else if vLe b a then 1 else 2
theorem vOrd_le (a b : Vc) : vOrd a b ≤ 0 ↔ vLe a b := by
  unfold vOrd
  by_cases h : vEq a b
  · have : vLe a b := fun i hi => by rw [h i hi]; exact Nat.le_refl _
    simp [h, this]
  · by_cases h2 : vLe a b
    · simp [h, h2]
    · by_cases h3 : vLe b a <;> simp [h, h2, h3]
def stJoin (a b : Vc) (k : Nat) : FS := mk [(8, .pv (.i .i64 k)), (7, .vec 8 (vE b)), (4, .p 4 0), (2, .p 2 0)] [(2, some (.var (.vec 8 (vE fun i => if i < k then vJoin a b i else a i)))), (4, some (.var (.vec 8 (vE fun _ => 0))))]
theorem okJoin (a b : Vc) {h d} : FunOk Try.prog 49 [.vec 8 (vE a), .vec 8 (vE b)] h d (.vec 8 (vE (vJoin a b))) [] := by
  refine fun_pure mixed fn49 (by simp) rfl rfl fun F => ?_
  (try simp only [brK_e, gdK_e, skK_e, gdA_e, skA_e, pkK_e]); simp (maxSteps := 10000000) (disch := omega) only [ir49, go_sem, ↓reduceIte, Nat.reduceEqDiff, Nat.reduceSub, Nat.reduceLeDiff, Nat.reduceAdd, Int.reduceEq, Int.reduceLT, Int.reduceLE]
  refine loop_ok mixed (stJoin a b) (fun k => k ≤ 8) (fun k => 8 - k) 0 (by simp) (weak_mk ?_ ?_) fun k hk => ?_
  · (try simp only [brK_e, gdK_e, skK_e, gdA_e, skA_e, pkK_e]); simp (maxSteps := 10000000) (disch := omega) only [go_sem, ↓reduceIte, Nat.reduceEqDiff, Nat.reduceSub, Nat.reduceLeDiff, Nat.reduceAdd, Int.reduceEq, Int.reduceLT, Int.reduceLE]
  · (try simp only [brK_e, gdK_e, skK_e, gdA_e, skA_e, pkK_e]); simp (maxSteps := 10000000) (disch := omega) only [vE_none, go_sem, ↓reduceIte, Nat.reduceEqDiff, Nat.reduceSub, Nat.reduceLeDiff, Nat.reduceAdd, Int.reduceEq, Int.reduceLT, Int.reduceLE]
  by_cases hlt : k < 8
  · (try simp only [brK_e, gdK_e, skK_e, gdA_e, skA_e, pkK_e]); simp (maxSteps := 10000000) (disch := omega) only [stJoin, go_sem, ↓reduceIte, Nat.reduceEqDiff, Nat.reduceSub, Nat.reduceLeDiff, Nat.reduceAdd, Int.reduceEq, Int.reduceLT, Int.reduceLE]
    refine loop_next (k + 1) _ _ rfl (by omega) (by omega) ?_ ?_
    · (try simp only [brK_e, gdK_e, skK_e, gdA_e, skA_e, pkK_e]); simp (maxSteps := 10000000) (disch := omega) only [go_sem, ↓reduceIte, Nat.reduceEqDiff, Nat.reduceSub, Nat.reduceLeDiff, Nat.reduceAdd, Int.reduceEq, Int.reduceLT, Int.reduceLE]
    · (try simp only [brK_e, gdK_e, skK_e, gdA_e, skA_e, pkK_e]); simp (maxSteps := 10000000) (disch := omega) only [go_sem, ↓reduceIte, Nat.reduceEqDiff, Nat.reduceSub, Nat.reduceLeDiff, Nat.reduceAdd, Int.reduceEq, Int.reduceLT, Int.reduceLE]
      exact imp_vec (vE_setV_lt _ _ _ (by simp [vJoin]))
  · (try simp only [brK_e, gdK_e, skK_e, gdA_e, skA_e, pkK_e]); simp (maxSteps := 10000000) (disch := omega) only [stJoin, vE_all, go_sem, ↓reduceIte, Nat.reduceEqDiff, Nat.reduceSub, Nat.reduceLeDiff, Nat.reduceAdd, Int.reduceEq, Int.reduceLT, Int.reduceLE]
def stMeet (a b : Vc) (k : Nat) : FS := mk [(8, .pv (.i .i64 k)), (7, .vec 8 (vE b)), (4, .p 4 0), (2, .p 2 0)] [(2, some (.var (.vec 8 (vE fun i => if i < k then vMeet a b i else a i)))), (4, some (.var (.vec 8 (vE fun _ => 0))))]
theorem okMeet (a b : Vc) {h d} : FunOk Try.prog 48 [.vec 8 (vE a), .vec 8 (vE b)] h d (.vec 8 (vE (vMeet a b))) [] := by
  refine fun_pure mixed fn48 (by simp) rfl rfl fun F => ?_
  (try simp only [brK_e, gdK_e, skK_e, gdA_e, skA_e, pkK_e]); simp (maxSteps := 10000000) (disch := omega) only [ir48, go_sem, ↓reduceIte, Nat.reduceEqDiff, Nat.reduceSub, Nat.reduceLeDiff, Nat.reduceAdd, Int.reduceEq, Int.reduceLT, Int.reduceLE]
  refine loop_ok mixed (stMeet a b) (fun k => k ≤ 8) (fun k => 8 - k) 0 (by simp) (weak_mk ?_ ?_) fun k hk => ?_
  · (try simp only [brK_e, gdK_e, skK_e, gdA_e, skA_e, pkK_e]); simp (maxSteps := 10000000) (disch := omega) only [go_sem, ↓reduceIte, Nat.reduceEqDiff, Nat.reduceSub, Nat.reduceLeDiff, Nat.reduceAdd, Int.reduceEq, Int.reduceLT, Int.reduceLE]
  · (try simp only [brK_e, gdK_e, skK_e, gdA_e, skA_e, pkK_e]); simp (maxSteps := 10000000) (disch := omega) only [vE_none, go_sem, ↓reduceIte, Nat.reduceEqDiff, Nat.reduceSub, Nat.reduceLeDiff, Nat.reduceAdd, Int.reduceEq, Int.reduceLT, Int.reduceLE]
  by_cases hlt : k < 8
  · (try simp only [brK_e, gdK_e, skK_e, gdA_e, skA_e, pkK_e]); simp (maxSteps := 10000000) (disch := omega) only [stMeet, go_sem, ↓reduceIte, Nat.reduceEqDiff, Nat.reduceSub, Nat.reduceLeDiff, Nat.reduceAdd, Int.reduceEq, Int.reduceLT, Int.reduceLE]
    refine loop_next (k + 1) _ _ rfl (by omega) (by omega) ?_ ?_
    · (try simp only [brK_e, gdK_e, skK_e, gdA_e, skA_e, pkK_e]); simp (maxSteps := 10000000) (disch := omega) only [go_sem, ↓reduceIte, Nat.reduceEqDiff, Nat.reduceSub, Nat.reduceLeDiff, Nat.reduceAdd, Int.reduceEq, Int.reduceLT, Int.reduceLE]
    · (try simp only [brK_e, gdK_e, skK_e, gdA_e, skA_e, pkK_e]); simp (maxSteps := 10000000) (disch := omega) only [go_sem, ↓reduceIte, Nat.reduceEqDiff, Nat.reduceSub, Nat.reduceLeDiff, Nat.reduceAdd, Int.reduceEq, Int.reduceLT, Int.reduceLE]
      exact imp_vec (vE_setV_lt _ _ _ (by simp [vMeet]))
  · (try simp only [brK_e, gdK_e, skK_e, gdA_e, skA_e, pkK_e]); simp (maxSteps := 10000000) (disch := omega) only [stMeet, vE_all, go_sem, ↓reduceIte, Nat.reduceEqDiff, Nat.reduceSub, Nat.reduceLeDiff, Nat.reduceAdd, Int.reduceEq, Int.reduceLT, Int.reduceLE]
def someLt (a b : Vc) (k : Nat) : Prop := ¬ ∀ i, i < k → ¬ a i < b i
instance (a b : Vc) (k : Nat) : Decidable (someLt a b k) := inferInstanceAs (Decidable (¬ ∀ i, i < k → ¬ a i < b i))
theorem someLt_e (a b : Vc) (k : Nat) : someLt a b k ↔ ∃ i, i < k ∧ a i < b i := by unfold someLt; simp
def stOrder (a b : Vc) (k : Nat) : FS := mk [(7, .pv (.i .i64 k)), (5, .pv (.b (decide (someLt a b k)))), (6, .pv (.b (decide (someLt b a k)))), (2, .p 2 0), (3, .p 3 0)] [(2, some (.var (.vec 8 (vE a)))), (3, some (.var (.vec 8 (vE b))))]
theorem someLt_succ (a b : Vc) (k : Nat) : someLt a b (k + 1) ↔ someLt a b k ∨ a k < b k := by
  simp only [someLt_e]
  constructor
  · rintro ⟨i, h1, h2⟩
    by_cases e : i = k
    · subst e; exact .inr h2
    · exact .inl ⟨i, by omega, h2⟩
  · rintro (⟨i, h1, h2⟩ | h)
    · exact ⟨i, by omega, h2⟩
    · exact ⟨k, by omega, h⟩
theorem someLt_8 (a b : Vc) : someLt a b 8 ↔ ¬ vLe b a := by
  rw [someLt_e]
  constructor
  · rintro ⟨i, h1, h2⟩ h; have := h i h1; omega
  · intro h
    refine Decidable.byContradiction fun hn => h fun i hi => ?_
    refine Nat.le_of_not_lt fun hl => hn ⟨i, hi, hl⟩
theorem vEq_iff (a b : Vc) : vEq a b ↔ vLe a b ∧ vLe b a :=
  ⟨fun h => ⟨fun i hi => by rw [h i hi]; exact Nat.le_refl _, fun i hi => by rw [h i hi]; exact Nat.le_refl _⟩, fun h i hi => Nat.le_antisymm (h.1 i hi) (h.2 i hi)⟩
theorem imp_b {a b : Bool} (h : a = b) : Imp (.pv (.b a)) (.pv (.b b)) := h ▸ Imp.refl _
set_option maxHeartbeats 1000000 in
theorem okOrderR (a b : Vc) {h d} : FunOk Try.prog 26 [.vec 8 (vE a), .vec 8 (vE b)] h d (.pv (.i .i64 (vOrd a b))) [] := by
  refine fun_pure mixed fn26 (by simp) rfl rfl fun F => ?_
  (try simp only [brK_e, gdK_e, skK_e, gdA_e, skA_e, pkK_e]); simp (maxSteps := 10000000) (disch := omega) only [ir26, go_sem, ↓reduceIte, Nat.reduceEqDiff, Nat.reduceSub, Nat.reduceLeDiff, Nat.reduceAdd, Int.reduceEq, Int.reduceLT, Int.reduceLE]
  refine loop_ok mixed (stOrder a b) (fun k => k ≤ 8) (fun k => 8 - k) 0 (by simp) (weak_mk ?_ ?_) fun k hk => ?_
  · (try simp only [brK_e, gdK_e, skK_e, gdA_e, skA_e, pkK_e]); simp (maxSteps := 10000000) (disch := omega) only [go_sem, ↓reduceIte, Nat.reduceEqDiff, Nat.reduceSub, Nat.reduceLeDiff, Nat.reduceAdd, Int.reduceEq, Int.reduceLT, Int.reduceLE]
    have e : ∀ x y : Vc, ¬ someLt x y 0 := fun x y => by rw [someLt_e]; rintro ⟨i, h, _⟩; omega
    refine ⟨imp_b ?_, imp_b ?_⟩ <;> simp [e]
  · (try simp only [brK_e, gdK_e, skK_e, gdA_e, skA_e, pkK_e]); simp (maxSteps := 10000000) (disch := omega) only [go_sem, ↓reduceIte, Nat.reduceEqDiff, Nat.reduceSub, Nat.reduceLeDiff, Nat.reduceAdd, Int.reduceEq, Int.reduceLT, Int.reduceLE]
  by_cases hlt : k < 8
  · by_cases h1 : someLt a b k <;> by_cases h2 : someLt b a k
    all_goals (try simp only [brK_e, gdK_e, skK_e, gdA_e, skA_e, pkK_e]); simp (maxSteps := 10000000) (disch := omega) only [stOrder, h1, h2, go_sem, ↓reduceIte, Nat.reduceEqDiff, Nat.reduceSub, Nat.reduceLeDiff, Nat.reduceAdd, Int.reduceEq, Int.reduceLT, Int.reduceLE]
    all_goals refine loop_next (k + 1) _ _ rfl (by omega) (by omega) ?_ ?_
    all_goals (try simp only [brK_e, gdK_e, skK_e, gdA_e, skA_e, pkK_e]); simp (maxSteps := 10000000) (disch := omega) only [go_sem, ↓reduceIte, Nat.reduceEqDiff, Nat.reduceSub, Nat.reduceLeDiff, Nat.reduceAdd, Int.reduceEq, Int.reduceLT, Int.reduceLE]
    all_goals try refine ⟨imp_b ?_, imp_b ?_⟩
    all_goals try refine imp_b ?_
    all_goals simp [someLt_succ, h1, h2]
  · obtain rfl : k = 8 := by omega
    by_cases h1 : vLe a b <;> by_cases h2 : vLe b a
    all_goals (try simp only [brK_e, gdK_e, skK_e, gdA_e, skA_e, pkK_e]); simp (maxSteps := 10000000) (disch := omega) only [stOrder, someLt_8, h1, h2, go_sem, ↓reduceIte, Nat.reduceEqDiff, Nat.reduceSub, Nat.reduceLeDiff, Nat.reduceAdd, Int.reduceEq, Int.reduceLT, Int.reduceLE]
    all_goals simp [vOrd, vEq_iff, h1, h2]
theorem okLeqR (a b : Vc) {h d} : FunOk Try.prog 22 [.vec 8 (vE a), .vec 8 (vE b)] h d (.pv (.b (decide (vLe a b)))) [] := by
  refine fun_pure mixed fn22 (by simp) rfl rfl fun F => ?_
  (try simp only [brK_e, gdK_e, skK_e, gdA_e, skA_e, pkK_e]); simp (maxSteps := 10000000) (disch := omega) only [ir22, go_sem, ↓reduceIte, Nat.reduceEqDiff, Nat.reduceSub, Nat.reduceLeDiff, Nat.reduceAdd, Int.reduceEq, Int.reduceLT, Int.reduceLE]
  refine call_with (okOrderR a b) ?_
  (try simp only [brK_e, gdK_e, skK_e, gdA_e, skA_e, pkK_e]); simp (maxSteps := 10000000) (disch := omega) only [go_sem, ↓reduceIte, Nat.reduceEqDiff, Nat.reduceSub, Nat.reduceLeDiff, Nat.reduceAdd, Int.reduceEq, Int.reduceLT, Int.reduceLE]
  by_cases h1 : vLe a b
  · simp [vOrd_le, h1]
  · simp [vOrd_le, h1]
end Go.Proofs.Ytjlblbbhmmconaa.Fw
namespace Go.Proofs.Ytjlblbbhmmconaa.Fw
open Go.RowKit Go.Proofs
abbrev Tb := Nat → Vc
def tLearn (t : Tb) (rep : Int) (v : Vc) : Tb := fun i => if (i : Int) + 1 = rep then vJoin (t i) v else t i
def tJoin (a b : Tb) : Tb := fun i => vJoin (a i) (b i)
def tRow (t : Tb) (rep : Int) : Vc := if 1 ≤ rep ∧ rep ≤ 8 then t (rep.toNat - 1) else fun _ => 0
def allTo (t : Tb) : Nat → Vc
  | 0 => fun _ => 0
  | k + 1 => vJoin (allTo t k) (t k)
def sureTo (t : Tb) (w : Nat → Bool) : Nat → Bool × Vc
  | 0 => (false, fun _ => 0)
  | k + 1 => if w k = true then (if (sureTo t w k).1 = true then (true, vMeet (sureTo t w k).2 (t k)) else (true, t k)) else sureTo t w k
theorem tLearn_app (t : Tb) (rep : Int) (v : Vc) (i j : Nat) : tLearn t rep v i j = if (i : Int) + 1 = rep then max (t i j) (v j) else t i j := by
  unfold tLearn vJoin; split <;> rfl
theorem tJoin_app (a b : Tb) (i j : Nat) : tJoin a b i j = max (a i j) (b i j) := rfl
theorem tE_learn (t : Tb) (rep : Int) (v : Vc) (k : Nat) (h : rep = k + 1) : tE (setV t k (vJoin (t k) v)) = tE (tLearn t rep v) :=
  tE_ext fun i hi j hj => by
    unfold setV tLearn
    by_cases e : i = k
    · subst e; rw [if_pos rfl, if_pos (by omega)]
    · rw [if_neg e, if_neg (by omega)]
theorem tE_learn_no (t : Tb) (rep : Int) (v : Vc) (h : rep < 1 ∨ 8 < rep) : tE (tLearn t rep v) = tE t :=
  tE_ext fun i hi j hj => by unfold tLearn; rw [if_neg (by omega)]
theorem okLearn (t : Tb) (rep : Int) (v : Vc) (hr : -9223372036854775808 ≤ rep ∧ rep < 9223372036854775808) {h d} : FunOk Try.prog 43 [.vec 64 (tE t), .pv (.i .i64 rep), .vec 8 (vE v)] h d (.vec 64 (tE (tLearn t rep v))) [] := by
  refine fun_pure mixed fn43 (by simp) rfl rfl fun F => ?_
  by_cases h1 : 1 ≤ rep ∧ rep ≤ 8
  · obtain ⟨k, rfl⟩ : ∃ k : Nat, rep = k + 1 := ⟨rep.toNat - 1, by omega⟩
    have e1 : ((k : Int) + 1 - 1) = k := by omega
    (try simp only [brK_e, gdK_e, skK_e, gdA_e, skA_e, pkK_e]); simp (maxSteps := 10000000) (disch := omega) only [ir43, e1, go_sem, ↓reduceIte, Nat.reduceEqDiff, Nat.reduceSub, Nat.reduceLeDiff, Nat.reduceAdd, Int.reduceEq, Int.reduceLT, Int.reduceLE]
    refine call_with (okJoin _ _) ?_
    (try simp only [brK_e, gdK_e, skK_e, gdA_e, skA_e, pkK_e]); simp (maxSteps := 10000000) (disch := omega) only [e1, go_sem, ↓reduceIte, Nat.reduceEqDiff, Nat.reduceSub, Nat.reduceLeDiff, Nat.reduceAdd, Int.reduceEq, Int.reduceLT, Int.reduceLE]
    rw [tE_learn _ _ _ _ rfl]
  · by_cases h2 : rep < 1
    · (try simp only [brK_e, gdK_e, skK_e, gdA_e, skA_e, pkK_e]); simp (maxSteps := 10000000) (disch := omega) only [ir43, tE_learn_no, go_sem, ↓reduceIte, Nat.reduceEqDiff, Nat.reduceSub, Nat.reduceLeDiff, Nat.reduceAdd, Int.reduceEq, Int.reduceLT, Int.reduceLE]
    · (try simp only [brK_e, gdK_e, skK_e, gdA_e, skA_e, pkK_e]); simp (maxSteps := 10000000) (disch := omega) only [ir43, tE_learn_no, go_sem, ↓reduceIte, Nat.reduceEqDiff, Nat.reduceSub, Nat.reduceLeDiff, Nat.reduceAdd, Int.reduceEq, Int.reduceLT, Int.reduceLE]
theorem okRow (t : Tb) (rep : Int) (hr : -9223372036854775808 ≤ rep ∧ rep < 9223372036854775808) {h d} : FunOk Try.prog 44 [.vec 64 (tE t), .pv (.i .i64 rep)] h d (.vec 8 (vE (tRow t rep))) [] := by
  refine fun_pure mixed fn44 (by simp) rfl rfl fun F => ?_
  by_cases h1 : 1 ≤ rep ∧ rep ≤ 8
  · obtain ⟨k, rfl⟩ : ∃ k : Nat, rep = k + 1 := ⟨rep.toNat - 1, by omega⟩
    have e1 : ((k : Int) + 1 - 1) = k := by omega
    have e2 : tRow t ((k : Int) + 1) = t k := by unfold tRow; rw [if_pos h1]; congr 1
    rw [e2]
    (try simp only [brK_e, gdK_e, skK_e, gdA_e, skA_e, pkK_e]); simp (maxSteps := 10000000) (disch := omega) only [ir44, e1, go_sem, ↓reduceIte, Nat.reduceEqDiff, Nat.reduceSub, Nat.reduceLeDiff, Nat.reduceAdd, Int.reduceEq, Int.reduceLT, Int.reduceLE]
  · have e2 : tRow t rep = fun _ => 0 := by unfold tRow; rw [if_neg h1]
    rw [e2]
    by_cases h2 : rep < 1
    · (try simp only [brK_e, gdK_e, skK_e, gdA_e, skA_e, pkK_e]); simp (maxSteps := 10000000) (disch := omega) only [ir44, go_sem, ↓reduceIte, Nat.reduceEqDiff, Nat.reduceSub, Nat.reduceLeDiff, Nat.reduceAdd, Int.reduceEq, Int.reduceLT, Int.reduceLE]
    · (try simp only [brK_e, gdK_e, skK_e, gdA_e, skA_e, pkK_e]); simp (maxSteps := 10000000) (disch := omega) only [ir44, go_sem, ↓reduceIte, Nat.reduceEqDiff, Nat.reduceSub, Nat.reduceLeDiff, Nat.reduceAdd, Int.reduceEq, Int.reduceLT, Int.reduceLE]
def stAll (t : Tb) (k : Nat) : FS := mk [(7, .pv (.i .i64 k)), (6, .vec 64 (tE t)), (3, .p 3 0), (2, .p 2 0)] [(3, some (.var (.vec 8 (vE (allTo t k))))), (2, some (.var (.vec 8 (vE fun _ => 0))))]
theorem okAll (t : Tb) {h d} : FunOk Try.prog 32 [.vec 64 (tE t)] h d (.vec 8 (vE (allTo t 8))) [] := by
  refine fun_pure mixed fn32 (by simp) rfl rfl fun F => ?_
  (try simp only [brK_e, gdK_e, skK_e, gdA_e, skA_e, pkK_e]); simp (maxSteps := 10000000) (disch := omega) only [ir32, go_sem, ↓reduceIte, Nat.reduceEqDiff, Nat.reduceSub, Nat.reduceLeDiff, Nat.reduceAdd, Int.reduceEq, Int.reduceLT, Int.reduceLE]
  refine loop_ok mixed (stAll t) (fun k => k ≤ 8) (fun k => 8 - k) 0 (by simp) (weak_mk ?_ ?_) fun k hk => ?_
  · (try simp only [brK_e, gdK_e, skK_e, gdA_e, skA_e, pkK_e]); simp (maxSteps := 10000000) (disch := omega) only [go_sem, ↓reduceIte, Nat.reduceEqDiff, Nat.reduceSub, Nat.reduceLeDiff, Nat.reduceAdd, Int.reduceEq, Int.reduceLT, Int.reduceLE]
  · (try simp only [brK_e, gdK_e, skK_e, gdA_e, skA_e, pkK_e]); simp (maxSteps := 10000000) (disch := omega) only [allTo, go_sem, ↓reduceIte, Nat.reduceEqDiff, Nat.reduceSub, Nat.reduceLeDiff, Nat.reduceAdd, Int.reduceEq, Int.reduceLT, Int.reduceLE]
  by_cases hlt : k < 8
  · (try simp only [brK_e, gdK_e, skK_e, gdA_e, skA_e, pkK_e]); simp (maxSteps := 10000000) (disch := omega) only [stAll, go_sem, ↓reduceIte, Nat.reduceEqDiff, Nat.reduceSub, Nat.reduceLeDiff, Nat.reduceAdd, Int.reduceEq, Int.reduceLT, Int.reduceLE]
    refine call_with (okJoin _ _) ?_
    (try simp only [brK_e, gdK_e, skK_e, gdA_e, skA_e, pkK_e]); simp (maxSteps := 10000000) (disch := omega) only [go_sem, ↓reduceIte, Nat.reduceEqDiff, Nat.reduceSub, Nat.reduceLeDiff, Nat.reduceAdd, Int.reduceEq, Int.reduceLT, Int.reduceLE]
    refine loop_next (k + 1) _ _ rfl (by omega) (by omega) ?_ ?_
    · (try simp only [brK_e, gdK_e, skK_e, gdA_e, skA_e, pkK_e]); simp (maxSteps := 10000000) (disch := omega) only [go_sem, ↓reduceIte, Nat.reduceEqDiff, Nat.reduceSub, Nat.reduceLeDiff, Nat.reduceAdd, Int.reduceEq, Int.reduceLT, Int.reduceLE]
    · (try simp only [brK_e, gdK_e, skK_e, gdA_e, skA_e, pkK_e]); simp (maxSteps := 10000000) (disch := omega) only [allTo, go_sem, ↓reduceIte, Nat.reduceEqDiff, Nat.reduceSub, Nat.reduceLeDiff, Nat.reduceAdd, Int.reduceEq, Int.reduceLT, Int.reduceLE]
  · obtain rfl : k = 8 := by omega
    (try simp only [brK_e, gdK_e, skK_e, gdA_e, skA_e, pkK_e]); simp (maxSteps := 10000000) (disch := omega) only [stAll, go_sem, ↓reduceIte, Nat.reduceEqDiff, Nat.reduceSub, Nat.reduceLeDiff, Nat.reduceAdd, Int.reduceEq, Int.reduceLT, Int.reduceLE]
def stSure (t : Tb) (w : Nat → Bool) (k : Nat) : FS := mk [(10, .pv (.i .i64 k)), (9, .vec 64 (tE t)), (6, .pv (.b (sureTo t w k).1)), (5, .p 5 0), (4, .p 4 0), (3, .p 3 0)] [(3, some (.var (.vec 8 (wE w)))), (5, some (.var (.vec 8 (vE (sureTo t w k).2)))), (4, some (.var (.vec 8 (vE fun _ => 0))))]
set_option maxHeartbeats 1000000 in
theorem okSure (t : Tb) (w : Nat → Bool) {h d} : FunOk Try.prog 30 [.vec 64 (tE t), .vec 8 (wE w)] h d (.vec 8 (vE (sureTo t w 8).2)) [] := by
  refine fun_pure mixed fn30 (by simp) rfl rfl fun F => ?_
  (try simp only [brK_e, gdK_e, skK_e, gdA_e, skA_e, pkK_e]); simp (maxSteps := 10000000) (disch := omega) only [ir30, go_sem, ↓reduceIte, Nat.reduceEqDiff, Nat.reduceSub, Nat.reduceLeDiff, Nat.reduceAdd, Int.reduceEq, Int.reduceLT, Int.reduceLE]
  refine loop_ok mixed (stSure t w) (fun k => k ≤ 8) (fun k => 8 - k) 0 (by simp) (weak_mk ?_ ?_) fun k hk => ?_
  · (try simp only [brK_e, gdK_e, skK_e, gdA_e, skA_e, pkK_e]); simp (maxSteps := 10000000) (disch := omega) only [sureTo, go_sem, ↓reduceIte, Nat.reduceEqDiff, Nat.reduceSub, Nat.reduceLeDiff, Nat.reduceAdd, Int.reduceEq, Int.reduceLT, Int.reduceLE]
  · (try simp only [brK_e, gdK_e, skK_e, gdA_e, skA_e, pkK_e]); simp (maxSteps := 10000000) (disch := omega) only [sureTo, go_sem, ↓reduceIte, Nat.reduceEqDiff, Nat.reduceSub, Nat.reduceLeDiff, Nat.reduceAdd, Int.reduceEq, Int.reduceLT, Int.reduceLE]
  by_cases hlt : k < 8
  · cases hw : w k with
    | false =>
      (try simp only [brK_e, gdK_e, skK_e, gdA_e, skA_e, pkK_e]); simp (maxSteps := 10000000) (disch := omega) only [stSure, hw, go_sem, ↓reduceIte, Nat.reduceEqDiff, Nat.reduceSub, Nat.reduceLeDiff, Nat.reduceAdd, Int.reduceEq, Int.reduceLT, Int.reduceLE]
      refine loop_next (k + 1) _ _ rfl (by omega) (by omega) ?_ ?_
      · (try simp only [brK_e, gdK_e, skK_e, gdA_e, skA_e, pkK_e]); simp (maxSteps := 10000000) (disch := omega) only [sureTo, hw, Bool.false_eq_true, go_sem, ↓reduceIte, Nat.reduceEqDiff, Nat.reduceSub, Nat.reduceLeDiff, Nat.reduceAdd, Int.reduceEq, Int.reduceLT, Int.reduceLE]
      · (try simp only [brK_e, gdK_e, skK_e, gdA_e, skA_e, pkK_e]); simp (maxSteps := 10000000) (disch := omega) only [sureTo, hw, Bool.false_eq_true, go_sem, ↓reduceIte, Nat.reduceEqDiff, Nat.reduceSub, Nat.reduceLeDiff, Nat.reduceAdd, Int.reduceEq, Int.reduceLT, Int.reduceLE]
    | true =>
      cases hs : (sureTo t w k).1 with
      | true =>
        (try simp only [brK_e, gdK_e, skK_e, gdA_e, skA_e, pkK_e]); simp (maxSteps := 10000000) (disch := omega) only [stSure, hw, hs, go_sem, ↓reduceIte, Nat.reduceEqDiff, Nat.reduceSub, Nat.reduceLeDiff, Nat.reduceAdd, Int.reduceEq, Int.reduceLT, Int.reduceLE]
        refine call_with (okMeet _ _) ?_
        (try simp only [brK_e, gdK_e, skK_e, gdA_e, skA_e, pkK_e]); simp (maxSteps := 10000000) (disch := omega) only [hs, go_sem, ↓reduceIte, Nat.reduceEqDiff, Nat.reduceSub, Nat.reduceLeDiff, Nat.reduceAdd, Int.reduceEq, Int.reduceLT, Int.reduceLE]
        refine loop_next (k + 1) _ _ rfl (by omega) (by omega) ?_ ?_
        · (try simp only [brK_e, gdK_e, skK_e, gdA_e, skA_e, pkK_e]); simp (maxSteps := 10000000) (disch := omega) only [sureTo, hw, hs, go_sem, ↓reduceIte, Nat.reduceEqDiff, Nat.reduceSub, Nat.reduceLeDiff, Nat.reduceAdd, Int.reduceEq, Int.reduceLT, Int.reduceLE]
        · (try simp only [brK_e, gdK_e, skK_e, gdA_e, skA_e, pkK_e]); simp (maxSteps := 10000000) (disch := omega) only [sureTo, hw, hs, go_sem, ↓reduceIte, Nat.reduceEqDiff, Nat.reduceSub, Nat.reduceLeDiff, Nat.reduceAdd, Int.reduceEq, Int.reduceLT, Int.reduceLE]
      | false =>
        (try simp only [brK_e, gdK_e, skK_e, gdA_e, skA_e, pkK_e]); simp (maxSteps := 10000000) (disch := omega) only [stSure, hw, hs, go_sem, ↓reduceIte, Nat.reduceEqDiff, Nat.reduceSub, Nat.reduceLeDiff, Nat.reduceAdd, Int.reduceEq, Int.reduceLT, Int.reduceLE]
        refine loop_next (k + 1) _ _ rfl (by omega) (by omega) ?_ ?_
        · (try simp only [brK_e, gdK_e, skK_e, gdA_e, skA_e, pkK_e]); simp (maxSteps := 10000000) (disch := omega) only [sureTo, hw, hs, Bool.false_eq_true, go_sem, ↓reduceIte, Nat.reduceEqDiff, Nat.reduceSub, Nat.reduceLeDiff, Nat.reduceAdd, Int.reduceEq, Int.reduceLT, Int.reduceLE]
        · (try simp only [brK_e, gdK_e, skK_e, gdA_e, skA_e, pkK_e]); simp (maxSteps := 10000000) (disch := omega) only [sureTo, hw, hs, Bool.false_eq_true, go_sem, ↓reduceIte, Nat.reduceEqDiff, Nat.reduceSub, Nat.reduceLeDiff, Nat.reduceAdd, Int.reduceEq, Int.reduceLT, Int.reduceLE]
  · obtain rfl : k = 8 := by omega
    (try simp only [brK_e, gdK_e, skK_e, gdA_e, skA_e, pkK_e]); simp (maxSteps := 10000000) (disch := omega) only [stSure, go_sem, ↓reduceIte, Nat.reduceEqDiff, Nat.reduceSub, Nat.reduceLeDiff, Nat.reduceAdd, Int.reduceEq, Int.reduceLT, Int.reduceLE]
end Go.Proofs.Ytjlblbbhmmconaa.Fw
namespace Go.Proofs.Ytjlblbbhmmconaa.Fw
open Go.RowKit
/-! How an argument of any plain type that lies in a world reads in the small language. -/
noncomputable abbrev allOf (w : World) : View := viewOf w fun _ => False
theorem cell_view {w : World} {a : Addr} {v : Value} (h : w.cell? a = some v) : a.spot = none ∧ ∃ arr, allOf w a.block = some arr ∧ arr[a.off]? = some v := by
  unfold World.cell? at h
  split at h
  · rename_i c ty fr hb
    split at h
    · cases h
    · rename_i hs
      refine ⟨by cases hx : a.spot <;> simp_all, c, ?_, h⟩
      unfold allOf viewOf cellsAt
      simp [hb]
  · cases h
inductive Sh where
  | int (k : IntKind) | bool | str | arr (n : Nat) (s : Sh) | st (l : List Sh) | sl (s : Sh)
mutual
def Sh.w : Sh → Nat
  | .arr n s => n * s.w
  | .st l => Sh.wL l
  | _ => 1
def Sh.wL : List Sh → Nat
  | [] => 0
  | s :: l => s.w + Sh.wL l
end
mutual
def shB (P : Program) : Sh → TypeId → Bool
  | .int k, t => match P.underlying t with | some (.int k') => decide (k = k') | _ => false
  | .bool, t => match P.underlying t with | some .bool => true | _ => false
  | .str, t => match P.underlying t with | some .string => true | _ => false
  | .arr n s, t => match P.underlying t with | some (.array n' e) => decide (n = n') && decide (P.cellsOf e = s.w) && decide (P.cellsOf t = n * s.w) && shB P s e | _ => false
  | .st l, t => match P.underlying t with | some (.struct fs) => decide (P.cellsOf t = Sh.wL l) && shBL P l fs.toList 0 | _ => false
  | .sl s, t => match P.underlying t with | some (.slice e) => decide (P.cellsOf e = s.w) && decide (0 < s.w) && shB P s e | _ => false
def shBL (P : Program) : List Sh → List Field → Nat → Bool
  | [], [], _ => true
  | s :: l, f :: fs, off => decide (f.offset = off) && decide (P.cellsOf f.type = s.w) && shB P s f.type && shBL P l fs (off + s.w)
  | _, _, _ => false
end
mutual
/-- cells of a shape -/
def GC : Sh → List PV → Prop
  | .int k, cs => ∃ n, cs = [.i k n] ∧ (Lit.int k n).wf = true
  | .bool, cs => ∃ b, cs = [.b b]
  | .str, cs => ∃ l, cs = [.s l] ∧ l.length ≤ maxLen
  | .arr n s, cs => ∃ cc : List (List PV), cs = cc.flatten ∧ cc.length = n ∧ ∀ c ∈ cc, GC s c
  | .st l, cs => GCL l cs
  | .sl s, cs => ∃ es, cs = [.sl false s.w es] ∧ es.length ≤ maxLen ∧ ∀ c ∈ es, GC s c
def GCL : List Sh → List PV → Prop
  | [], cs => cs = []
  | s :: l, cs => ∃ c cs', cs = c ++ cs' ∧ GC s c ∧ GCL l cs'
end
theorem flat_len {w : Nat} : ∀ {cc : List (List PV)}, (∀ c ∈ cc, c.length = w) → cc.flatten.length = cc.length * w
  | [], _ => by simp
  | c :: cc, h => by
    rw [List.flatten_cons, List.length_append, flat_len fun c hc => h c (by simp [hc]), h c (by simp), List.length_cons, Nat.add_mul]; omega
mutual
theorem GC.len : ∀ {s : Sh} {cs : List PV}, GC s cs → cs.length = s.w
  | .int k, cs, h => by obtain ⟨n, rfl, _⟩ := h; rfl
  | .bool, cs, h => by obtain ⟨n, rfl⟩ := h; rfl
  | .str, cs, h => by obtain ⟨n, rfl, _⟩ := h; rfl
  | .arr n s, cs, h => by
    simp only [GC] at h
    obtain ⟨cc, rfl, rfl, h⟩ := h
    rw [flat_len fun c hc => GC.len (h c hc)]; rfl
  | .st l, cs, h => by simp only [GC] at h; simp only [Sh.w]; exact GCL.len h
  | .sl s, cs, h => by obtain ⟨n, rfl, _⟩ := h; rfl
theorem GCL.len : ∀ {l : List Sh} {cs : List PV}, GCL l cs → cs.length = Sh.wL l
  | [], cs, h => by simp only [GCL] at h; subst h; rfl
  | s :: l, cs, h => by
    simp only [GCL] at h
    obtain ⟨c, cs', rfl, h1, h2⟩ := h
    rw [List.length_append, GC.len h1, GCL.len h2]; rfl
end
theorem arr_GC {V : View} {s : Sh} : ∀ (n : Nat) (vs : List Value), vs.length = n * s.w → (∀ i, i < n → ∃ c, GC s c ∧ PCells V c ((vs.drop (i * s.w)).take s.w)) → ∃ cc : List (List PV), cc.length = n ∧ (∀ c ∈ cc, GC s c) ∧ PCells V cc.flatten vs
  | 0, vs, hl, h => by
    have : vs = [] := List.eq_nil_of_length_eq_zero (by omega)
    subst this
    exact ⟨[], rfl, by simp, PCells.nil⟩
  | n + 1, vs, hl, h => by
    rw [Nat.add_mul] at hl
    obtain ⟨c, g, p⟩ := h 0 (by omega)
    rw [Nat.zero_mul, List.drop_zero] at p
    obtain ⟨cc, e1, e2, e3⟩ := arr_GC (V := V) (s := s) n (vs.drop s.w) (by rw [List.length_drop]; omega) fun i hi => by
      obtain ⟨c', g', p'⟩ := h (i + 1) (by omega)
      refine ⟨c', g', ?_⟩
      rw [List.drop_drop, show s.w + i * s.w = (i + 1) * s.w from by rw [Nat.add_mul]; omega]
      exact p'
    refine ⟨c :: cc, by simp [e1], fun x hx => ?_, ?_⟩
    · rcases List.mem_cons.1 hx with rfl | hx
      · exact g
      · exact e2 x hx
    · rw [List.flatten_cons]
      have := PCells.append p e3
      rwa [List.take_append_drop] at this
theorem add_add {a : Addr} (h : a.spot = none) (i j : Nat) : (a.add i).add j = ⟨a.block, a.off + (i + j), none⟩ := by
  obtain ⟨b, o, sp⟩ := a
  simp only at h; subst h
  unfold Addr.add
  by_cases hi : i = 0
  · subst hi
    by_cases hj : j = 0
    · subst hj; simp
    · simp [hj]
  · by_cases hj : j = 0
    · subst hj; simp [hi]
    · simp [hi, hj]; omega
theorem slice_GC {w : World} {s : Sh} {a : Addr} {len cap : Nat} (hcap : len ≤ cap) (hw : 0 < s.w)
    (h : ∀ i, i < len → ∃ c vs, GC s c ∧ PCells (allOf w) c vs ∧ w.cells? 0 (a.add (i * s.w)) s.w = some vs) :
    ∃ es : List (List PV), es.length = len ∧ (∀ c ∈ es, GC s c) ∧ PConc (allOf w) (.sl false s.w es) (.slice (some a) len cap) := by
  by_cases h0 : len = 0
  · subst h0
    exact ⟨[], rfl, by simp, .sl false s.w [] (some a) cap (fun _ _ => undef) 0 0 #[] (by simp) (by simp) (by simp) (by simp) (by simp) (by simp)⟩
  · have h' : ∀ i, ∃ c vs, i < len → GC s c ∧ PCells (allOf w) c vs ∧ w.cells? 0 (a.add (i * s.w)) s.w = some vs := fun i => by
      by_cases hi : i < len
      · obtain ⟨c, vs, h1⟩ := h i hi; exact ⟨c, vs, fun _ => h1⟩
      · exact ⟨[], [], fun h => absurd h hi⟩
    obtain ⟨c, hc⟩ := Classical.axiomOfChoice h'
    obtain ⟨vs, hv⟩ := Classical.axiomOfChoice hc
    obtain ⟨g0, p0, k0⟩ := hv 0 (by omega)
    obtain ⟨_, l0, c0⟩ := World.cells?_some k0
    have c00 := c0 0 hw
    have hlen0 : 0 < (vs 0).length := by omega
    rw [List.getElem?_eq_getElem hlen0, Nat.zero_mul] at c00
    have e0 : (a.add 0).add 0 = a := by simp [Addr.add]
    rw [e0] at c00
    obtain ⟨hs, arr, harr, _⟩ := cell_view c00
    have hget : ∀ i j, i < len → j < s.w → arr[a.off + (i * s.w + j)]? = (vs i)[j]? := fun i j hi hj => by
      obtain ⟨_, _, k⟩ := hv i hi
      obtain ⟨_, ll, cc⟩ := World.cells?_some k
      have h1 := cc j hj
      have hlt : j < (vs i).length := by omega
      rw [List.getElem?_eq_getElem hlt, add_add hs] at h1
      obtain ⟨_, arr', ha', h2⟩ := cell_view h1
      simp only at ha' h2
      rw [harr] at ha'; cases ha'
      rw [h2, List.getElem?_eq_getElem hlt]
    have hel : ∀ i, i < len → ((List.range len).map c)[i]? = some (c i) := fun i hi => by simp [hi]
    refine ⟨(List.range len).map c, by simp, fun x hx => ?_, ?_⟩
    · obtain ⟨i, hi, rfl⟩ := List.mem_map.1 hx
      exact (hv i (by simpa using hi)).1
    · have e := PConc.sl (V := allOf w) false s.w ((List.range len).map c) (some a) cap (fun i j => (vs i).getD j undef) a.block a.off arr (by simpa using hcap) (by simp) (fun x hx => by
          obtain ⟨i, hi, rfl⟩ := List.mem_map.1 hx
          exact (hv i (by simpa using hi)).1.len) (fun _ => by
          obtain ⟨b, o, sp⟩ := a
          simp only at hs; subst hs
          exact ⟨rfl, harr⟩) (fun i j hi hj => by
          have hi' : i < len := by simpa using hi
          rw [hget i j hi' hj]
          have : j < (vs i).length := by
            obtain ⟨_, ll, _⟩ := World.cells?_some (hv i hi').2.2; omega
          simp [List.getD_eq_getElem?_getD, this]) (fun i j x y hx hy => by
          have hi' : i < len := by
            have := (List.getElem?_eq_some_iff.1 hx).1; simpa using this
          rw [hel i hi'] at hx; cases hx
          obtain ⟨v, hv1, hv2⟩ := (hv i hi').2.1.2 j y hy
          simp only [List.getD_eq_getElem?_getD, hv1, Option.getD_some]; exact hv2)
      simpa using e
section
variable {H : Type} {enc : TypeId × Value → H} {P : Program} {w : World} {spare : Nat → Bool} {held : Bool}
mutual
theorem trod_GC : ∀ (s : Sh) {t : TypeId} {fuel : Nat} {vs : List Value} {x}, shB P s t = true → DataW.trod enc P w 0 spare held fuel t vs = some x → ∃ cs, GC s cs ∧ PCells (allOf w) cs vs
  | .int k, t, fuel, vs, x, hs, h => by
    simp only [shB] at hs
    split at hs
    · rename_i k' hu
      obtain rfl := of_decide_eq_true hs
      obtain ⟨n, rfl, _, hw⟩ := DataW.trod_int hu h
      exact ⟨[.i k n], ⟨n, rfl, hw⟩, PCells.cons (.i _ _) PCells.nil⟩
    · cases hs
  | .bool, t, fuel, vs, x, hs, h => by
    simp only [shB] at hs
    split at hs
    · rename_i hu
      obtain ⟨n, rfl, _⟩ := DataW.trod_bool hu h
      exact ⟨[.b n], ⟨n, rfl⟩, PCells.cons (.b _) PCells.nil⟩
    · cases hs
  | .str, t, fuel, vs, x, hs, h => by
    simp only [shB] at hs
    split at hs
    · rename_i hu
      obtain ⟨b, rfl, _, hl⟩ := DataW.trod_string hu h
      refine ⟨[.s b.data.toList], ⟨b.data.toList, rfl, by simpa using hl⟩, PCells.cons ?_ PCells.nil⟩
      have := PConc.s (V := allOf w) b.data.toList
      simpa using this
    · cases hs
  | .arr n s, t, fuel, vs, x, hs, h => by
    simp only [shB] at hs
    split at hs
    · rename_i n' e hu
      simp only [Bool.and_eq_true, decide_eq_true_eq] at hs
      obtain ⟨⟨⟨rfl, h1⟩, h2⟩, h3⟩ := hs
      obtain ⟨xs, m, rfl, _, hl, hx, hg⟩ := DataW.trod_array hu h
      rw [h1] at hg
      obtain ⟨cc, e1, e2, e3⟩ := arr_GC (V := allOf w) (s := s) n vs (by rw [hl, h2]) fun i hi => by
        have := hg i hi
        rw [List.getElem?_eq_getElem (by omega)] at this
        exact trod_GC s h3 this
      exact ⟨cc.flatten, by simp only [GC]; exact ⟨cc, rfl, e1, e2⟩, e3⟩
    · cases hs
  | .st l, t, fuel, vs, x, hs, h => by
    simp only [shB] at hs
    split at hs
    · rename_i fs hu
      simp only [Bool.and_eq_true, decide_eq_true_eq] at hs
      obtain ⟨h2, h3⟩ := hs
      obtain ⟨xs, m, rfl, _, hl, hx, hg⟩ := DataW.trod_struct hu h
      obtain ⟨cs, e1, e2⟩ := trod_GCL l (off := 0) (vs := vs) h3 fun f hf => by
        obtain ⟨i, hi⟩ := List.mem_iff_getElem?.1 hf
        have hi2 : fs[i]? = some f := by simpa using hi
        have := hg i f hi2
        have hlt := (Array.getElem?_eq_some_iff.1 hi2).1
        rw [List.getElem?_eq_getElem (by omega)] at this
        exact ⟨_, _, this⟩
      rw [List.drop_zero, ← h2, ← hl, List.take_length] at e2
      exact ⟨cs, by simp only [GC]; exact e1, e2⟩
    · cases hs
  | .sl s, t, fuel, vs, x, hs, h => by
    simp only [shB] at hs
    split at hs
    · rename_i e hu
      simp only [Bool.and_eq_true, decide_eq_true_eq] at hs
      obtain ⟨⟨h1, h2⟩, h3⟩ := hs
      rcases DataW.trod_slice hu h with ⟨rfl, _⟩ | ⟨a, len, cap, elems, rest, n, rfl, rfl, _, _, hl, hm, hle, hg, _⟩
      · exact ⟨[.sl false s.w []], by simp only [GC]; exact ⟨[], rfl, by simp, by simp⟩, PCells.cons (.sl false s.w [] none 0 (fun _ _ => undef) 0 0 #[] (by simp) (by simp) (by simp) (by simp) (by simp) (by simp)) PCells.nil⟩
      · rw [h1] at hg
        obtain ⟨es, e1, e2, e3⟩ := slice_GC (w := w) (s := s) (a := a) hl h2 fun i hi => by
          have h4 := hg i hi
          rw [List.getElem?_eq_getElem (by omega)] at h4
          obtain ⟨vs, h5, h6⟩ := Option.bind_eq_some_iff.1 h4
          obtain ⟨c, g, p⟩ := trod_GC s h3 h6
          exact ⟨c, vs, g, p, h5⟩
        exact ⟨[.sl false s.w es], by simp only [GC]; exact ⟨es, rfl, by omega, e2⟩, PCells.cons e3 PCells.nil⟩
    · cases hs
theorem trod_GCL : ∀ (l : List Sh) {fs : List Field} {off : Nat} {vs : List Value}, shBL P l fs off = true →
    (∀ f ∈ fs, ∃ n x, DataW.trod enc P w 0 spare held n f.type ((vs.drop f.offset).take (P.cellsOf f.type)) = some x) → ∃ cs, GCL l cs ∧ PCells (allOf w) cs ((vs.drop off).take (Sh.wL l))
  | [], fs, off, vs, hs, h => ⟨[], by simp only [GCL], by simp only [Sh.wL, List.take_zero]; exact PCells.nil⟩
  | s :: l, [], off, vs, hs, h => by simp [shBL] at hs
  | s :: l, f :: fs, off, vs, hs, h => by
    simp only [shBL, Bool.and_eq_true, decide_eq_true_eq] at hs
    obtain ⟨⟨⟨h1, h2⟩, h3⟩, h4⟩ := hs
    obtain ⟨n, x, hx⟩ := h f (by simp)
    obtain ⟨c, g, p⟩ := trod_GC s h3 hx
    obtain ⟨cs, gl, pl⟩ := trod_GCL l (vs := vs) h4 fun f hf => h f (by simp [hf])
    refine ⟨c ++ cs, by simp only [GCL]; exact ⟨c, cs, rfl, g, gl⟩, ?_⟩
    rw [h1, h2] at p
    have := PCells.append p pl
    have e : (vs.drop off).take (Sh.wL (s :: l)) = (vs.drop off).take s.w ++ (vs.drop (off + s.w)).take (Sh.wL l) := by
      simp only [Sh.wL]
      rw [List.take_add, List.drop_drop]
    rw [e]; exact this
end
end
mutual
/-- the value of cells of a shape -/
def toSV : Sh → List PV → SV
  | .arr n s, cs => .vec (n * s.w) cs
  | .st l, cs => .agg (toSegs l cs)
  | _, cs => .pv (cs.headD (.b false))
def toSegs : List Sh → List PV → List SV
  | [], _ => []
  | s :: l, cs => (toSV s (cs.take s.w)).segs ++ toSegs l (cs.drop s.w)
end
def Sh.isAg : Sh → Bool
  | .arr _ _ => true
  | .st _ => true
  | _ => false
theorem cells_append {V : View} {ρ : Nat → Value} : ∀ {l m : List SV} {a b : List Value}, Cells V ρ l a → Cells V ρ m b → Cells V ρ (l ++ m) (a ++ b)
  | [], m, a, b, h1, h2 => by simp only [Cells] at h1; subst h1; exact h2
  | x :: l, m, a, b, h1, h2 => by
    simp only [Cells, List.cons_append] at h1 ⊢
    obtain ⟨u, us, rfl, c, d, e, f⟩ := h1
    exact ⟨u, us ++ b, by simp, c, d, e, cells_append f h2⟩
mutual
theorem conc_toSV {V : View} {ρ : Nat → Value} : ∀ (s : Sh) {cs : List PV} {v : Value}, GC s cs → PCells V cs (flatV v) → (s.isAg = true → ∃ vs, v = .agg ⟨vs⟩) → (s.isAg = false → ∀ vs, v ≠ .agg vs) → Conc V ρ (toSV s cs) v
  | .int k, cs, v, g, p, _, h => by
    obtain ⟨n, rfl, _⟩ := g
    have e : flatV v = [v] := by cases v <;> first | rfl | exact absurd rfl (h rfl _)
    rw [e] at p
    obtain ⟨v', h1, h2⟩ := p.2 0 _ rfl
    simp at h1; subst h1
    simp only [toSV, Conc, List.headD_cons]; exact h2
  | .bool, cs, v, g, p, _, h => by
    obtain ⟨n, rfl⟩ := g
    have e : flatV v = [v] := by cases v <;> first | rfl | exact absurd rfl (h rfl _)
    rw [e] at p
    obtain ⟨v', h1, h2⟩ := p.2 0 _ rfl
    simp at h1; subst h1
    simp only [toSV, Conc, List.headD_cons]; exact h2
  | .str, cs, v, g, p, _, h => by
    obtain ⟨n, rfl, _⟩ := g
    have e : flatV v = [v] := by cases v <;> first | rfl | exact absurd rfl (h rfl _)
    rw [e] at p
    obtain ⟨v', h1, h2⟩ := p.2 0 _ rfl
    simp at h1; subst h1
    simp only [toSV, Conc, List.headD_cons]; exact h2
  | .sl s, cs, v, g, p, _, h => by
    simp only [GC] at g
    obtain ⟨n, rfl, _⟩ := g
    have e : flatV v = [v] := by cases v <;> first | rfl | exact absurd rfl (h rfl _)
    rw [e] at p
    obtain ⟨v', h1, h2⟩ := p.2 0 _ rfl
    simp at h1; subst h1
    simp only [toSV, Conc, List.headD_cons]; exact h2
  | .arr n s, cs, v, g, p, h, _ => by
    obtain ⟨vs, rfl⟩ := h rfl
    have hl := g.len
    simp only [toSV, Conc]
    refine ⟨vs, rfl, ?_, p⟩
    have e1 : vs.length = cs.length := p.1.symm
    rw [e1, hl]; rfl
  | .st l, cs, v, g, p, h, _ => by
    obtain ⟨vs, rfl⟩ := h rfl
    simp only [GC] at g
    simp only [toSV, Conc]
    exact ⟨vs, rfl, conc_toSegs l g p⟩
theorem conc_toSegs {V : View} {ρ : Nat → Value} : ∀ (l : List Sh) {cs : List PV} {vs : List Value}, GCL l cs → PCells V cs vs → Cells V ρ (toSegs l cs) vs
  | [], cs, vs, g, p => by
    simp only [GCL] at g; subst g
    have : vs = [] := List.eq_nil_of_length_eq_zero (by rw [← p.1]; rfl)
    subst this
    simp only [toSegs, Cells]
  | s :: l, cs, vs, g, p => by
    simp only [GCL] at g
    obtain ⟨c, cs', rfl, g1, g2⟩ := g
    have hl := g1.len
    have p1 : PCells V c (vs.take c.length) := by
      have := p.split c.length |>.1
      simpa using this
    have p2 : PCells V cs' (vs.drop c.length) := by
      have := p.split c.length |>.2
      simpa using this
    have hvs : vs = vs.take c.length ++ vs.drop c.length := (List.take_append_drop _ _).symm
    have hlen : (vs.take c.length).length = s.w := by rw [← p1.1, hl]
    simp only [toSegs]
    rw [List.take_left' hl, List.drop_left' hl]
    rw [hvs]
    refine cells_append ?_ (conc_toSegs l g2 p2)
    cases s with
    | st m =>
      simp only [GC] at g1
      simp only [toSV, SV.segs]
      exact conc_toSegs m g1 p1
    | arr n s' =>
      have := conc_toSV (V := V) (ρ := ρ) (.arr n s') (v := .agg ⟨vs.take c.length⟩) g1 (by simpa [flatV] using p1) (fun _ => ⟨_, rfl⟩) (by simp [Sh.isAg])
      simp only [toSV] at this ⊢
      simp only [SV.segs, Cells]
      exact ⟨_, [], by simp [flatV], this, by simpa [flatV, SV.width, Sh.w] using hlen, fun v hv => p1.one v (by simpa [flatV] using hv), rfl⟩
    | int k =>
      obtain ⟨n, rfl, _⟩ := g1
      obtain ⟨v, h1, h2⟩ := p1.2 0 _ rfl
      have e : vs.take [PV.i k n].length = [v] := by
        match hx : vs.take [PV.i k n].length, h1, hlen with
        | [u], h1, _ => simp at h1; rw [h1]
      have ho := h2.one
      have fv : flatV v = [v] := by cases v <;> first | rfl | exact absurd ho (by simp [oneCell])
      rw [e]
      simp only [toSV, SV.segs, Cells, Conc, List.headD_cons]
      exact ⟨v, [], by rw [fv]; rfl, h2, by rw [fv]; rfl, by rw [fv]; simpa using ho, rfl⟩
    | bool =>
      obtain ⟨n, rfl⟩ := g1
      obtain ⟨v, h1, h2⟩ := p1.2 0 _ rfl
      have e : vs.take [PV.b n].length = [v] := by
        match hx : vs.take [PV.b n].length, h1, hlen with
        | [u], h1, _ => simp at h1; rw [h1]
      have ho := h2.one
      have fv : flatV v = [v] := by cases v <;> first | rfl | exact absurd ho (by simp [oneCell])
      rw [e]
      simp only [toSV, SV.segs, Cells, Conc, List.headD_cons]
      exact ⟨v, [], by rw [fv]; rfl, h2, by rw [fv]; rfl, by rw [fv]; simpa using ho, rfl⟩
    | str =>
      obtain ⟨n, rfl, _⟩ := g1
      obtain ⟨v, h1, h2⟩ := p1.2 0 _ rfl
      have e : vs.take [PV.s n].length = [v] := by
        match hx : vs.take [PV.s n].length, h1, hlen with
        | [u], h1, _ => simp at h1; rw [h1]
      have ho := h2.one
      have fv : flatV v = [v] := by cases v <;> first | rfl | exact absurd ho (by simp [oneCell])
      rw [e]
      simp only [toSV, SV.segs, Cells, Conc, List.headD_cons]
      exact ⟨v, [], by rw [fv]; rfl, h2, by rw [fv]; rfl, by rw [fv]; simpa using ho, rfl⟩
    | sl s' =>
      simp only [GC] at g1
      obtain ⟨n, rfl, _⟩ := g1
      obtain ⟨v, h1, h2⟩ := p1.2 0 _ rfl
      have e : vs.take [PV.sl false s'.w n].length = [v] := by
        match hx : vs.take [PV.sl false s'.w n].length, h1, hlen with
        | [u], h1, _ => simp at h1; rw [h1]
      have ho := h2.one
      have fv : flatV v = [v] := by cases v <;> first | rfl | exact absurd ho (by simp [oneCell])
      rw [e]
      simp only [toSV, SV.segs, Cells, Conc, List.headD_cons]
      exact ⟨v, [], by rw [fv]; rfl, h2, by rw [fv]; rfl, by rw [fv]; simpa using ho, rfl⟩
end
mutual
theorem toSV_closed : ∀ (s : Sh) (cs : List PV), (toSV s cs).closed = true
  | .int k, cs => rfl
  | .bool, cs => rfl
  | .str, cs => rfl
  | .sl s, cs => rfl
  | .arr n s, cs => rfl
  | .st l, cs => by simp only [toSV, SV.closed]; exact toSegs_closed l cs
theorem toSegs_closed : ∀ (l : List Sh) (cs : List PV), SV.closedL (toSegs l cs) = true
  | [], cs => rfl
  | s :: l, cs => by
    simp only [toSegs]
    have h2 := toSegs_closed l (cs.drop s.w)
    have app : ∀ (a b : List SV), SV.closedL a = true → SV.closedL b = true → SV.closedL (a ++ b) = true := fun a b ha hb => by
      induction a with
      | nil => exact hb
      | cons x a ih => simp only [SV.closedL, Bool.and_eq_true, List.cons_append] at ha ⊢; exact ⟨ha.1, ih ha.2⟩
    refine app _ _ ?_ h2
    cases s with
    | st m => simp only [toSV, SV.segs]; exact toSegs_closed m _
    | int k => rfl
    | bool => rfl
    | str => rfl
    | sl s => rfl
    | arr n s => rfl
end
theorem okWide_ag {P : Program} {w : World} {base : Nat} {t : TypeId} {v : Value} : ∀ {s : Sh}, shB P s t = true → Value.okWide P w .any base t v → (s.isAg = true → ∃ vs, v = .agg ⟨vs⟩) ∧ (s.isAg = false → ∀ vs, v ≠ .agg vs)
  | .int k, hs, h => by
    simp only [shB] at hs
    split at hs
    · rename_i k' hu
      obtain ⟨n, rfl⟩ := WideShapes.okWide_int hu h
      exact ⟨fun h => (by cases h), fun _ vs e => by cases e⟩
    · cases hs
  | .bool, hs, h => by
    simp only [shB] at hs
    split at hs
    · rename_i hu
      obtain ⟨n, rfl⟩ := WideShapes.okWide_bool hu h
      exact ⟨fun h => (by cases h), fun _ vs e => by cases e⟩
    · cases hs
  | .str, hs, h => by
    simp only [shB] at hs
    split at hs
    · rename_i hu
      obtain ⟨n, rfl⟩ := WideShapes.okWide_string hu h
      exact ⟨fun h => (by cases h), fun _ vs e => by cases e⟩
    · cases hs
  | .sl s, hs, h => by
    simp only [shB] at hs
    split at hs
    · rename_i e hu
      obtain ⟨a, b, c, rfl⟩ := WideShapes.okWide_slice hu h
      exact ⟨fun h => (by cases h), fun _ vs e => by cases e⟩
    · cases hs
  | .arr n s, hs, h => by
    simp only [shB] at hs
    split at hs
    · rename_i n' e hu
      simp only [Value.okWide, hu] at h
      obtain ⟨⟨xs⟩, rfl, _⟩ := h
      exact ⟨fun _ => ⟨_, rfl⟩, fun h => (by cases h)⟩
    · cases hs
  | .st l, hs, h => by
    simp only [shB] at hs
    split at hs
    · rename_i fs hu
      simp only [Value.okWide, hu] at h
      obtain ⟨⟨xs⟩, rfl, _⟩ := h
      exact ⟨fun _ => ⟨_, rfl⟩, fun h => (by cases h)⟩
    · cases hs
/-- an argument, as it reads -/
theorem arg_conc {H : Type} {enc : TypeId × Value → H} {P : Program} {w : World} {spare : Nat → Bool} {held : Bool} {base : Nat} {t : TypeId} {v : Value} {d : DataW H} {ps : List MemPlace} {s : Sh} (hs : shB P s t = true)
    (hv : Value.okWide P w .any base t v) (h : DataW.Trod enc P w 0 spare held t v d ps) : ∃ cs, GC s cs ∧ Conc (allOf w) (fun _ => undef) (toSV s cs) v := by
  obtain ⟨fuel, hf⟩ := h
  obtain ⟨cs, g, p⟩ := trod_GC s hs hf
  rw [flatV_cells] at p
  obtain ⟨h1, h2⟩ := okWide_ag hs hv
  exact ⟨cs, g, conc_toSV s g p h1 h2⟩
end Go.Proofs.Ytjlblbbhmmconaa.Fw
namespace Go.Proofs.Ytjlblbbhmmconaa.Fw
open Go.RowKit
/-! Arguments of the shapes that the laws have. -/
theorem flat_get {m : Nat} : ∀ {cc : List (List PV)} {i j : Nat}, (∀ c ∈ cc, c.length = m) → j < m → cc.flatten[i * m + j]? = (cc[i]?).bind (·[j]?)
  | [], i, j, _, _ => by simp
  | c :: cc, 0, j, h, hj => by
    have hc := h c (by simp)
    rw [List.flatten_cons, Nat.zero_mul, Nat.zero_add, List.getElem?_append_left (by omega)]; rfl
  | c :: cc, i + 1, j, h, hj => by
    have hc := h c (by simp)
    rw [List.flatten_cons, List.getElem?_append_right (by rw [Nat.add_mul]; omega)]
    rw [show (i + 1) * m + j - c.length = i * m + j from by rw [Nat.add_mul]; omega]
    rw [flat_get (fun c hc => h c (by simp [hc])) hj]; rfl
theorem arr_el {n : Nat} {s : Sh} {cs : List PV} (h : GC (.arr n s) cs) : cs.length = n * s.w ∧ ∀ i, i < n → ∃ c, GC s c ∧ ∀ j, j < s.w → cs[i * s.w + j]? = c[j]? := by
  refine ⟨h.len, fun i hi => ?_⟩
  simp only [GC] at h
  obtain ⟨cc, rfl, rfl, g⟩ := h
  refine ⟨cc[i], g _ (List.getElem_mem _), fun j hj => ?_⟩
  rw [flat_get (fun c hc => (g c hc).len) hj, List.getElem?_eq_getElem hi]; rfl
theorem u32_wf {n : Int} (h : (Lit.int .u32 n).wf = true) : 0 ≤ n ∧ n < 4294967296 := by
  simp [Lit.wf, IntKind.min, IntKind.max, IntKind.signed, IntKind.bits] at h; omega
theorem u64_wf {n : Int} (h : (Lit.int .u64 n).wf = true) : 0 ≤ n ∧ n < 18446744073709551616 := by
  simp [Lit.wf, IntKind.min, IntKind.max, IntKind.signed, IntKind.bits] at h; omega
theorem u8_wf {n : Int} (h : (Lit.int .u8 n).wf = true) : 0 ≤ n ∧ n < 256 := by
  simp [Lit.wf, IntKind.min, IntKind.max, IntKind.signed, IntKind.bits] at h; omega
theorem i64_wf {n : Int} (h : (Lit.int .i64 n).wf = true) : -9223372036854775808 ≤ n ∧ n < 9223372036854775808 := by
  simp [Lit.wf, IntKind.min, IntKind.max, IntKind.signed, IntKind.bits] at h; omega
theorem arrF_of {n : Nat} {cs : List PV} {f : Nat → PV} (hl : cs.length = n) (h : ∀ i, i < n → cs[i]? = some (f i)) : cs = arrF n f := by
  apply List.ext_getElem?
  intro i
  by_cases hi : i < n
  · rw [h i hi, arrF_get hi]
  · rw [List.getElem?_eq_none (by omega), List.getElem?_eq_none (by rw [arrF_length]; omega)]
theorem GC_vE {cs : List PV} (h : GC (.arr 8 (.int .u32)) cs) : ∃ a : Vc, cs = vE a ∧ ∀ i, i < 8 → a i < 4294967296 := by
  obtain ⟨hl, g⟩ := arr_el h
  have key : ∀ i, ∃ n : Nat, i < 8 → cs[i]? = some (.i .u32 n) ∧ n < 4294967296 := fun i => by
    by_cases hi : i < 8
    · obtain ⟨c, ⟨n, rfl, hw⟩, k⟩ := g i hi
      have := k 0 (by simp [Sh.w])
      simp only [Sh.w, Nat.mul_one, Nat.add_zero] at this
      have hr := u32_wf hw
      refine ⟨n.toNat, fun _ => ⟨?_, by omega⟩⟩
      rw [this, show ((n.toNat : Nat) : Int) = n from by omega]; rfl
    · exact ⟨0, fun h => absurd h hi⟩
  obtain ⟨a, ha⟩ := Classical.axiomOfChoice key
  exact ⟨a, arrF_of hl fun i hi => (ha i hi).1, fun i hi => (ha i hi).2⟩
theorem GC_wE {cs : List PV} (h : GC (.arr 8 .bool) cs) : ∃ a : Nat → Bool, cs = wE a := by
  obtain ⟨hl, g⟩ := arr_el h
  have key : ∀ i, ∃ n : Bool, i < 8 → cs[i]? = some (.b n) := fun i => by
    by_cases hi : i < 8
    · obtain ⟨c, ⟨n, rfl⟩, k⟩ := g i hi
      have := k 0 (by simp [Sh.w])
      simp only [Sh.w, Nat.mul_one, Nat.add_zero] at this
      exact ⟨n, fun _ => this⟩
    · exact ⟨false, fun h => absurd h hi⟩
  obtain ⟨a, ha⟩ := Classical.axiomOfChoice key
  exact ⟨a, arrF_of hl fun i hi => ha i hi⟩
theorem GC_tE {cs : List PV} (h : GC (.arr 8 (.arr 8 (.int .u32))) cs) : ∃ t : Nat → Vc, cs = tE t ∧ ∀ i, i < 8 → ∀ j, j < 8 → t i j < 4294967296 := by
  obtain ⟨hl, g⟩ := arr_el h
  have key : ∀ i, ∃ a : Vc, i < 8 → (∀ j, j < 8 → cs[i * 8 + j]? = some (.i .u32 (a j))) ∧ ∀ j, j < 8 → a j < 4294967296 := fun i => by
    by_cases hi : i < 8
    · obtain ⟨c, hc, k⟩ := g i hi
      obtain ⟨a, rfl, hb⟩ := GC_vE hc
      refine ⟨a, fun _ => ⟨fun j hj => ?_, hb⟩⟩
      have := k j hj
      simp only [Sh.w] at this
      rw [this]; exact arrF_get hj _
    · exact ⟨fun _ => 0, fun h => absurd h hi⟩
  obtain ⟨t, ht⟩ := Classical.axiomOfChoice key
  refine ⟨t, arrF_of hl fun i hi => ?_, fun i hi => (ht i hi).2⟩
  have := (ht (i / 8) (by omega)).1 (i % 8) (by omega)
  rw [show i / 8 * 8 + i % 8 = i from by omega] at this
  exact this
theorem GC_i64 {cs : List PV} (h : GC (.int .i64) cs) : ∃ n : Int, cs = [.i .i64 n] ∧ -9223372036854775808 ≤ n ∧ n < 9223372036854775808 := by
  obtain ⟨n, rfl, hw⟩ := h; exact ⟨n, rfl, i64_wf hw⟩
theorem GC_u64 {cs : List PV} (h : GC (.int .u64) cs) : ∃ n : Nat, cs = [.i .u64 n] ∧ n < 18446744073709551616 := by
  obtain ⟨n, rfl, hw⟩ := h
  have := u64_wf hw
  exact ⟨n.toNat, by rw [show ((n.toNat : Nat) : Int) = n from by omega], by omega⟩
theorem GC_bool {cs : List PV} (h : GC .bool cs) : ∃ n : Bool, cs = [.b n] := h
theorem GC_bytes {cs : List PV} (h : GC (.sl (.int .u8)) cs) : ∃ l : List UInt8, cs = [.sl false 1 (bytesE l)] ∧ l.length ≤ maxLen := by
  simp only [GC] at h
  obtain ⟨es, rfl, hl, g⟩ := h
  have key : ∀ es : List (List PV), (∀ c ∈ es, ∃ n, c = [PV.i .u8 n] ∧ (Lit.int .u8 n).wf = true) → ∃ l : List UInt8, es = bytesE l := fun es => by
    induction es with
    | nil => intro _; exact ⟨[], rfl⟩
    | cons c es ih =>
      intro h
      obtain ⟨n, rfl, hw⟩ := h c (by simp)
      obtain ⟨l, rfl⟩ := ih fun c hc => h c (by simp [hc])
      have hr := u8_wf hw
      refine ⟨UInt8.ofNat n.toNat :: l, ?_⟩
      simp only [bytesE, List.map_cons]
      rw [UInt8.toNat_ofNat', show n.toNat % 2 ^ 8 = n.toNat from Nat.mod_eq_of_lt (by omega), show ((n.toNat : Nat) : Int) = n from by omega]
  obtain ⟨l, rfl⟩ := key es g
  exact ⟨l, rfl, by simpa [bytesE] using hl⟩
theorem wrap_u64_mod (n : Int) : IntKind.u64.wrap n = n % 18446744073709551616 := by simp [IntKind.wrap, IntKind.signed, IntKind.bits]
theorem u64_idx (a : Int) {n : Nat} (h0 : 0 < n) (h : n < 4611686018427387904) : ∃ j : Nat, j < n ∧ IntKind.i64.wrap ((IntKind.u64.wrap a).tmod (IntKind.u64.wrap (n : Int))) = j := by
  rw [wrap_u64 (n := (n : Int)) (by omega), wrap_u64_mod]
  have h1 : 0 ≤ a % 18446744073709551616 := by omega
  rw [Int.tmod_eq_emod_of_nonneg h1]
  generalize a % 18446744073709551616 = m at *
  have h2 := Int.emod_nonneg m (b := (n : Int)) (by omega)
  have h3 := Int.emod_lt_of_pos m (b := (n : Int)) (by omega)
  refine ⟨(m % n).toNat, by omega, ?_⟩
  rw [wrap_i64 (by omega)]; omega
theorem GC_sl {s : Sh} {cs : List PV} (h : GC (.sl s) cs) : ∃ es, cs = [.sl false s.w es] ∧ es.length ≤ maxLen ∧ ∀ c ∈ es, GC s c := by
  simp only [GC] at h; exact h
end Go.Proofs.Ytjlblbbhmmconaa.Fw
namespace Go.Proofs.Ytjlblbbhmmconaa.Fw
open Go.RowKit Go.Proofs
def lit (l : List Nat) : Vc := fun i => l.getD i 0
def litB (l : List Bool) : Nat → Bool := fun i => l.getD i false
theorem lit_2 : ([.i .u32 2, .i .u32 0, .i .u32 0, .i .u32 0, .i .u32 0, .i .u32 0, .i .u32 0, .i .u32 0] : List PV) = vE (lit [2]) := rfl
theorem lit_1 : ([.i .u32 1, .i .u32 0, .i .u32 0, .i .u32 0, .i .u32 0, .i .u32 0, .i .u32 0, .i .u32 0] : List PV) = vE (lit [1]) := rfl
theorem lit_13 : ([.i .u32 1, .i .u32 3, .i .u32 0, .i .u32 0, .i .u32 0, .i .u32 0, .i .u32 0, .i .u32 0] : List PV) = vE (lit [1, 3]) := rfl
theorem lit_23 : ([.i .u32 2, .i .u32 3, .i .u32 0, .i .u32 0, .i .u32 0, .i .u32 0, .i .u32 0, .i .u32 0] : List PV) = vE (lit [2, 3]) := rfl
theorem lit_tt : ([.b true, .b true, .b false, .b false, .b false, .b false, .b false, .b false] : List PV) = wE (litB [true, true]) := rfl
theorem vE8 (v : Vc) : vE v ++ (vE v ++ (vE v ++ (vE v ++ (vE v ++ (vE v ++ (vE v ++ vE v)))))) = tE fun _ => v := vE_append fun _ => v
set_option maxHeartbeats 1000000 in
theorem livesT {h d} : FunOk Try.prog 20 [] h d (.pv (.b true)) [] := by
  refine fun_pure mixed fn20 (by simp) rfl rfl fun F => ?_
  (try simp only [brK_e, gdK_e, skK_e, gdA_e, skA_e, pkK_e]); simp (maxSteps := 10000000) (disch := omega) only [ir20, lit_2, lit_1, lit_13, lit_23, lit_tt, vE8, go_sem, ↓reduceIte, Nat.reduceEqDiff, Nat.reduceSub, Nat.reduceLeDiff, Nat.reduceAdd, Int.reduceEq, Int.reduceLT, Int.reduceLE]
  refine call_with (okLearn _ _ _ (by omega)) ?_
  (try simp only [brK_e, gdK_e, skK_e, gdA_e, skA_e, pkK_e]); simp (maxSteps := 10000000) (disch := omega) only [lit_2, lit_1, lit_13, lit_23, lit_tt, go_sem, ↓reduceIte, Nat.reduceEqDiff, Nat.reduceSub, Nat.reduceLeDiff, Nat.reduceAdd, Int.reduceEq, Int.reduceLT, Int.reduceLE]
  refine call_with (okLearn _ _ _ (by omega)) ?_
  (try simp only [brK_e, gdK_e, skK_e, gdA_e, skA_e, pkK_e]); simp (maxSteps := 10000000) (disch := omega) only [lit_2, lit_1, lit_13, lit_23, lit_tt, go_sem, ↓reduceIte, Nat.reduceEqDiff, Nat.reduceSub, Nat.reduceLeDiff, Nat.reduceAdd, Int.reduceEq, Int.reduceLT, Int.reduceLE]
  refine call_with (okSure _ _) ?_
  have e1 : vEq (sureTo (tLearn (tLearn (fun _ _ => 0) 1 (lit [2])) 2 (lit [1, 3])) (litB [true, true]) 8).2 (lit [1]) := by decide
  (try simp only [brK_e, gdK_e, skK_e, gdA_e, skA_e, pkK_e]); simp (maxSteps := 10000000) (disch := omega) only [lit_2, lit_1, lit_13, lit_23, lit_tt, e1, go_sem, ↓reduceIte, Nat.reduceEqDiff, Nat.reduceSub, Nat.reduceLeDiff, Nat.reduceAdd, Int.reduceEq, Int.reduceLT, Int.reduceLE]
  refine call_with (okAll _) ?_
  have e2 : vEq (allTo (tLearn (tLearn (fun _ _ => 0) 1 (lit [2])) 2 (lit [1, 3])) 8) (lit [2, 3]) := by decide
  (try simp only [brK_e, gdK_e, skK_e, gdA_e, skA_e, pkK_e]); simp (maxSteps := 10000000) (disch := omega) only [lit_2, lit_1, lit_13, lit_23, lit_tt, e2, go_sem, ↓reduceIte, Nat.reduceEqDiff, Nat.reduceSub, Nat.reduceLeDiff, Nat.reduceAdd, Int.reduceEq, Int.reduceLT, Int.reduceLE]
  refine call_with (okRow _ _ (by omega)) ?_
  have e3 : vEq (tRow (tLearn (tLearn (fun _ _ => 0) 1 (lit [2])) 2 (lit [1, 3])) 2) (lit [1, 3]) := by decide
  (try simp only [brK_e, gdK_e, skK_e, gdA_e, skA_e, pkK_e]); simp (maxSteps := 10000000) (disch := omega) only [lit_2, lit_1, lit_13, lit_23, lit_tt, e3, go_sem, ↓reduceIte, Nat.reduceEqDiff, Nat.reduceSub, Nat.reduceLeDiff, Nat.reduceAdd, Int.reduceEq, Int.reduceLT, Int.reduceLE]
end Go.Proofs.Ytjlblbbhmmconaa.Fw
namespace Go.Proofs.Ytjlblbbhmmconaa.Fw
open Go.RowKit Go.Proofs
def stLeq (a b : Vc) (k : Nat) : FS := mk [(8, .pv (.i .i64 k)), (7, .vec 8 (vE a)), (4, .pv (.b false)), (3, .p 3 0)] [(3, some (.var (.vec 8 (vE b))))]
theorem okLeq (a b : Vc) {h d} : FunOk Try.prog 45 [.vec 8 (vE a), .vec 8 (vE b)] h d (.pv (.b (decide (vLe a b)))) [] := by
  refine fun_pure mixed fn45 (by simp) rfl rfl fun F => ?_
  (try simp only [brK_e, gdK_e, skK_e, gdA_e, skA_e, pkK_e]); simp (maxSteps := 10000000) (disch := omega) only [ir45, go_sem, ↓reduceIte, Nat.reduceEqDiff, Nat.reduceSub, Nat.reduceLeDiff, Nat.reduceAdd, Int.reduceEq, Int.reduceLT, Int.reduceLE]
  refine loop_ok mixed (stLeq a b) (fun k => k ≤ 8 ∧ ∀ i, i < k → a i ≤ b i) (fun k => 8 - k) 0 (by simp) (weak_mk ?_ ?_) fun k hk => ?_
  · (try simp only [brK_e, gdK_e, skK_e, gdA_e, skA_e, pkK_e]); simp (maxSteps := 10000000) (disch := omega) only [go_sem, ↓reduceIte, Nat.reduceEqDiff, Nat.reduceSub, Nat.reduceLeDiff, Nat.reduceAdd, Int.reduceEq, Int.reduceLT, Int.reduceLE]
  · (try simp only [brK_e, gdK_e, skK_e, gdA_e, skA_e, pkK_e]); simp (maxSteps := 10000000) (disch := omega) only [go_sem, ↓reduceIte, Nat.reduceEqDiff, Nat.reduceSub, Nat.reduceLeDiff, Nat.reduceAdd, Int.reduceEq, Int.reduceLT, Int.reduceLE]
  obtain ⟨hk, hle⟩ := hk
  by_cases hlt : k < 8
  · by_cases hc : a k ≤ b k
    · (try simp only [brK_e, gdK_e, skK_e, gdA_e, skA_e, pkK_e]); simp (maxSteps := 10000000) (disch := omega) only [stLeq, go_sem, ↓reduceIte, Nat.reduceEqDiff, Nat.reduceSub, Nat.reduceLeDiff, Nat.reduceAdd, Int.reduceEq, Int.reduceLT, Int.reduceLE]
      refine loop_next (k + 1) _ _ rfl ⟨by omega, fun i hi => ?_⟩ (by omega) ?_ ?_
      · by_cases e : i = k
        · subst e; exact hc
        · exact hle i (by omega)
      · (try simp only [brK_e, gdK_e, skK_e, gdA_e, skA_e, pkK_e]); simp (maxSteps := 10000000) (disch := omega) only [go_sem, ↓reduceIte, Nat.reduceEqDiff, Nat.reduceSub, Nat.reduceLeDiff, Nat.reduceAdd, Int.reduceEq, Int.reduceLT, Int.reduceLE]
      · (try simp only [brK_e, gdK_e, skK_e, gdA_e, skA_e, pkK_e]); simp (maxSteps := 10000000) (disch := omega) only [go_sem, ↓reduceIte, Nat.reduceEqDiff, Nat.reduceSub, Nat.reduceLeDiff, Nat.reduceAdd, Int.reduceEq, Int.reduceLT, Int.reduceLE]
    · have hn : ¬ vLe a b := fun h => hc (h k hlt)
      (try simp only [brK_e, gdK_e, skK_e, gdA_e, skA_e, pkK_e]); simp (maxSteps := 10000000) (disch := omega) only [stLeq, hn, go_sem, ↓reduceIte, Nat.reduceEqDiff, Nat.reduceSub, Nat.reduceLeDiff, Nat.reduceAdd, Int.reduceEq, Int.reduceLT, Int.reduceLE]
  · have hn : vLe a b := fun i hi => hle i (by omega)
    (try simp only [brK_e, gdK_e, skK_e, gdA_e, skA_e, pkK_e]); simp (maxSteps := 10000000) (disch := omega) only [stLeq, hn, go_sem, ↓reduceIte, Nat.reduceEqDiff, Nat.reduceSub, Nat.reduceLeDiff, Nat.reduceAdd, Int.reduceEq, Int.reduceLT, Int.reduceLE]
def stJoinR (a b : Vc) (k : Nat) : FS := mk [(6, .pv (.i .i64 k)), (5, .p 5 0), (4, .p 4 0), (3, .p 3 0), (2, .p 2 0)] [(2, some (.var (.vec 8 (vE a)))), (3, some (.var (.vec 8 (vE b)))), (5, some (.var (.vec 8 (vE fun i => if i < k then vJoin a b i else 0)))), (4, some (.var (.vec 8 (vE fun _ => 0))))]
theorem okJoinR (a b : Vc) {h d} : FunOk Try.prog 50 [.vec 8 (vE a), .vec 8 (vE b)] h d (.vec 8 (vE (vJoin a b))) [] := by
  refine fun_pure mixed fn50 (by simp) rfl rfl fun F => ?_
  (try simp only [brK_e, gdK_e, skK_e, gdA_e, skA_e, pkK_e]); simp (maxSteps := 10000000) (disch := omega) only [ir50, go_sem, ↓reduceIte, Nat.reduceEqDiff, Nat.reduceSub, Nat.reduceLeDiff, Nat.reduceAdd, Int.reduceEq, Int.reduceLT, Int.reduceLE]
  refine loop_ok mixed (stJoinR a b) (fun k => k ≤ 8) (fun k => 8 - k) 0 (by simp) (weak_mk ?_ ?_) fun k hk => ?_
  · (try simp only [brK_e, gdK_e, skK_e, gdA_e, skA_e, pkK_e]); simp (maxSteps := 10000000) (disch := omega) only [go_sem, ↓reduceIte, Nat.reduceEqDiff, Nat.reduceSub, Nat.reduceLeDiff, Nat.reduceAdd, Int.reduceEq, Int.reduceLT, Int.reduceLE]
  · (try simp only [brK_e, gdK_e, skK_e, gdA_e, skA_e, pkK_e]); simp (maxSteps := 10000000) (disch := omega) only [vE_none, go_sem, ↓reduceIte, Nat.reduceEqDiff, Nat.reduceSub, Nat.reduceLeDiff, Nat.reduceAdd, Int.reduceEq, Int.reduceLT, Int.reduceLE]
  by_cases hlt : k < 8
  · by_cases hc : a k < b k
    · (try simp only [brK_e, gdK_e, skK_e, gdA_e, skA_e, pkK_e]); simp (maxSteps := 10000000) (disch := omega) only [stJoinR, go_sem, ↓reduceIte, Nat.reduceEqDiff, Nat.reduceSub, Nat.reduceLeDiff, Nat.reduceAdd, Int.reduceEq, Int.reduceLT, Int.reduceLE]
      refine loop_next (k + 1) _ _ rfl (by omega) (by omega) ?_ ?_
      · (try simp only [brK_e, gdK_e, skK_e, gdA_e, skA_e, pkK_e]); simp (maxSteps := 10000000) (disch := omega) only [go_sem, ↓reduceIte, Nat.reduceEqDiff, Nat.reduceSub, Nat.reduceLeDiff, Nat.reduceAdd, Int.reduceEq, Int.reduceLT, Int.reduceLE]
      · (try simp only [brK_e, gdK_e, skK_e, gdA_e, skA_e, pkK_e]); simp (maxSteps := 10000000) (disch := omega) only [go_sem, ↓reduceIte, Nat.reduceEqDiff, Nat.reduceSub, Nat.reduceLeDiff, Nat.reduceAdd, Int.reduceEq, Int.reduceLT, Int.reduceLE]
        exact imp_vec (vE_ext fun i hi => by simp only [setV, vJoin]; grind)
    · (try simp only [brK_e, gdK_e, skK_e, gdA_e, skA_e, pkK_e]); simp (maxSteps := 10000000) (disch := omega) only [stJoinR, go_sem, ↓reduceIte, Nat.reduceEqDiff, Nat.reduceSub, Nat.reduceLeDiff, Nat.reduceAdd, Int.reduceEq, Int.reduceLT, Int.reduceLE]
      refine loop_next (k + 1) _ _ rfl (by omega) (by omega) ?_ ?_
      · (try simp only [brK_e, gdK_e, skK_e, gdA_e, skA_e, pkK_e]); simp (maxSteps := 10000000) (disch := omega) only [go_sem, ↓reduceIte, Nat.reduceEqDiff, Nat.reduceSub, Nat.reduceLeDiff, Nat.reduceAdd, Int.reduceEq, Int.reduceLT, Int.reduceLE]
      · (try simp only [brK_e, gdK_e, skK_e, gdA_e, skA_e, pkK_e]); simp (maxSteps := 10000000) (disch := omega) only [go_sem, ↓reduceIte, Nat.reduceEqDiff, Nat.reduceSub, Nat.reduceLeDiff, Nat.reduceAdd, Int.reduceEq, Int.reduceLT, Int.reduceLE]
        exact imp_vec (vE_ext fun i hi => by simp only [setV, vJoin]; grind)
  · (try simp only [brK_e, gdK_e, skK_e, gdA_e, skA_e, pkK_e]); simp (maxSteps := 10000000) (disch := omega) only [stJoinR, vE_all, go_sem, ↓reduceIte, Nat.reduceEqDiff, Nat.reduceSub, Nat.reduceLeDiff, Nat.reduceAdd, Int.reduceEq, Int.reduceLT, Int.reduceLE]
def wAnd (r g : Nat → Bool) : Nat → Bool := fun i => r i && !g i
theorem wE_all (f g : Nat → Bool) {k : Nat} (h : 8 ≤ k) : (wE fun i => if i < k then f i else g i) = wE f := wE_ext fun i hi => by rw [if_pos (by omega)]
theorem wE_none (f g : Nat → Bool) {k : Nat} (h : k = 0) : (wE fun i => if i < k then f i else g i) = wE g := wE_ext fun i hi => by rw [if_neg (by omega)]
def stWho (r g : Nat → Bool) (k : Nat) : FS := mk [(9, .pv (.i .i64 k)), (8, .vec 8 (wE g)), (4, .p 4 0), (3, .p 3 0)] [(3, some (.var (.vec 8 (wE fun i => if i < k then wAnd r g i else r i)))), (4, some (.var (.vec 8 (wE fun _ => false))))]
theorem okWho (kn ws : List PV) (o e : PV) (r g : Nat → Bool) {h d} : FunOk Try.prog 28 [.agg [.vec 8 kn, .pv o, .pv e, .vec 8 ws, .vec 8 (wE g)], .vec 8 (wE r)] h d (.vec 8 (wE (wAnd r g))) [] := by
  refine fun_pure mixed fn28 (by simp) rfl rfl fun F => ?_
  (try simp only [brK_e, gdK_e, skK_e, gdA_e, skA_e, pkK_e]); simp (maxSteps := 10000000) (disch := omega) only [ir28, go_sem, ↓reduceIte, Nat.reduceEqDiff, Nat.reduceSub, Nat.reduceLeDiff, Nat.reduceAdd, Int.reduceEq, Int.reduceLT, Int.reduceLE]
  refine loop_ok mixed (stWho r g) (fun k => k ≤ 8) (fun k => 8 - k) 0 (by simp) (weak_mk ?_ ?_) fun k hk => ?_
  · (try simp only [brK_e, gdK_e, skK_e, gdA_e, skA_e, pkK_e]); simp (maxSteps := 10000000) (disch := omega) only [go_sem, ↓reduceIte, Nat.reduceEqDiff, Nat.reduceSub, Nat.reduceLeDiff, Nat.reduceAdd, Int.reduceEq, Int.reduceLT, Int.reduceLE]
  · (try simp only [brK_e, gdK_e, skK_e, gdA_e, skA_e, pkK_e]); simp (maxSteps := 10000000) (disch := omega) only [wE_none, go_sem, ↓reduceIte, Nat.reduceEqDiff, Nat.reduceSub, Nat.reduceLeDiff, Nat.reduceAdd, Int.reduceEq, Int.reduceLT, Int.reduceLE]
  by_cases hlt : k < 8
  · cases hr : r k <;> cases hg : g k
    all_goals (try simp only [brK_e, gdK_e, skK_e, gdA_e, skA_e, pkK_e]); simp (maxSteps := 10000000) (disch := omega) only [stWho, Nat.lt_irrefl, hr, hg, go_sem, ↓reduceIte, Nat.reduceEqDiff, Nat.reduceSub, Nat.reduceLeDiff, Nat.reduceAdd, Int.reduceEq, Int.reduceLT, Int.reduceLE]
    all_goals refine loop_next (k + 1) _ _ rfl (by omega) (by omega) ?_ ?_
    all_goals (try simp only [brK_e, gdK_e, skK_e, gdA_e, skA_e, pkK_e]); simp (maxSteps := 10000000) (disch := omega) only [go_sem, ↓reduceIte, Nat.reduceEqDiff, Nat.reduceSub, Nat.reduceLeDiff, Nat.reduceAdd, Int.reduceEq, Int.reduceLT, Int.reduceLE]
    all_goals exact imp_vec (wE_ext fun i hi => by simp only [setV, wAnd]; grind)
  · (try simp only [brK_e, gdK_e, skK_e, gdA_e, skA_e, pkK_e]); simp (maxSteps := 10000000) (disch := omega) only [stWho, wE_all, go_sem, ↓reduceIte, Nat.reduceEqDiff, Nat.reduceSub, Nat.reduceLeDiff, Nat.reduceAdd, Int.reduceEq, Int.reduceLT, Int.reduceLE]
def stWhoR (kn ws : List PV) (o e : PV) (r g : Nat → Bool) (k : Nat) : FS := mk [(6, .pv (.i .i64 k)), (5, .p 5 0), (4, .p 4 0), (3, .p 3 0), (2, .p 2 0)] [(2, some (.var (.agg [.vec 8 kn, .pv o, .pv e, .vec 8 ws, .vec 8 (wE g)]))), (3, some (.var (.vec 8 (wE r)))), (5, some (.var (.vec 8 (wE fun i => if i < k then wAnd r g i else false)))), (4, some (.var (.vec 8 (wE fun _ => false))))]
theorem okWhoR (kn : Nat → Nat) (wards : Nat → Int) (o e : PV) (r g : Nat → Bool) {h d} : FunOk Try.prog 29 [.agg [.vec 8 (vE kn), .pv o, .pv e, .vec 8 (iE wards), .vec 8 (wE g)], .vec 8 (wE r)] h d (.vec 8 (wE (wAnd r g))) [] := by
  have ld : ∀ (k : Nat) K, k < 8 → LoadK (some (vE kn ++ (o :: e :: (iE wards ++ wE g)))) (18 + k) 1 false K = K (.pv (.b (g k))) [] := fun k K hk => by
    rw [load_vEs (by omega), show 18 + k - 8 = (k + 8) + 1 + 1 from by omega, load_cS, load_cS, load_skip (by rw [iE_length]; omega), iE_length, show k + 8 - 8 = k from by omega, load_wE hk]
  refine fun_pure mixed fn29 (by simp) rfl rfl fun F => ?_
  (try simp only [brK_e, gdK_e, skK_e, gdA_e, skA_e, pkK_e]); simp (maxSteps := 10000000) (disch := omega) only [ir29, go_sem, ↓reduceIte, Nat.reduceEqDiff, Nat.reduceSub, Nat.reduceLeDiff, Nat.reduceAdd, Int.reduceEq, Int.reduceLT, Int.reduceLE]
  refine loop_ok mixed (stWhoR (vE kn) (iE wards) o e r g) (fun k => k ≤ 8) (fun k => 8 - k) 0 (by simp) (weak_mk ?_ ?_) fun k hk => ?_
  · (try simp only [brK_e, gdK_e, skK_e, gdA_e, skA_e, pkK_e]); simp (maxSteps := 10000000) (disch := omega) only [go_sem, ↓reduceIte, Nat.reduceEqDiff, Nat.reduceSub, Nat.reduceLeDiff, Nat.reduceAdd, Int.reduceEq, Int.reduceLT, Int.reduceLE]
  · (try simp only [brK_e, gdK_e, skK_e, gdA_e, skA_e, pkK_e]); simp (maxSteps := 10000000) (disch := omega) only [wE_none, go_sem, ↓reduceIte, Nat.reduceEqDiff, Nat.reduceSub, Nat.reduceLeDiff, Nat.reduceAdd, Int.reduceEq, Int.reduceLT, Int.reduceLE]
  by_cases hlt : k < 8
  · cases hr : r k <;> cases hg : g k
    all_goals (try simp only [brK_e, gdK_e, skK_e, gdA_e, skA_e, pkK_e]); simp (maxSteps := 10000000) (disch := omega) only [stWhoR, hr, hg, ld, hlt, go_sem, ↓reduceIte, Nat.reduceEqDiff, Nat.reduceSub, Nat.reduceLeDiff, Nat.reduceAdd, Int.reduceEq, Int.reduceLT, Int.reduceLE]
    all_goals refine loop_next (k + 1) _ _ rfl (by omega) (by omega) ?_ ?_
    all_goals (try simp only [brK_e, gdK_e, skK_e, gdA_e, skA_e, pkK_e]); simp (maxSteps := 10000000) (disch := omega) only [go_sem, ↓reduceIte, Nat.reduceEqDiff, Nat.reduceSub, Nat.reduceLeDiff, Nat.reduceAdd, Int.reduceEq, Int.reduceLT, Int.reduceLE]
    all_goals exact imp_vec (wE_ext fun i hi => by simp only [setV, wAnd]; grind)
  · (try simp only [brK_e, gdK_e, skK_e, gdA_e, skA_e, pkK_e]); simp (maxSteps := 10000000) (disch := omega) only [stWhoR, wE_all, go_sem, ↓reduceIte, Nat.reduceEqDiff, Nat.reduceSub, Nat.reduceLeDiff, Nat.reduceAdd, Int.reduceEq, Int.reduceLT, Int.reduceLE]
def stAllR (t : Tb) (k : Nat) : FS := mk [(4, .pv (.i .i64 k)), (3, .p 3 0), (2, .p 2 0), (1, .p 1 0)] [(1, some (.var (.vec 64 (tE t)))), (3, some (.var (.vec 8 (vE (allTo t k))))), (2, some (.var (.vec 8 (vE fun _ => 0))))]
theorem okAllR (t : Tb) {h d} : FunOk Try.prog 33 [.vec 64 (tE t)] h d (.vec 8 (vE (allTo t 8))) [] := by
  refine fun_pure mixed fn33 (by simp) rfl rfl fun F => ?_
  (try simp only [brK_e, gdK_e, skK_e, gdA_e, skA_e, pkK_e]); simp (maxSteps := 10000000) (disch := omega) only [ir33, go_sem, ↓reduceIte, Nat.reduceEqDiff, Nat.reduceSub, Nat.reduceLeDiff, Nat.reduceAdd, Int.reduceEq, Int.reduceLT, Int.reduceLE]
  refine loop_ok mixed (stAllR t) (fun k => k ≤ 8) (fun k => 8 - k) 0 (by simp) (weak_mk ?_ ?_) fun k hk => ?_
  · (try simp only [brK_e, gdK_e, skK_e, gdA_e, skA_e, pkK_e]); simp (maxSteps := 10000000) (disch := omega) only [go_sem, ↓reduceIte, Nat.reduceEqDiff, Nat.reduceSub, Nat.reduceLeDiff, Nat.reduceAdd, Int.reduceEq, Int.reduceLT, Int.reduceLE]
  · (try simp only [brK_e, gdK_e, skK_e, gdA_e, skA_e, pkK_e]); simp (maxSteps := 10000000) (disch := omega) only [allTo, go_sem, ↓reduceIte, Nat.reduceEqDiff, Nat.reduceSub, Nat.reduceLeDiff, Nat.reduceAdd, Int.reduceEq, Int.reduceLT, Int.reduceLE]
  by_cases hlt : k < 8
  · (try simp only [brK_e, gdK_e, skK_e, gdA_e, skA_e, pkK_e]); simp (maxSteps := 10000000) (disch := omega) only [stAllR, go_sem, ↓reduceIte, Nat.reduceEqDiff, Nat.reduceSub, Nat.reduceLeDiff, Nat.reduceAdd, Int.reduceEq, Int.reduceLT, Int.reduceLE]
    refine call_with (okJoinR _ _) ?_
    (try simp only [brK_e, gdK_e, skK_e, gdA_e, skA_e, pkK_e]); simp (maxSteps := 10000000) (disch := omega) only [go_sem, ↓reduceIte, Nat.reduceEqDiff, Nat.reduceSub, Nat.reduceLeDiff, Nat.reduceAdd, Int.reduceEq, Int.reduceLT, Int.reduceLE]
    refine loop_next (k + 1) _ _ rfl (by omega) (by omega) ?_ ?_
    · (try simp only [brK_e, gdK_e, skK_e, gdA_e, skA_e, pkK_e]); simp (maxSteps := 10000000) (disch := omega) only [go_sem, ↓reduceIte, Nat.reduceEqDiff, Nat.reduceSub, Nat.reduceLeDiff, Nat.reduceAdd, Int.reduceEq, Int.reduceLT, Int.reduceLE]
    · (try simp only [brK_e, gdK_e, skK_e, gdA_e, skA_e, pkK_e]); simp (maxSteps := 10000000) (disch := omega) only [allTo, go_sem, ↓reduceIte, Nat.reduceEqDiff, Nat.reduceSub, Nat.reduceLeDiff, Nat.reduceAdd, Int.reduceEq, Int.reduceLT, Int.reduceLE]
  · obtain rfl : k = 8 := by omega
    (try simp only [brK_e, gdK_e, skK_e, gdA_e, skA_e, pkK_e]); simp (maxSteps := 10000000) (disch := omega) only [stAllR, go_sem, ↓reduceIte, Nat.reduceEqDiff, Nat.reduceSub, Nat.reduceLeDiff, Nat.reduceAdd, Int.reduceEq, Int.reduceLT, Int.reduceLE]
def sTo (t : Tb) (w : Nat → Bool) (k i : Nat) : Vc := fun j => if j < k then (sureTo t w 8).2 j else if j = k then (sureTo t w i).2 j else 0
def stSureR (t : Tb) (w : Nat → Bool) (k : Nat) : FS := mk [(6, .pv (.i .i64 k)), (5, .p 5 0), (4, .p 4 0), (3, .p 3 0), (2, .p 2 0)] [(2, some (.var (.vec 64 (tE t)))), (3, some (.var (.vec 8 (wE w)))), (5, some (.var (.vec 8 (vE (sTo t w k 0))))), (4, some (.var (.vec 8 (vE fun _ => 0))))]
def stSureR2 (t : Tb) (w : Nat → Bool) (k i : Nat) : FS := mk [(8, .pv (.i .i64 i)), (7, .pv (.b (sureTo t w i).1)), (6, .pv (.i .i64 k)), (5, .p 5 0), (4, .p 4 0), (3, .p 3 0), (2, .p 2 0)] [(2, some (.var (.vec 64 (tE t)))), (3, some (.var (.vec 8 (wE w)))), (5, some (.var (.vec 8 (vE (sTo t w k i))))), (4, some (.var (.vec 8 (vE fun _ => 0))))]
theorem sTo_0 (t : Tb) (w : Nat → Bool) (k : Nat) : sTo t w k 0 = fun j => if j < k then (sureTo t w 8).2 j else 0 := by
  funext j; unfold sTo sureTo; split
  · rfl
  · split <;> rfl
theorem sTo_8 (t : Tb) (w : Nat → Bool) (k : Nat) : sTo t w k 8 = sTo t w (k + 1) 0 := by
  rw [sTo_0]; funext j; unfold sTo; grind
set_option maxHeartbeats 2000000 in
theorem okSureR (t : Tb) (w : Nat → Bool) {h d} : FunOk Try.prog 31 [.vec 64 (tE t), .vec 8 (wE w)] h d (.vec 8 (vE (sureTo t w 8).2)) [] := by
  refine fun_pure mixed fn31 (by simp) rfl rfl fun F => ?_
  (try simp only [brK_e, gdK_e, skK_e, gdA_e, skA_e, pkK_e]); simp (maxSteps := 10000000) (disch := omega) only [ir31, go_sem, ↓reduceIte, Nat.reduceEqDiff, Nat.reduceSub, Nat.reduceLeDiff, Nat.reduceAdd, Int.reduceEq, Int.reduceLT, Int.reduceLE]
  refine loop_ok mixed (stSureR t w) (fun k => k ≤ 8) (fun k => 8 - k) 0 (by simp) (weak_mk ?_ ?_) fun k hk => ?_
  · (try simp only [brK_e, gdK_e, skK_e, gdA_e, skA_e, pkK_e]); simp (maxSteps := 10000000) (disch := omega) only [go_sem, ↓reduceIte, Nat.reduceEqDiff, Nat.reduceSub, Nat.reduceLeDiff, Nat.reduceAdd, Int.reduceEq, Int.reduceLT, Int.reduceLE]
  · (try simp only [brK_e, gdK_e, skK_e, gdA_e, skA_e, pkK_e]); simp (maxSteps := 10000000) (disch := omega) only [sTo_0, vE_none, go_sem, ↓reduceIte, Nat.reduceEqDiff, Nat.reduceSub, Nat.reduceLeDiff, Nat.reduceAdd, Int.reduceEq, Int.reduceLT, Int.reduceLE]
  by_cases hlt : k < 8
  · (try simp only [brK_e, gdK_e, skK_e, gdA_e, skA_e, pkK_e]); simp (maxSteps := 10000000) (disch := omega) only [stSureR, go_sem, ↓reduceIte, Nat.reduceEqDiff, Nat.reduceSub, Nat.reduceLeDiff, Nat.reduceAdd, Int.reduceEq, Int.reduceLT, Int.reduceLE]
    refine loop_ok mixed (stSureR2 t w k) (fun i => i ≤ 8) (fun i => 8 - i) 0 (by simp) (weak_mk ?_ ?_) fun i hi => ?_
    · (try simp only [brK_e, gdK_e, skK_e, gdA_e, skA_e, pkK_e]); simp (maxSteps := 10000000) (disch := omega) only [sureTo, go_sem, ↓reduceIte, Nat.reduceEqDiff, Nat.reduceSub, Nat.reduceLeDiff, Nat.reduceAdd, Int.reduceEq, Int.reduceLT, Int.reduceLE]
    · (try simp only [brK_e, gdK_e, skK_e, gdA_e, skA_e, pkK_e]); simp (maxSteps := 10000000) (disch := omega) only [go_sem, ↓reduceIte, Nat.reduceEqDiff, Nat.reduceSub, Nat.reduceLeDiff, Nat.reduceAdd, Int.reduceEq, Int.reduceLT, Int.reduceLE]
    by_cases hli : i < 8
    · have ek : sTo t w k i k = (sureTo t w i).2 k := by unfold sTo; rw [if_neg (by omega), if_pos rfl]
      cases hw : w i with
      | false =>
        (try simp only [brK_e, gdK_e, skK_e, gdA_e, skA_e, pkK_e]); simp (maxSteps := 10000000) (disch := omega) only [stSureR2, hw, go_sem, ↓reduceIte, Nat.reduceEqDiff, Nat.reduceSub, Nat.reduceLeDiff, Nat.reduceAdd, Int.reduceEq, Int.reduceLT, Int.reduceLE]
        refine loop_next (i + 1) _ _ rfl (by omega) (by omega) ?_ ?_
        · (try simp only [brK_e, gdK_e, skK_e, gdA_e, skA_e, pkK_e]); simp (maxSteps := 10000000) (disch := omega) only [sureTo, hw, Bool.false_eq_true, go_sem, ↓reduceIte, Nat.reduceEqDiff, Nat.reduceSub, Nat.reduceLeDiff, Nat.reduceAdd, Int.reduceEq, Int.reduceLT, Int.reduceLE]
        · (try simp only [brK_e, gdK_e, skK_e, gdA_e, skA_e, pkK_e]); simp (maxSteps := 10000000) (disch := omega) only [go_sem, ↓reduceIte, Nat.reduceEqDiff, Nat.reduceSub, Nat.reduceLeDiff, Nat.reduceAdd, Int.reduceEq, Int.reduceLT, Int.reduceLE]
          exact imp_vec (vE_ext fun j hj => by simp only [sTo, sureTo, hw, Bool.false_eq_true, if_false])
      | true =>
        cases hs : (sureTo t w i).1 with
        | false =>
          (try simp only [brK_e, gdK_e, skK_e, gdA_e, skA_e, pkK_e]); simp (maxSteps := 10000000) (disch := omega) only [stSureR2, hw, hs, go_sem, ↓reduceIte, Nat.reduceEqDiff, Nat.reduceSub, Nat.reduceLeDiff, Nat.reduceAdd, Int.reduceEq, Int.reduceLT, Int.reduceLE]
          refine loop_next (i + 1) _ _ rfl (by omega) (by omega) ?_ ?_
          · (try simp only [brK_e, gdK_e, skK_e, gdA_e, skA_e, pkK_e]); simp (maxSteps := 10000000) (disch := omega) only [sureTo, hw, hs, Bool.false_eq_true, go_sem, ↓reduceIte, Nat.reduceEqDiff, Nat.reduceSub, Nat.reduceLeDiff, Nat.reduceAdd, Int.reduceEq, Int.reduceLT, Int.reduceLE]
          · (try simp only [brK_e, gdK_e, skK_e, gdA_e, skA_e, pkK_e]); simp (maxSteps := 10000000) (disch := omega) only [go_sem, ↓reduceIte, Nat.reduceEqDiff, Nat.reduceSub, Nat.reduceLeDiff, Nat.reduceAdd, Int.reduceEq, Int.reduceLT, Int.reduceLE]
            exact imp_vec (vE_ext fun j hj => by simp only [setV, sTo, sureTo, hw, hs, Bool.false_eq_true, if_false, if_true]; grind)
        | true =>
          by_cases hc : t i k < (sureTo t w i).2 k
          · (try simp only [brK_e, gdK_e, skK_e, gdA_e, skA_e, pkK_e]); simp (maxSteps := 10000000) (disch := omega) only [stSureR2, hw, hs, ek, go_sem, ↓reduceIte, Nat.reduceEqDiff, Nat.reduceSub, Nat.reduceLeDiff, Nat.reduceAdd, Int.reduceEq, Int.reduceLT, Int.reduceLE]
            refine loop_next (i + 1) _ _ rfl (by omega) (by omega) ?_ ?_
            · (try simp only [brK_e, gdK_e, skK_e, gdA_e, skA_e, pkK_e]); simp (maxSteps := 10000000) (disch := omega) only [sureTo, hw, hs, go_sem, ↓reduceIte, Nat.reduceEqDiff, Nat.reduceSub, Nat.reduceLeDiff, Nat.reduceAdd, Int.reduceEq, Int.reduceLT, Int.reduceLE]
            · (try simp only [brK_e, gdK_e, skK_e, gdA_e, skA_e, pkK_e]); simp (maxSteps := 10000000) (disch := omega) only [go_sem, ↓reduceIte, Nat.reduceEqDiff, Nat.reduceSub, Nat.reduceLeDiff, Nat.reduceAdd, Int.reduceEq, Int.reduceLT, Int.reduceLE]
              exact imp_vec (vE_ext fun j hj => by simp only [setV, sTo, sureTo, hw, hs, vMeet, if_true]; grind)
          · (try simp only [brK_e, gdK_e, skK_e, gdA_e, skA_e, pkK_e]); simp (maxSteps := 10000000) (disch := omega) only [stSureR2, hw, hs, ek, go_sem, ↓reduceIte, Nat.reduceEqDiff, Nat.reduceSub, Nat.reduceLeDiff, Nat.reduceAdd, Int.reduceEq, Int.reduceLT, Int.reduceLE]
            refine loop_next (i + 1) _ _ rfl (by omega) (by omega) ?_ ?_
            · (try simp only [brK_e, gdK_e, skK_e, gdA_e, skA_e, pkK_e]); simp (maxSteps := 10000000) (disch := omega) only [sureTo, hw, hs, go_sem, ↓reduceIte, Nat.reduceEqDiff, Nat.reduceSub, Nat.reduceLeDiff, Nat.reduceAdd, Int.reduceEq, Int.reduceLT, Int.reduceLE]
            · (try simp only [brK_e, gdK_e, skK_e, gdA_e, skA_e, pkK_e]); simp (maxSteps := 10000000) (disch := omega) only [go_sem, ↓reduceIte, Nat.reduceEqDiff, Nat.reduceSub, Nat.reduceLeDiff, Nat.reduceAdd, Int.reduceEq, Int.reduceLT, Int.reduceLE]
              exact imp_vec (vE_ext fun j hj => by simp only [sTo, sureTo, hw, hs, vMeet, if_true]; grind)
    · obtain rfl : i = 8 := by omega
      (try simp only [brK_e, gdK_e, skK_e, gdA_e, skA_e, pkK_e]); simp (maxSteps := 10000000) (disch := omega) only [stSureR2, go_sem, ↓reduceIte, Nat.reduceEqDiff, Nat.reduceSub, Nat.reduceLeDiff, Nat.reduceAdd, Int.reduceEq, Int.reduceLT, Int.reduceLE]
      refine loop_next (k + 1) _ _ rfl (by omega) (by omega) ?_ ?_
      · (try simp only [brK_e, gdK_e, skK_e, gdA_e, skA_e, pkK_e]); simp (maxSteps := 10000000) (disch := omega) only [go_sem, ↓reduceIte, Nat.reduceEqDiff, Nat.reduceSub, Nat.reduceLeDiff, Nat.reduceAdd, Int.reduceEq, Int.reduceLT, Int.reduceLE]
      · (try simp only [brK_e, gdK_e, skK_e, gdA_e, skA_e, pkK_e]); simp (maxSteps := 10000000) (disch := omega) only [sTo_8, go_sem, ↓reduceIte, Nat.reduceEqDiff, Nat.reduceSub, Nat.reduceLeDiff, Nat.reduceAdd, Int.reduceEq, Int.reduceLT, Int.reduceLE]
  · (try simp only [brK_e, gdK_e, skK_e, gdA_e, skA_e, pkK_e]); simp (maxSteps := 10000000) (disch := omega) only [stSureR, sTo_0, vE_all, go_sem, ↓reduceIte, Nat.reduceEqDiff, Nat.reduceSub, Nat.reduceLeDiff, Nat.reduceAdd, Int.reduceEq, Int.reduceLT, Int.reduceLE]
/-- the first of eight that is so, counted from 1 on; 0: none is -/
def firstFrom (p : Nat → Bool) : Nat → Nat → Nat
  | i, 0 => 0
  | i, n + 1 => if p i = true then i + 1 else firstFrom p (i + 1) n
def elseP (t : Tb) (self : Int) (w : Nat → Bool) (v : Vc) (i : Nat) : Bool := w i && (!decide ((i : Int) + 1 = self) && decide (vLe v (t i)))
def tElse (t : Tb) (self : Int) (w : Nat → Bool) (v : Vc) : Nat := firstFrom (elseP t self w v) 0 8
def stElse (t : Tb) (self : Int) (w : Nat → Bool) (v : Vc) (k : Nat) : FS := mk [(12, .pv (.i .i64 k)), (11, .vec 64 (tE t)), (7, .p 7 0), (6, .p 6 0), (1, .pv (.i .i64 self))] [(6, some (.var (.vec 8 (wE w)))), (7, some (.var (.vec 8 (vE v))))]
theorem okElse (t : Tb) (self : Int) (w : Nat → Bool) (v : Vc) {h d} : FunOk Try.prog 21 [.vec 64 (tE t), .pv (.i .i64 self), .vec 8 (wE w), .vec 8 (vE v)] h d (.pv (.i .i64 (tElse t self w v))) [] := by
  refine fun_pure mixed fn21 (by simp) rfl rfl fun F => ?_
  (try simp only [brK_e, gdK_e, skK_e, gdA_e, skA_e, pkK_e]); simp (maxSteps := 10000000) (disch := omega) only [ir21, go_sem, ↓reduceIte, Nat.reduceEqDiff, Nat.reduceSub, Nat.reduceLeDiff, Nat.reduceAdd, Int.reduceEq, Int.reduceLT, Int.reduceLE]
  refine loop_ok mixed (stElse t self w v) (fun k => k ≤ 8 ∧ tElse t self w v = firstFrom (elseP t self w v) k (8 - k)) (fun k => 8 - k) 0 ⟨by omega, rfl⟩ (weak_mk ?_ ?_) fun k hk => ?_
  · (try simp only [brK_e, gdK_e, skK_e, gdA_e, skA_e, pkK_e]); simp (maxSteps := 10000000) (disch := omega) only [go_sem, ↓reduceIte, Nat.reduceEqDiff, Nat.reduceSub, Nat.reduceLeDiff, Nat.reduceAdd, Int.reduceEq, Int.reduceLT, Int.reduceLE]
  · (try simp only [brK_e, gdK_e, skK_e, gdA_e, skA_e, pkK_e]); simp (maxSteps := 10000000) (disch := omega) only [go_sem, ↓reduceIte, Nat.reduceEqDiff, Nat.reduceSub, Nat.reduceLeDiff, Nat.reduceAdd, Int.reduceEq, Int.reduceLT, Int.reduceLE]
  obtain ⟨hk, hf⟩ := hk
  by_cases hlt : k < 8
  · have hs : firstFrom (elseP t self w v) k (8 - k) = if elseP t self w v k = true then k + 1 else firstFrom (elseP t self w v) (k + 1) (8 - (k + 1)) := by
      rw [show 8 - k = (8 - (k + 1)) + 1 from by omega]; rfl
    rw [hs] at hf
    cases hw : w k with
    | false =>
      have hp : elseP t self w v k = false := by simp [elseP, hw]
      rw [hp] at hf
      (try simp only [brK_e, gdK_e, skK_e, gdA_e, skA_e, pkK_e]); simp (maxSteps := 10000000) (disch := omega) only [stElse, hw, go_sem, ↓reduceIte, Nat.reduceEqDiff, Nat.reduceSub, Nat.reduceLeDiff, Nat.reduceAdd, Int.reduceEq, Int.reduceLT, Int.reduceLE]
      refine loop_next (k + 1) _ _ rfl ⟨by omega, by simpa using hf⟩ (by omega) ?_ ?_
      · (try simp only [brK_e, gdK_e, skK_e, gdA_e, skA_e, pkK_e]); simp (maxSteps := 10000000) (disch := omega) only [go_sem, ↓reduceIte, Nat.reduceEqDiff, Nat.reduceSub, Nat.reduceLeDiff, Nat.reduceAdd, Int.reduceEq, Int.reduceLT, Int.reduceLE]
      · (try simp only [brK_e, gdK_e, skK_e, gdA_e, skA_e, pkK_e]); simp (maxSteps := 10000000) (disch := omega) only [go_sem, ↓reduceIte, Nat.reduceEqDiff, Nat.reduceSub, Nat.reduceLeDiff, Nat.reduceAdd, Int.reduceEq, Int.reduceLT, Int.reduceLE]
    | true =>
      by_cases he : (k : Int) + 1 = self
      · have hp : elseP t self w v k = false := by simp [elseP, hw, he]
        rw [hp] at hf
        (try simp only [brK_e, gdK_e, skK_e, gdA_e, skA_e, pkK_e]); simp (maxSteps := 10000000) (disch := omega) only [stElse, hw, go_sem, ↓reduceIte, Nat.reduceEqDiff, Nat.reduceSub, Nat.reduceLeDiff, Nat.reduceAdd, Int.reduceEq, Int.reduceLT, Int.reduceLE]
        refine loop_next (k + 1) _ _ rfl ⟨by omega, by simpa using hf⟩ (by omega) ?_ ?_
        · (try simp only [brK_e, gdK_e, skK_e, gdA_e, skA_e, pkK_e]); simp (maxSteps := 10000000) (disch := omega) only [go_sem, ↓reduceIte, Nat.reduceEqDiff, Nat.reduceSub, Nat.reduceLeDiff, Nat.reduceAdd, Int.reduceEq, Int.reduceLT, Int.reduceLE]
        · (try simp only [brK_e, gdK_e, skK_e, gdA_e, skA_e, pkK_e]); simp (maxSteps := 10000000) (disch := omega) only [go_sem, ↓reduceIte, Nat.reduceEqDiff, Nat.reduceSub, Nat.reduceLeDiff, Nat.reduceAdd, Int.reduceEq, Int.reduceLT, Int.reduceLE]
      · (try simp only [brK_e, gdK_e, skK_e, gdA_e, skA_e, pkK_e]); simp (maxSteps := 10000000) (disch := omega) only [stElse, hw, go_sem, ↓reduceIte, Nat.reduceEqDiff, Nat.reduceSub, Nat.reduceLeDiff, Nat.reduceAdd, Int.reduceEq, Int.reduceLT, Int.reduceLE]
        refine call_with (okLeq _ _) ?_
        by_cases hv : vLe v (t k)
        · have hp : elseP t self w v k = true := by simp [elseP, hw, he, hv]
          rw [hp] at hf
          have hf' : ((tElse t self w v : Nat) : Int) = (k : Int) + 1 := by rw [hf]; simp
          (try simp only [brK_e, gdK_e, skK_e, gdA_e, skA_e, pkK_e]); simp (maxSteps := 10000000) (disch := omega) only [hv, hf', go_sem, ↓reduceIte, Nat.reduceEqDiff, Nat.reduceSub, Nat.reduceLeDiff, Nat.reduceAdd, Int.reduceEq, Int.reduceLT, Int.reduceLE]
        · have hp : elseP t self w v k = false := by simp [elseP, hw, he, hv]
          rw [hp] at hf
          (try simp only [brK_e, gdK_e, skK_e, gdA_e, skA_e, pkK_e]); simp (maxSteps := 10000000) (disch := omega) only [hv, go_sem, ↓reduceIte, Nat.reduceEqDiff, Nat.reduceSub, Nat.reduceLeDiff, Nat.reduceAdd, Int.reduceEq, Int.reduceLT, Int.reduceLE]
          refine loop_next (k + 1) _ _ rfl ⟨by omega, by simpa using hf⟩ (by omega) ?_ ?_
          · (try simp only [brK_e, gdK_e, skK_e, gdA_e, skA_e, pkK_e]); simp (maxSteps := 10000000) (disch := omega) only [go_sem, ↓reduceIte, Nat.reduceEqDiff, Nat.reduceSub, Nat.reduceLeDiff, Nat.reduceAdd, Int.reduceEq, Int.reduceLT, Int.reduceLE]
          · (try simp only [brK_e, gdK_e, skK_e, gdA_e, skA_e, pkK_e]); simp (maxSteps := 10000000) (disch := omega) only [go_sem, ↓reduceIte, Nat.reduceEqDiff, Nat.reduceSub, Nat.reduceLeDiff, Nat.reduceAdd, Int.reduceEq, Int.reduceLT, Int.reduceLE]
  · obtain rfl : k = 8 := by omega
    have hf' : ((tElse t self w v : Nat) : Int) = 0 := by rw [hf]; rfl
    (try simp only [brK_e, gdK_e, skK_e, gdA_e, skA_e, pkK_e]); simp (maxSteps := 10000000) (disch := omega) only [stElse, hf', go_sem, ↓reduceIte, Nat.reduceEqDiff, Nat.reduceSub, Nat.reduceLeDiff, Nat.reduceAdd, Int.reduceEq, Int.reduceLT, Int.reduceLE]
def stElseR (t : Tb) (self : Int) (w : Nat → Bool) (v : Vc) (k : Nat) : FS := mk [(10, .pv (.i .i64 k)), (9, .pv (.i .i64 (firstFrom (elseP t self w v) k (8 - k)))), (7, .p 7 0), (6, .p 6 0), (4, .p 4 0), (1, .pv (.i .i64 self))] [(4, some (.var (.vec 64 (tE t)))), (6, some (.var (.vec 8 (wE w)))), (7, some (.var (.vec 8 (vE v))))]
theorem okElseR (t : Tb) (self : Int) (w : Nat → Bool) (v : Vc) {h d} : FunOk Try.prog 34 [.vec 64 (tE t), .pv (.i .i64 self), .vec 8 (wE w), .vec 8 (vE v)] h d (.pv (.i .i64 (tElse t self w v))) [] := by
  refine fun_pure mixed fn34 (by simp) rfl rfl fun F => ?_
  (try simp only [brK_e, gdK_e, skK_e, gdA_e, skA_e, pkK_e]); simp (maxSteps := 10000000) (disch := omega) only [ir34, go_sem, ↓reduceIte, Nat.reduceEqDiff, Nat.reduceSub, Nat.reduceLeDiff, Nat.reduceAdd, Int.reduceEq, Int.reduceLT, Int.reduceLE]
  refine loop_ok mixed (stElseR t self w v) (fun k => k ≤ 8) (fun k => k) 8 (by omega) (weak_mk ?_ ?_) fun k hk => ?_
  · have e0 : firstFrom (elseP t self w v) 8 (8 - 8) = 0 := rfl
    (try simp only [brK_e, gdK_e, skK_e, gdA_e, skA_e, pkK_e]); simp (maxSteps := 10000000) (disch := omega) only [e0, go_sem, ↓reduceIte, Nat.reduceEqDiff, Nat.reduceSub, Nat.reduceLeDiff, Nat.reduceAdd, Int.reduceEq, Int.reduceLT, Int.reduceLE]
  · (try simp only [brK_e, gdK_e, skK_e, gdA_e, skA_e, pkK_e]); simp (maxSteps := 10000000) (disch := omega) only [go_sem, ↓reduceIte, Nat.reduceEqDiff, Nat.reduceSub, Nat.reduceLeDiff, Nat.reduceAdd, Int.reduceEq, Int.reduceLT, Int.reduceLE]
  by_cases hlt : 1 ≤ k
  · obtain ⟨m, rfl⟩ : ∃ m, k = m + 1 := ⟨k - 1, by omega⟩
    have hs : firstFrom (elseP t self w v) m (8 - m) = if elseP t self w v m = true then m + 1 else firstFrom (elseP t self w v) (m + 1) (8 - (m + 1)) := by
      rw [show 8 - m = (8 - (m + 1)) + 1 from by omega]; rfl
    have e1 : ((m + 1 : Nat) : Int) - 1 = (m : Int) := by omega
    cases hw : w m with
    | false =>
      have hp : elseP t self w v m = false := by simp [elseP, hw]
      rw [hp] at hs
      (try simp only [brK_e, gdK_e, skK_e, gdA_e, skA_e, pkK_e]); simp (maxSteps := 10000000) (disch := omega) only [stElseR, hw, e1, go_sem, ↓reduceIte, Nat.reduceEqDiff, Nat.reduceSub, Nat.reduceLeDiff, Nat.reduceAdd, Int.reduceEq, Int.reduceLT, Int.reduceLE]
      refine loop_next m _ _ rfl (by omega) (by omega) ?_ ?_
      · (try simp only [brK_e, gdK_e, skK_e, gdA_e, skA_e, pkK_e]); simp (maxSteps := 10000000) (disch := omega) only [hs, Bool.false_eq_true, go_sem, ↓reduceIte, Nat.reduceEqDiff, Nat.reduceSub, Nat.reduceLeDiff, Nat.reduceAdd, Int.reduceEq, Int.reduceLT, Int.reduceLE]
      · (try simp only [brK_e, gdK_e, skK_e, gdA_e, skA_e, pkK_e]); simp (maxSteps := 10000000) (disch := omega) only [go_sem, ↓reduceIte, Nat.reduceEqDiff, Nat.reduceSub, Nat.reduceLeDiff, Nat.reduceAdd, Int.reduceEq, Int.reduceLT, Int.reduceLE]
    | true =>
      by_cases he : (m : Int) + 1 = self
      · have hp : elseP t self w v m = false := by simp [elseP, hw, he]
        rw [hp] at hs
        (try simp only [brK_e, gdK_e, skK_e, gdA_e, skA_e, pkK_e]); simp (maxSteps := 10000000) (disch := omega) only [stElseR, hw, e1, go_sem, ↓reduceIte, Nat.reduceEqDiff, Nat.reduceSub, Nat.reduceLeDiff, Nat.reduceAdd, Int.reduceEq, Int.reduceLT, Int.reduceLE]
        refine loop_next m _ _ rfl (by omega) (by omega) ?_ ?_
        · (try simp only [brK_e, gdK_e, skK_e, gdA_e, skA_e, pkK_e]); simp (maxSteps := 10000000) (disch := omega) only [hs, Bool.false_eq_true, go_sem, ↓reduceIte, Nat.reduceEqDiff, Nat.reduceSub, Nat.reduceLeDiff, Nat.reduceAdd, Int.reduceEq, Int.reduceLT, Int.reduceLE]
        · (try simp only [brK_e, gdK_e, skK_e, gdA_e, skA_e, pkK_e]); simp (maxSteps := 10000000) (disch := omega) only [go_sem, ↓reduceIte, Nat.reduceEqDiff, Nat.reduceSub, Nat.reduceLeDiff, Nat.reduceAdd, Int.reduceEq, Int.reduceLT, Int.reduceLE]
      · (try simp only [brK_e, gdK_e, skK_e, gdA_e, skA_e, pkK_e]); simp (maxSteps := 10000000) (disch := omega) only [stElseR, hw, e1, go_sem, ↓reduceIte, Nat.reduceEqDiff, Nat.reduceSub, Nat.reduceLeDiff, Nat.reduceAdd, Int.reduceEq, Int.reduceLT, Int.reduceLE]
        refine call_with (okLeqR _ _) ?_
        by_cases hv : vLe v (t m)
        · have hp : elseP t self w v m = true := by simp [elseP, hw, he, hv]
          rw [hp] at hs
          (try simp only [brK_e, gdK_e, skK_e, gdA_e, skA_e, pkK_e]); simp (maxSteps := 10000000) (disch := omega) only [hv, e1, go_sem, ↓reduceIte, Nat.reduceEqDiff, Nat.reduceSub, Nat.reduceLeDiff, Nat.reduceAdd, Int.reduceEq, Int.reduceLT, Int.reduceLE]
          refine loop_next m _ _ rfl (by omega) (by omega) ?_ ?_
          · (try simp only [brK_e, gdK_e, skK_e, gdA_e, skA_e, pkK_e]); simp (maxSteps := 10000000) (disch := omega) only [hs, go_sem, ↓reduceIte, Nat.reduceEqDiff, Nat.reduceSub, Nat.reduceLeDiff, Nat.reduceAdd, Int.reduceEq, Int.reduceLT, Int.reduceLE]
          · (try simp only [brK_e, gdK_e, skK_e, gdA_e, skA_e, pkK_e]); simp (maxSteps := 10000000) (disch := omega) only [go_sem, ↓reduceIte, Nat.reduceEqDiff, Nat.reduceSub, Nat.reduceLeDiff, Nat.reduceAdd, Int.reduceEq, Int.reduceLT, Int.reduceLE]
        · have hp : elseP t self w v m = false := by simp [elseP, hw, he, hv]
          rw [hp] at hs
          (try simp only [brK_e, gdK_e, skK_e, gdA_e, skA_e, pkK_e]); simp (maxSteps := 10000000) (disch := omega) only [hv, e1, go_sem, ↓reduceIte, Nat.reduceEqDiff, Nat.reduceSub, Nat.reduceLeDiff, Nat.reduceAdd, Int.reduceEq, Int.reduceLT, Int.reduceLE]
          refine loop_next m _ _ rfl (by omega) (by omega) ?_ ?_
          · (try simp only [brK_e, gdK_e, skK_e, gdA_e, skA_e, pkK_e]); simp (maxSteps := 10000000) (disch := omega) only [hs, Bool.false_eq_true, go_sem, ↓reduceIte, Nat.reduceEqDiff, Nat.reduceSub, Nat.reduceLeDiff, Nat.reduceAdd, Int.reduceEq, Int.reduceLT, Int.reduceLE]
          · (try simp only [brK_e, gdK_e, skK_e, gdA_e, skA_e, pkK_e]); simp (maxSteps := 10000000) (disch := omega) only [go_sem, ↓reduceIte, Nat.reduceEqDiff, Nat.reduceSub, Nat.reduceLeDiff, Nat.reduceAdd, Int.reduceEq, Int.reduceLT, Int.reduceLE]
  · obtain rfl : k = 0 := by omega
    (try simp only [brK_e, gdK_e, skK_e, gdA_e, skA_e, pkK_e]); simp (maxSteps := 10000000) (disch := omega) only [stElseR, tElse, go_sem, ↓reduceIte, Nat.reduceEqDiff, Nat.reduceSub, Nat.reduceLeDiff, Nat.reduceAdd, Int.reduceEq, Int.reduceLT, Int.reduceLE]
end Go.Proofs.Ytjlblbbhmmconaa.Fw
namespace Go.Proofs.Ytjlblbbhmmconaa.Fw
open Go.RowKit Go.Proofs
def stS1 (t : Tb) (w : Nat → Bool) (k : Nat) : FS := mk [(9, .pv (.i .i64 ((k : Int) - 1))), (4, .p 4 0), (3, .p 3 0)] [(3, some (.var (.vec 64 (tE t)))), (4, some (.var (.vec 8 (wE w))))]
def stS2 (t : Tb) (w : Nat → Bool) (k i : Nat) : FS := mk [(54, .pv (.i .i64 i)), (53, .vec 64 (tE t)), (9, .pv (.i .i64 ((k : Int) - 1))), (4, .p 4 0), (3, .p 3 0)] [(3, some (.var (.vec 64 (tE t)))), (4, some (.var (.vec 8 (wE w))))]
set_option maxHeartbeats 4000000 in
theorem holdsTableSure {c0 c1 c2 : List PV} (g0 : GC (.arr 8 (.arr 8 (.int .u32))) c0) (g1 : GC (.arr 8 .bool) c1) (g2 : GC (.arr 8 .bool) c2) {h d} :
    FunOk Try.prog 7 [toSV (.arr 8 (.arr 8 (.int .u32))) c0, toSV (.arr 8 .bool) c1, toSV (.arr 8 .bool) c2] h d (.pv (.b true)) [] := by
  obtain ⟨t, rfl, _⟩ := GC_tE g0
  obtain ⟨w, rfl⟩ := GC_wE g1
  obtain ⟨g, rfl⟩ := GC_wE g2
  show FunOk Try.prog 7 [.vec 64 (tE t), .vec 8 (wE w), .vec 8 (wE g)] h d (.pv (.b true)) []
  refine fun_pure mixed fn7 (by simp) rfl rfl fun F => ?_
  (try simp only [brK_e, gdK_e, skK_e, gdA_e, skA_e, pkK_e]); simp (maxSteps := 10000000) (disch := omega) only [ir7, go_sem, ↓reduceIte, Nat.reduceEqDiff, Nat.reduceSub, Nat.reduceLeDiff, Nat.reduceAdd, Int.reduceEq, Int.reduceLT, Int.reduceLE]
  refine call_with livesT ?_
  (try simp only [brK_e, gdK_e, skK_e, gdA_e, skA_e, pkK_e]); simp (maxSteps := 10000000) (disch := omega) only [go_sem, ↓reduceIte, Nat.reduceEqDiff, Nat.reduceSub, Nat.reduceLeDiff, Nat.reduceAdd, Int.reduceEq, Int.reduceLT, Int.reduceLE]
  refine call_with (okWho _ _ _ _ _ _) ?_
  (try simp only [brK_e, gdK_e, skK_e, gdA_e, skA_e, pkK_e]); simp (maxSteps := 10000000) (disch := omega) only [go_sem, ↓reduceIte, Nat.reduceEqDiff, Nat.reduceSub, Nat.reduceLeDiff, Nat.reduceAdd, Int.reduceEq, Int.reduceLT, Int.reduceLE]
  refine call_with (okWhoR _ _ _ _ _ _) ?_
  (try simp only [brK_e, gdK_e, skK_e, gdA_e, skA_e, pkK_e]); simp (maxSteps := 10000000) (disch := omega) only [go_sem, ↓reduceIte, Nat.reduceEqDiff, Nat.reduceSub, Nat.reduceLeDiff, Nat.reduceAdd, Int.reduceEq, Int.reduceLT, Int.reduceLE]
  refine call_with (okSure _ _) ?_
  (try simp only [brK_e, gdK_e, skK_e, gdA_e, skA_e, pkK_e]); simp (maxSteps := 10000000) (disch := omega) only [go_sem, ↓reduceIte, Nat.reduceEqDiff, Nat.reduceSub, Nat.reduceLeDiff, Nat.reduceAdd, Int.reduceEq, Int.reduceLT, Int.reduceLE]
  refine call_with (okSureR _ _) ?_
  (try simp only [brK_e, gdK_e, skK_e, gdA_e, skA_e, pkK_e]); simp (maxSteps := 10000000) (disch := omega) only [go_sem, ↓reduceIte, Nat.reduceEqDiff, Nat.reduceSub, Nat.reduceLeDiff, Nat.reduceAdd, Int.reduceEq, Int.reduceLT, Int.reduceLE]
  refine call_with (okSure _ _) ?_
  (try simp only [brK_e, gdK_e, skK_e, gdA_e, skA_e, pkK_e]); simp (maxSteps := 10000000) (disch := omega) only [go_sem, ↓reduceIte, Nat.reduceEqDiff, Nat.reduceSub, Nat.reduceLeDiff, Nat.reduceAdd, Int.reduceEq, Int.reduceLT, Int.reduceLE]
  refine call_with (okSureR _ _) ?_
  (try simp only [brK_e, gdK_e, skK_e, gdA_e, skA_e, pkK_e]); simp (maxSteps := 10000000) (disch := omega) only [go_sem, ↓reduceIte, Nat.reduceEqDiff, Nat.reduceSub, Nat.reduceLeDiff, Nat.reduceAdd, Int.reduceEq, Int.reduceLT, Int.reduceLE]
  refine call_with (okAll _) ?_
  (try simp only [brK_e, gdK_e, skK_e, gdA_e, skA_e, pkK_e]); simp (maxSteps := 10000000) (disch := omega) only [go_sem, ↓reduceIte, Nat.reduceEqDiff, Nat.reduceSub, Nat.reduceLeDiff, Nat.reduceAdd, Int.reduceEq, Int.reduceLT, Int.reduceLE]
  refine call_with (okAllR _) ?_
  (try simp only [brK_e, gdK_e, skK_e, gdA_e, skA_e, pkK_e]); simp (maxSteps := 10000000) (disch := omega) only [go_sem, ↓reduceIte, Nat.reduceEqDiff, Nat.reduceSub, Nat.reduceLeDiff, Nat.reduceAdd, Int.reduceEq, Int.reduceLT, Int.reduceLE]
  refine loop_ok mixed (stS1 t w) (fun k => k ≤ 11) (fun k => 11 - k) 0 (by simp) (weak_mk ?_ ?_) fun k hk => ?_
  · (try simp only [brK_e, gdK_e, skK_e, gdA_e, skA_e, pkK_e]); simp (maxSteps := 10000000) (disch := omega) only [go_sem, ↓reduceIte, Nat.reduceEqDiff, Nat.reduceSub, Nat.reduceLeDiff, Nat.reduceAdd, Int.reduceEq, Int.reduceLT, Int.reduceLE]
  · (try simp only [brK_e, gdK_e, skK_e, gdA_e, skA_e, pkK_e]); simp (maxSteps := 10000000) (disch := omega) only [go_sem, ↓reduceIte, Nat.reduceEqDiff, Nat.reduceSub, Nat.reduceLeDiff, Nat.reduceAdd, Int.reduceEq, Int.reduceLT, Int.reduceLE]
  by_cases hlt : k < 11
  · (try simp only [brK_e, gdK_e, skK_e, gdA_e, skA_e, pkK_e]); simp (maxSteps := 10000000) (disch := omega) only [stS1, go_sem, ↓reduceIte, Nat.reduceEqDiff, Nat.reduceSub, Nat.reduceLeDiff, Nat.reduceAdd, Int.reduceEq, Int.reduceLT, Int.reduceLE]
    refine loop_ok mixed (stS2 t w k) (fun i => i ≤ 8) (fun i => 8 - i) 0 (by simp) (weak_mk ?_ ?_) fun i hi => ?_
    · (try simp only [brK_e, gdK_e, skK_e, gdA_e, skA_e, pkK_e]); simp (maxSteps := 10000000) (disch := omega) only [go_sem, ↓reduceIte, Nat.reduceEqDiff, Nat.reduceSub, Nat.reduceLeDiff, Nat.reduceAdd, Int.reduceEq, Int.reduceLT, Int.reduceLE]
    · (try simp only [brK_e, gdK_e, skK_e, gdA_e, skA_e, pkK_e]); simp (maxSteps := 10000000) (disch := omega) only [go_sem, ↓reduceIte, Nat.reduceEqDiff, Nat.reduceSub, Nat.reduceLeDiff, Nat.reduceAdd, Int.reduceEq, Int.reduceLT, Int.reduceLE]
    by_cases hli : i < 8
    · (try simp only [brK_e, gdK_e, skK_e, gdA_e, skA_e, pkK_e]); simp (maxSteps := 10000000) (disch := omega) only [stS2, go_sem, ↓reduceIte, Nat.reduceEqDiff, Nat.reduceSub, Nat.reduceLeDiff, Nat.reduceAdd, Int.reduceEq, Int.reduceLT, Int.reduceLE]
      refine call_with (okElse _ _ _ _) ?_
      (try simp only [brK_e, gdK_e, skK_e, gdA_e, skA_e, pkK_e]); simp (maxSteps := 10000000) (disch := omega) only [go_sem, ↓reduceIte, Nat.reduceEqDiff, Nat.reduceSub, Nat.reduceLeDiff, Nat.reduceAdd, Int.reduceEq, Int.reduceLT, Int.reduceLE]
      refine call_with (okElseR _ _ _ _) ?_
      (try simp only [brK_e, gdK_e, skK_e, gdA_e, skA_e, pkK_e]); simp (maxSteps := 10000000) (disch := omega) only [go_sem, ↓reduceIte, Nat.reduceEqDiff, Nat.reduceSub, Nat.reduceLeDiff, Nat.reduceAdd, Int.reduceEq, Int.reduceLT, Int.reduceLE]
      refine loop_next (i + 1) _ _ rfl (by omega) (by omega) ?_ ?_
      · (try simp only [brK_e, gdK_e, skK_e, gdA_e, skA_e, pkK_e]); simp (maxSteps := 10000000) (disch := omega) only [go_sem, ↓reduceIte, Nat.reduceEqDiff, Nat.reduceSub, Nat.reduceLeDiff, Nat.reduceAdd, Int.reduceEq, Int.reduceLT, Int.reduceLE]
      · (try simp only [brK_e, gdK_e, skK_e, gdA_e, skA_e, pkK_e]); simp (maxSteps := 10000000) (disch := omega) only [go_sem, ↓reduceIte, Nat.reduceEqDiff, Nat.reduceSub, Nat.reduceLeDiff, Nat.reduceAdd, Int.reduceEq, Int.reduceLT, Int.reduceLE]
    · (try simp only [brK_e, gdK_e, skK_e, gdA_e, skA_e, pkK_e]); simp (maxSteps := 10000000) (disch := omega) only [stS2, go_sem, ↓reduceIte, Nat.reduceEqDiff, Nat.reduceSub, Nat.reduceLeDiff, Nat.reduceAdd, Int.reduceEq, Int.reduceLT, Int.reduceLE]
      refine loop_next (k + 1) _ _ rfl (by omega) (by omega) ?_ ?_
      · (try simp only [brK_e, gdK_e, skK_e, gdA_e, skA_e, pkK_e]); simp (maxSteps := 10000000) (disch := omega) only [go_sem, ↓reduceIte, Nat.reduceEqDiff, Nat.reduceSub, Nat.reduceLeDiff, Nat.reduceAdd, Int.reduceEq, Int.reduceLT, Int.reduceLE]
      · (try simp only [brK_e, gdK_e, skK_e, gdA_e, skA_e, pkK_e]); simp (maxSteps := 10000000) (disch := omega) only [go_sem, ↓reduceIte, Nat.reduceEqDiff, Nat.reduceSub, Nat.reduceLeDiff, Nat.reduceAdd, Int.reduceEq, Int.reduceLT, Int.reduceLE]
  · (try simp only [brK_e, gdK_e, skK_e, gdA_e, skA_e, pkK_e]); simp (maxSteps := 10000000) (disch := omega) only [stS1, go_sem, ↓reduceIte, Nat.reduceEqDiff, Nat.reduceSub, Nat.reduceLeDiff, Nat.reduceAdd, Int.reduceEq, Int.reduceLT, Int.reduceLE]
end Go.Proofs.Ytjlblbbhmmconaa.Fw
