/- What the functions that the law EventTurned reaches compute. -/
import Derived.Test.YtmeecblciegkkaaWalkEventTurned1
import Derived.OpenShut
import Derived.ShutString
import Derived.ChangeOld
import Derived.SizedLaws
import Derived.ChangeOld
import Derived.Lib.Bytealg
import Derived.OpenShut
import Derived.ShutString
import Derived.SizedLaws
set_option linter.unusedVariables false
set_option linter.unusedSimpArgs false
set_option linter.unusedSectionVars false
set_option maxRecDepth 100000
namespace Go.Proofs.Ytmeecblciegkkaa.Fw
open Go.RowKit Go.Proofs
def madeB (e : Evt) (o d g b f t w : Bool) : Bool := (o || zeroB e.orep e.oseq) && ((d || (zeroB e.drep e.dseq && decide (e.name = []))) && ((g || decide ((e.gone.l.length : Int) = 0)) && ((b || decide ((e.base.l.length : Int) = 0)) && ((f || decide (e.off = 0)) && ((t || decide (e.data = [])) && (w || decide (e.ward = 0)))))))
set_option maxHeartbeats 4000000 in
theorem okMadeD (e : Evt) {h d} : FunOk Try.prog 85 [.vec 21 (evE e), .pv (.b false), .pv (.b true), .pv (.b false), .pv (.b false), .pv (.b false), .pv (.b false), .pv (.b false)] h d (.pv (.b (madeB e false true false false false false false))) [] := by
  refine fun_pure mixed fn85 (by simp) rfl rfl fun F => ?_
  have hl := evE_len e
  by_cases hz1' : zeroB e.orep e.oseq = false
  · have hz1 := hz1'
    have eb : madeB e false true false false false false false = false := by simp only [madeB, hz1, decide_true, decide_false, Bool.or_false, Bool.false_or, Bool.true_or, Bool.and_true, Bool.true_and, Bool.and_false, Bool.false_and, Bool.and_self, Bool.or_self]
    (try simp only [brK_e, gdK_e, skK_e, gdA_e, skA_e, pkK_e]); simp (maxSteps := 10000000) (disch := omega) only [ir85, evE_len, hz1, eb, go_sem, ↓reduceIte, Nat.reduceEqDiff, Nat.reduceSub, Nat.reduceLeDiff, Nat.reduceAdd, Int.reduceEq, Int.reduceLT, Int.reduceLE]
    refine call_with (okZeroR _ _) ?_
    (try simp only [brK_e, gdK_e, skK_e, gdA_e, skA_e, pkK_e]); simp (maxSteps := 10000000) (disch := omega) only [evE_len, hz1, eb, go_sem, ↓reduceIte, Nat.reduceEqDiff, Nat.reduceSub, Nat.reduceLeDiff, Nat.reduceAdd, Int.reduceEq, Int.reduceLT, Int.reduceLE]
  have hz1 : zeroB e.orep e.oseq = true := by simpa using hz1'
  by_cases hgo : (e.gone.l.length : Int) = 0
  rotate_left
  · have eb : madeB e false true false false false false false = false := by simp only [madeB, hz1, hgo, decide_true, decide_false, Bool.or_false, Bool.false_or, Bool.true_or, Bool.and_true, Bool.true_and, Bool.and_false, Bool.false_and, Bool.and_self, Bool.or_self]
    (try simp only [brK_e, gdK_e, skK_e, gdA_e, skA_e, pkK_e]); simp (maxSteps := 10000000) (disch := omega) only [ir85, evE_len, hz1, hgo, eb, go_sem, ↓reduceIte, Nat.reduceEqDiff, Nat.reduceSub, Nat.reduceLeDiff, Nat.reduceAdd, Int.reduceEq, Int.reduceLT, Int.reduceLE]
    refine call_with (okZeroR _ _) ?_
    (try simp only [brK_e, gdK_e, skK_e, gdA_e, skA_e, pkK_e]); simp (maxSteps := 10000000) (disch := omega) only [evE_len, hz1, hgo, eb, go_sem, ↓reduceIte, Nat.reduceEqDiff, Nat.reduceSub, Nat.reduceLeDiff, Nat.reduceAdd, Int.reduceEq, Int.reduceLT, Int.reduceLE]
  by_cases hba : (e.base.l.length : Int) = 0
  rotate_left
  · have eb : madeB e false true false false false false false = false := by simp only [madeB, hz1, hgo, hba, decide_true, decide_false, Bool.or_false, Bool.false_or, Bool.true_or, Bool.and_true, Bool.true_and, Bool.and_false, Bool.false_and, Bool.and_self, Bool.or_self]
    (try simp only [brK_e, gdK_e, skK_e, gdA_e, skA_e, pkK_e]); simp (maxSteps := 10000000) (disch := omega) only [ir85, evE_len, hz1, hgo, hba, eb, go_sem, ↓reduceIte, Nat.reduceEqDiff, Nat.reduceSub, Nat.reduceLeDiff, Nat.reduceAdd, Int.reduceEq, Int.reduceLT, Int.reduceLE]
    refine call_with (okZeroR _ _) ?_
    (try simp only [brK_e, gdK_e, skK_e, gdA_e, skA_e, pkK_e]); simp (maxSteps := 10000000) (disch := omega) only [evE_len, hz1, hgo, hba, eb, go_sem, ↓reduceIte, Nat.reduceEqDiff, Nat.reduceSub, Nat.reduceLeDiff, Nat.reduceAdd, Int.reduceEq, Int.reduceLT, Int.reduceLE]
  by_cases hof : e.off = 0
  rotate_left
  · have eb : madeB e false true false false false false false = false := by simp only [madeB, hz1, hgo, hba, hof, decide_true, decide_false, Bool.or_false, Bool.false_or, Bool.true_or, Bool.and_true, Bool.true_and, Bool.and_false, Bool.false_and, Bool.and_self, Bool.or_self]
    (try simp only [brK_e, gdK_e, skK_e, gdA_e, skA_e, pkK_e]); simp (maxSteps := 10000000) (disch := omega) only [ir85, evE_len, hz1, hgo, hba, hof, eb, go_sem, ↓reduceIte, Nat.reduceEqDiff, Nat.reduceSub, Nat.reduceLeDiff, Nat.reduceAdd, Int.reduceEq, Int.reduceLT, Int.reduceLE]
    refine call_with (okZeroR _ _) ?_
    (try simp only [brK_e, gdK_e, skK_e, gdA_e, skA_e, pkK_e]); simp (maxSteps := 10000000) (disch := omega) only [evE_len, hz1, hgo, hba, hof, eb, go_sem, ↓reduceIte, Nat.reduceEqDiff, Nat.reduceSub, Nat.reduceLeDiff, Nat.reduceAdd, Int.reduceEq, Int.reduceLT, Int.reduceLE]
  by_cases hda : e.data = []
  rotate_left
  · have eb : madeB e false true false false false false false = false := by simp only [madeB, hz1, hgo, hba, hof, hda, decide_true, decide_false, Bool.or_false, Bool.false_or, Bool.true_or, Bool.and_true, Bool.true_and, Bool.and_false, Bool.false_and, Bool.and_self, Bool.or_self]
    (try simp only [brK_e, gdK_e, skK_e, gdA_e, skA_e, pkK_e]); simp (maxSteps := 10000000) (disch := omega) only [ir85, evE_len, hz1, hgo, hba, hof, hda, eb, go_sem, ↓reduceIte, Nat.reduceEqDiff, Nat.reduceSub, Nat.reduceLeDiff, Nat.reduceAdd, Int.reduceEq, Int.reduceLT, Int.reduceLE]
    refine call_with (okZeroR _ _) ?_
    (try simp only [brK_e, gdK_e, skK_e, gdA_e, skA_e, pkK_e]); simp (maxSteps := 10000000) (disch := omega) only [evE_len, hz1, hgo, hba, hof, hda, eb, go_sem, ↓reduceIte, Nat.reduceEqDiff, Nat.reduceSub, Nat.reduceLeDiff, Nat.reduceAdd, Int.reduceEq, Int.reduceLT, Int.reduceLE]
  by_cases hwa : e.ward = 0
  rotate_left
  · have eb : madeB e false true false false false false false = false := by simp only [madeB, hz1, hgo, hba, hof, hda, hwa, decide_true, decide_false, Bool.or_false, Bool.false_or, Bool.true_or, Bool.and_true, Bool.true_and, Bool.and_false, Bool.false_and, Bool.and_self, Bool.or_self]
    (try simp only [brK_e, gdK_e, skK_e, gdA_e, skA_e, pkK_e]); simp (maxSteps := 10000000) (disch := omega) only [ir85, evE_len, hz1, hgo, hba, hof, hda, hwa, eb, go_sem, ↓reduceIte, Nat.reduceEqDiff, Nat.reduceSub, Nat.reduceLeDiff, Nat.reduceAdd, Int.reduceEq, Int.reduceLT, Int.reduceLE]
    refine call_with (okZeroR _ _) ?_
    (try simp only [brK_e, gdK_e, skK_e, gdA_e, skA_e, pkK_e]); simp (maxSteps := 10000000) (disch := omega) only [evE_len, hz1, hgo, hba, hof, hda, hwa, eb, go_sem, ↓reduceIte, Nat.reduceEqDiff, Nat.reduceSub, Nat.reduceLeDiff, Nat.reduceAdd, Int.reduceEq, Int.reduceLT, Int.reduceLE]
  have eb : madeB e false true false false false false false = true := by simp only [madeB, hz1, hgo, hba, hof, hda, hwa, decide_true, decide_false, Bool.or_false, Bool.false_or, Bool.true_or, Bool.and_true, Bool.true_and, Bool.and_false, Bool.false_and, Bool.and_self, Bool.or_self]
  (try simp only [brK_e, gdK_e, skK_e, gdA_e, skA_e, pkK_e]); simp (maxSteps := 10000000) (disch := omega) only [ir85, evE_len, hz1, hgo, hba, hof, hda, hwa, eb, go_sem, ↓reduceIte, Nat.reduceEqDiff, Nat.reduceSub, Nat.reduceLeDiff, Nat.reduceAdd, Int.reduceEq, Int.reduceLT, Int.reduceLE]
  refine call_with (okZeroR _ _) ?_
  (try simp only [brK_e, gdK_e, skK_e, gdA_e, skA_e, pkK_e]); simp (maxSteps := 10000000) (disch := omega) only [evE_len, hz1, hgo, hba, hof, hda, hwa, eb, go_sem, ↓reduceIte, Nat.reduceEqDiff, Nat.reduceSub, Nat.reduceLeDiff, Nat.reduceAdd, Int.reduceEq, Int.reduceLT, Int.reduceLE]
set_option maxHeartbeats 4000000 in
theorem okMadeOBFD (e : Evt) {h d} : FunOk Try.prog 85 [.vec 21 (evE e), .pv (.b true), .pv (.b false), .pv (.b false), .pv (.b true), .pv (.b true), .pv (.b true), .pv (.b false)] h d (.pv (.b (madeB e true false false true true true false))) [] := by
  refine fun_pure mixed fn85 (by simp) rfl rfl fun F => ?_
  have hl := evE_len e
  by_cases hz2' : zeroB e.drep e.dseq = false
  · have hz2 := hz2'
    have eb : madeB e true false false true true true false = false := by simp only [madeB, hz2, decide_true, decide_false, Bool.or_false, Bool.false_or, Bool.true_or, Bool.and_true, Bool.true_and, Bool.and_false, Bool.false_and, Bool.and_self, Bool.or_self]
    (try simp only [brK_e, gdK_e, skK_e, gdA_e, skA_e, pkK_e]); simp (maxSteps := 10000000) (disch := omega) only [ir85, evE_len, hz2, eb, go_sem, ↓reduceIte, Nat.reduceEqDiff, Nat.reduceSub, Nat.reduceLeDiff, Nat.reduceAdd, Int.reduceEq, Int.reduceLT, Int.reduceLE]
    refine call_with (okZeroR _ _) ?_
    (try simp only [brK_e, gdK_e, skK_e, gdA_e, skA_e, pkK_e]); simp (maxSteps := 10000000) (disch := omega) only [evE_len, hz2, eb, go_sem, ↓reduceIte, Nat.reduceEqDiff, Nat.reduceSub, Nat.reduceLeDiff, Nat.reduceAdd, Int.reduceEq, Int.reduceLT, Int.reduceLE]
  have hz2 : zeroB e.drep e.dseq = true := by simpa using hz2'
  by_cases hnm : e.name = []
  rotate_left
  · have eb : madeB e true false false true true true false = false := by simp only [madeB, hz2, hnm, decide_true, decide_false, Bool.or_false, Bool.false_or, Bool.true_or, Bool.and_true, Bool.true_and, Bool.and_false, Bool.false_and, Bool.and_self, Bool.or_self]
    (try simp only [brK_e, gdK_e, skK_e, gdA_e, skA_e, pkK_e]); simp (maxSteps := 10000000) (disch := omega) only [ir85, evE_len, hz2, hnm, eb, go_sem, ↓reduceIte, Nat.reduceEqDiff, Nat.reduceSub, Nat.reduceLeDiff, Nat.reduceAdd, Int.reduceEq, Int.reduceLT, Int.reduceLE]
    refine call_with (okZeroR _ _) ?_
    (try simp only [brK_e, gdK_e, skK_e, gdA_e, skA_e, pkK_e]); simp (maxSteps := 10000000) (disch := omega) only [evE_len, hz2, hnm, eb, go_sem, ↓reduceIte, Nat.reduceEqDiff, Nat.reduceSub, Nat.reduceLeDiff, Nat.reduceAdd, Int.reduceEq, Int.reduceLT, Int.reduceLE]
  by_cases hgo : (e.gone.l.length : Int) = 0
  rotate_left
  · have eb : madeB e true false false true true true false = false := by simp only [madeB, hz2, hnm, hgo, decide_true, decide_false, Bool.or_false, Bool.false_or, Bool.true_or, Bool.and_true, Bool.true_and, Bool.and_false, Bool.false_and, Bool.and_self, Bool.or_self]
    (try simp only [brK_e, gdK_e, skK_e, gdA_e, skA_e, pkK_e]); simp (maxSteps := 10000000) (disch := omega) only [ir85, evE_len, hz2, hnm, hgo, eb, go_sem, ↓reduceIte, Nat.reduceEqDiff, Nat.reduceSub, Nat.reduceLeDiff, Nat.reduceAdd, Int.reduceEq, Int.reduceLT, Int.reduceLE]
    refine call_with (okZeroR _ _) ?_
    (try simp only [brK_e, gdK_e, skK_e, gdA_e, skA_e, pkK_e]); simp (maxSteps := 10000000) (disch := omega) only [evE_len, hz2, hnm, hgo, eb, go_sem, ↓reduceIte, Nat.reduceEqDiff, Nat.reduceSub, Nat.reduceLeDiff, Nat.reduceAdd, Int.reduceEq, Int.reduceLT, Int.reduceLE]
  by_cases hwa : e.ward = 0
  rotate_left
  · have eb : madeB e true false false true true true false = false := by simp only [madeB, hz2, hnm, hgo, hwa, decide_true, decide_false, Bool.or_false, Bool.false_or, Bool.true_or, Bool.and_true, Bool.true_and, Bool.and_false, Bool.false_and, Bool.and_self, Bool.or_self]
    (try simp only [brK_e, gdK_e, skK_e, gdA_e, skA_e, pkK_e]); simp (maxSteps := 10000000) (disch := omega) only [ir85, evE_len, hz2, hnm, hgo, hwa, eb, go_sem, ↓reduceIte, Nat.reduceEqDiff, Nat.reduceSub, Nat.reduceLeDiff, Nat.reduceAdd, Int.reduceEq, Int.reduceLT, Int.reduceLE]
    refine call_with (okZeroR _ _) ?_
    (try simp only [brK_e, gdK_e, skK_e, gdA_e, skA_e, pkK_e]); simp (maxSteps := 10000000) (disch := omega) only [evE_len, hz2, hnm, hgo, hwa, eb, go_sem, ↓reduceIte, Nat.reduceEqDiff, Nat.reduceSub, Nat.reduceLeDiff, Nat.reduceAdd, Int.reduceEq, Int.reduceLT, Int.reduceLE]
  have eb : madeB e true false false true true true false = true := by simp only [madeB, hz2, hnm, hgo, hwa, decide_true, decide_false, Bool.or_false, Bool.false_or, Bool.true_or, Bool.and_true, Bool.true_and, Bool.and_false, Bool.false_and, Bool.and_self, Bool.or_self]
  (try simp only [brK_e, gdK_e, skK_e, gdA_e, skA_e, pkK_e]); simp (maxSteps := 10000000) (disch := omega) only [ir85, evE_len, hz2, hnm, hgo, hwa, eb, go_sem, ↓reduceIte, Nat.reduceEqDiff, Nat.reduceSub, Nat.reduceLeDiff, Nat.reduceAdd, Int.reduceEq, Int.reduceLT, Int.reduceLE]
  refine call_with (okZeroR _ _) ?_
  (try simp only [brK_e, gdK_e, skK_e, gdA_e, skA_e, pkK_e]); simp (maxSteps := 10000000) (disch := omega) only [evE_len, hz2, hnm, hgo, hwa, eb, go_sem, ↓reduceIte, Nat.reduceEqDiff, Nat.reduceSub, Nat.reduceLeDiff, Nat.reduceAdd, Int.reduceEq, Int.reduceLT, Int.reduceLE]
set_option maxHeartbeats 4000000 in
theorem okMadeOBF (e : Evt) {h d} : FunOk Try.prog 85 [.vec 21 (evE e), .pv (.b true), .pv (.b false), .pv (.b false), .pv (.b true), .pv (.b true), .pv (.b false), .pv (.b false)] h d (.pv (.b (madeB e true false false true true false false))) [] := by
  refine fun_pure mixed fn85 (by simp) rfl rfl fun F => ?_
  have hl := evE_len e
  by_cases hz2' : zeroB e.drep e.dseq = false
  · have hz2 := hz2'
    have eb : madeB e true false false true true false false = false := by simp only [madeB, hz2, decide_true, decide_false, Bool.or_false, Bool.false_or, Bool.true_or, Bool.and_true, Bool.true_and, Bool.and_false, Bool.false_and, Bool.and_self, Bool.or_self]
    (try simp only [brK_e, gdK_e, skK_e, gdA_e, skA_e, pkK_e]); simp (maxSteps := 10000000) (disch := omega) only [ir85, evE_len, hz2, eb, go_sem, ↓reduceIte, Nat.reduceEqDiff, Nat.reduceSub, Nat.reduceLeDiff, Nat.reduceAdd, Int.reduceEq, Int.reduceLT, Int.reduceLE]
    refine call_with (okZeroR _ _) ?_
    (try simp only [brK_e, gdK_e, skK_e, gdA_e, skA_e, pkK_e]); simp (maxSteps := 10000000) (disch := omega) only [evE_len, hz2, eb, go_sem, ↓reduceIte, Nat.reduceEqDiff, Nat.reduceSub, Nat.reduceLeDiff, Nat.reduceAdd, Int.reduceEq, Int.reduceLT, Int.reduceLE]
  have hz2 : zeroB e.drep e.dseq = true := by simpa using hz2'
  by_cases hnm : e.name = []
  rotate_left
  · have eb : madeB e true false false true true false false = false := by simp only [madeB, hz2, hnm, decide_true, decide_false, Bool.or_false, Bool.false_or, Bool.true_or, Bool.and_true, Bool.true_and, Bool.and_false, Bool.false_and, Bool.and_self, Bool.or_self]
    (try simp only [brK_e, gdK_e, skK_e, gdA_e, skA_e, pkK_e]); simp (maxSteps := 10000000) (disch := omega) only [ir85, evE_len, hz2, hnm, eb, go_sem, ↓reduceIte, Nat.reduceEqDiff, Nat.reduceSub, Nat.reduceLeDiff, Nat.reduceAdd, Int.reduceEq, Int.reduceLT, Int.reduceLE]
    refine call_with (okZeroR _ _) ?_
    (try simp only [brK_e, gdK_e, skK_e, gdA_e, skA_e, pkK_e]); simp (maxSteps := 10000000) (disch := omega) only [evE_len, hz2, hnm, eb, go_sem, ↓reduceIte, Nat.reduceEqDiff, Nat.reduceSub, Nat.reduceLeDiff, Nat.reduceAdd, Int.reduceEq, Int.reduceLT, Int.reduceLE]
  by_cases hgo : (e.gone.l.length : Int) = 0
  rotate_left
  · have eb : madeB e true false false true true false false = false := by simp only [madeB, hz2, hnm, hgo, decide_true, decide_false, Bool.or_false, Bool.false_or, Bool.true_or, Bool.and_true, Bool.true_and, Bool.and_false, Bool.false_and, Bool.and_self, Bool.or_self]
    (try simp only [brK_e, gdK_e, skK_e, gdA_e, skA_e, pkK_e]); simp (maxSteps := 10000000) (disch := omega) only [ir85, evE_len, hz2, hnm, hgo, eb, go_sem, ↓reduceIte, Nat.reduceEqDiff, Nat.reduceSub, Nat.reduceLeDiff, Nat.reduceAdd, Int.reduceEq, Int.reduceLT, Int.reduceLE]
    refine call_with (okZeroR _ _) ?_
    (try simp only [brK_e, gdK_e, skK_e, gdA_e, skA_e, pkK_e]); simp (maxSteps := 10000000) (disch := omega) only [evE_len, hz2, hnm, hgo, eb, go_sem, ↓reduceIte, Nat.reduceEqDiff, Nat.reduceSub, Nat.reduceLeDiff, Nat.reduceAdd, Int.reduceEq, Int.reduceLT, Int.reduceLE]
  by_cases hda : e.data = []
  rotate_left
  · have eb : madeB e true false false true true false false = false := by simp only [madeB, hz2, hnm, hgo, hda, decide_true, decide_false, Bool.or_false, Bool.false_or, Bool.true_or, Bool.and_true, Bool.true_and, Bool.and_false, Bool.false_and, Bool.and_self, Bool.or_self]
    (try simp only [brK_e, gdK_e, skK_e, gdA_e, skA_e, pkK_e]); simp (maxSteps := 10000000) (disch := omega) only [ir85, evE_len, hz2, hnm, hgo, hda, eb, go_sem, ↓reduceIte, Nat.reduceEqDiff, Nat.reduceSub, Nat.reduceLeDiff, Nat.reduceAdd, Int.reduceEq, Int.reduceLT, Int.reduceLE]
    refine call_with (okZeroR _ _) ?_
    (try simp only [brK_e, gdK_e, skK_e, gdA_e, skA_e, pkK_e]); simp (maxSteps := 10000000) (disch := omega) only [evE_len, hz2, hnm, hgo, hda, eb, go_sem, ↓reduceIte, Nat.reduceEqDiff, Nat.reduceSub, Nat.reduceLeDiff, Nat.reduceAdd, Int.reduceEq, Int.reduceLT, Int.reduceLE]
  by_cases hwa : e.ward = 0
  rotate_left
  · have eb : madeB e true false false true true false false = false := by simp only [madeB, hz2, hnm, hgo, hda, hwa, decide_true, decide_false, Bool.or_false, Bool.false_or, Bool.true_or, Bool.and_true, Bool.true_and, Bool.and_false, Bool.false_and, Bool.and_self, Bool.or_self]
    (try simp only [brK_e, gdK_e, skK_e, gdA_e, skA_e, pkK_e]); simp (maxSteps := 10000000) (disch := omega) only [ir85, evE_len, hz2, hnm, hgo, hda, hwa, eb, go_sem, ↓reduceIte, Nat.reduceEqDiff, Nat.reduceSub, Nat.reduceLeDiff, Nat.reduceAdd, Int.reduceEq, Int.reduceLT, Int.reduceLE]
    refine call_with (okZeroR _ _) ?_
    (try simp only [brK_e, gdK_e, skK_e, gdA_e, skA_e, pkK_e]); simp (maxSteps := 10000000) (disch := omega) only [evE_len, hz2, hnm, hgo, hda, hwa, eb, go_sem, ↓reduceIte, Nat.reduceEqDiff, Nat.reduceSub, Nat.reduceLeDiff, Nat.reduceAdd, Int.reduceEq, Int.reduceLT, Int.reduceLE]
  have eb : madeB e true false false true true false false = true := by simp only [madeB, hz2, hnm, hgo, hda, hwa, decide_true, decide_false, Bool.or_false, Bool.false_or, Bool.true_or, Bool.and_true, Bool.true_and, Bool.and_false, Bool.false_and, Bool.and_self, Bool.or_self]
  (try simp only [brK_e, gdK_e, skK_e, gdA_e, skA_e, pkK_e]); simp (maxSteps := 10000000) (disch := omega) only [ir85, evE_len, hz2, hnm, hgo, hda, hwa, eb, go_sem, ↓reduceIte, Nat.reduceEqDiff, Nat.reduceSub, Nat.reduceLeDiff, Nat.reduceAdd, Int.reduceEq, Int.reduceLT, Int.reduceLE]
  refine call_with (okZeroR _ _) ?_
  (try simp only [brK_e, gdK_e, skK_e, gdA_e, skA_e, pkK_e]); simp (maxSteps := 10000000) (disch := omega) only [evE_len, hz2, hnm, hgo, hda, hwa, eb, go_sem, ↓reduceIte, Nat.reduceEqDiff, Nat.reduceSub, Nat.reduceLeDiff, Nat.reduceAdd, Int.reduceEq, Int.reduceLT, Int.reduceLE]
set_option maxHeartbeats 4000000 in
theorem okMadeOBD (e : Evt) {h d} : FunOk Try.prog 85 [.vec 21 (evE e), .pv (.b true), .pv (.b false), .pv (.b false), .pv (.b true), .pv (.b false), .pv (.b true), .pv (.b false)] h d (.pv (.b (madeB e true false false true false true false))) [] := by
  refine fun_pure mixed fn85 (by simp) rfl rfl fun F => ?_
  have hl := evE_len e
  by_cases hz2' : zeroB e.drep e.dseq = false
  · have hz2 := hz2'
    have eb : madeB e true false false true false true false = false := by simp only [madeB, hz2, decide_true, decide_false, Bool.or_false, Bool.false_or, Bool.true_or, Bool.and_true, Bool.true_and, Bool.and_false, Bool.false_and, Bool.and_self, Bool.or_self]
    (try simp only [brK_e, gdK_e, skK_e, gdA_e, skA_e, pkK_e]); simp (maxSteps := 10000000) (disch := omega) only [ir85, evE_len, hz2, eb, go_sem, ↓reduceIte, Nat.reduceEqDiff, Nat.reduceSub, Nat.reduceLeDiff, Nat.reduceAdd, Int.reduceEq, Int.reduceLT, Int.reduceLE]
    refine call_with (okZeroR _ _) ?_
    (try simp only [brK_e, gdK_e, skK_e, gdA_e, skA_e, pkK_e]); simp (maxSteps := 10000000) (disch := omega) only [evE_len, hz2, eb, go_sem, ↓reduceIte, Nat.reduceEqDiff, Nat.reduceSub, Nat.reduceLeDiff, Nat.reduceAdd, Int.reduceEq, Int.reduceLT, Int.reduceLE]
  have hz2 : zeroB e.drep e.dseq = true := by simpa using hz2'
  by_cases hnm : e.name = []
  rotate_left
  · have eb : madeB e true false false true false true false = false := by simp only [madeB, hz2, hnm, decide_true, decide_false, Bool.or_false, Bool.false_or, Bool.true_or, Bool.and_true, Bool.true_and, Bool.and_false, Bool.false_and, Bool.and_self, Bool.or_self]
    (try simp only [brK_e, gdK_e, skK_e, gdA_e, skA_e, pkK_e]); simp (maxSteps := 10000000) (disch := omega) only [ir85, evE_len, hz2, hnm, eb, go_sem, ↓reduceIte, Nat.reduceEqDiff, Nat.reduceSub, Nat.reduceLeDiff, Nat.reduceAdd, Int.reduceEq, Int.reduceLT, Int.reduceLE]
    refine call_with (okZeroR _ _) ?_
    (try simp only [brK_e, gdK_e, skK_e, gdA_e, skA_e, pkK_e]); simp (maxSteps := 10000000) (disch := omega) only [evE_len, hz2, hnm, eb, go_sem, ↓reduceIte, Nat.reduceEqDiff, Nat.reduceSub, Nat.reduceLeDiff, Nat.reduceAdd, Int.reduceEq, Int.reduceLT, Int.reduceLE]
  by_cases hgo : (e.gone.l.length : Int) = 0
  rotate_left
  · have eb : madeB e true false false true false true false = false := by simp only [madeB, hz2, hnm, hgo, decide_true, decide_false, Bool.or_false, Bool.false_or, Bool.true_or, Bool.and_true, Bool.true_and, Bool.and_false, Bool.false_and, Bool.and_self, Bool.or_self]
    (try simp only [brK_e, gdK_e, skK_e, gdA_e, skA_e, pkK_e]); simp (maxSteps := 10000000) (disch := omega) only [ir85, evE_len, hz2, hnm, hgo, eb, go_sem, ↓reduceIte, Nat.reduceEqDiff, Nat.reduceSub, Nat.reduceLeDiff, Nat.reduceAdd, Int.reduceEq, Int.reduceLT, Int.reduceLE]
    refine call_with (okZeroR _ _) ?_
    (try simp only [brK_e, gdK_e, skK_e, gdA_e, skA_e, pkK_e]); simp (maxSteps := 10000000) (disch := omega) only [evE_len, hz2, hnm, hgo, eb, go_sem, ↓reduceIte, Nat.reduceEqDiff, Nat.reduceSub, Nat.reduceLeDiff, Nat.reduceAdd, Int.reduceEq, Int.reduceLT, Int.reduceLE]
  by_cases hof : e.off = 0
  rotate_left
  · have eb : madeB e true false false true false true false = false := by simp only [madeB, hz2, hnm, hgo, hof, decide_true, decide_false, Bool.or_false, Bool.false_or, Bool.true_or, Bool.and_true, Bool.true_and, Bool.and_false, Bool.false_and, Bool.and_self, Bool.or_self]
    (try simp only [brK_e, gdK_e, skK_e, gdA_e, skA_e, pkK_e]); simp (maxSteps := 10000000) (disch := omega) only [ir85, evE_len, hz2, hnm, hgo, hof, eb, go_sem, ↓reduceIte, Nat.reduceEqDiff, Nat.reduceSub, Nat.reduceLeDiff, Nat.reduceAdd, Int.reduceEq, Int.reduceLT, Int.reduceLE]
    refine call_with (okZeroR _ _) ?_
    (try simp only [brK_e, gdK_e, skK_e, gdA_e, skA_e, pkK_e]); simp (maxSteps := 10000000) (disch := omega) only [evE_len, hz2, hnm, hgo, hof, eb, go_sem, ↓reduceIte, Nat.reduceEqDiff, Nat.reduceSub, Nat.reduceLeDiff, Nat.reduceAdd, Int.reduceEq, Int.reduceLT, Int.reduceLE]
  by_cases hwa : e.ward = 0
  rotate_left
  · have eb : madeB e true false false true false true false = false := by simp only [madeB, hz2, hnm, hgo, hof, hwa, decide_true, decide_false, Bool.or_false, Bool.false_or, Bool.true_or, Bool.and_true, Bool.true_and, Bool.and_false, Bool.false_and, Bool.and_self, Bool.or_self]
    (try simp only [brK_e, gdK_e, skK_e, gdA_e, skA_e, pkK_e]); simp (maxSteps := 10000000) (disch := omega) only [ir85, evE_len, hz2, hnm, hgo, hof, hwa, eb, go_sem, ↓reduceIte, Nat.reduceEqDiff, Nat.reduceSub, Nat.reduceLeDiff, Nat.reduceAdd, Int.reduceEq, Int.reduceLT, Int.reduceLE]
    refine call_with (okZeroR _ _) ?_
    (try simp only [brK_e, gdK_e, skK_e, gdA_e, skA_e, pkK_e]); simp (maxSteps := 10000000) (disch := omega) only [evE_len, hz2, hnm, hgo, hof, hwa, eb, go_sem, ↓reduceIte, Nat.reduceEqDiff, Nat.reduceSub, Nat.reduceLeDiff, Nat.reduceAdd, Int.reduceEq, Int.reduceLT, Int.reduceLE]
  have eb : madeB e true false false true false true false = true := by simp only [madeB, hz2, hnm, hgo, hof, hwa, decide_true, decide_false, Bool.or_false, Bool.false_or, Bool.true_or, Bool.and_true, Bool.true_and, Bool.and_false, Bool.false_and, Bool.and_self, Bool.or_self]
  (try simp only [brK_e, gdK_e, skK_e, gdA_e, skA_e, pkK_e]); simp (maxSteps := 10000000) (disch := omega) only [ir85, evE_len, hz2, hnm, hgo, hof, hwa, eb, go_sem, ↓reduceIte, Nat.reduceEqDiff, Nat.reduceSub, Nat.reduceLeDiff, Nat.reduceAdd, Int.reduceEq, Int.reduceLT, Int.reduceLE]
  refine call_with (okZeroR _ _) ?_
  (try simp only [brK_e, gdK_e, skK_e, gdA_e, skA_e, pkK_e]); simp (maxSteps := 10000000) (disch := omega) only [evE_len, hz2, hnm, hgo, hof, hwa, eb, go_sem, ↓reduceIte, Nat.reduceEqDiff, Nat.reduceSub, Nat.reduceLeDiff, Nat.reduceAdd, Int.reduceEq, Int.reduceLT, Int.reduceLE]
set_option maxHeartbeats 4000000 in
theorem okMadeOG (e : Evt) {h d} : FunOk Try.prog 85 [.vec 21 (evE e), .pv (.b true), .pv (.b false), .pv (.b true), .pv (.b false), .pv (.b false), .pv (.b false), .pv (.b false)] h d (.pv (.b (madeB e true false true false false false false))) [] := by
  refine fun_pure mixed fn85 (by simp) rfl rfl fun F => ?_
  have hl := evE_len e
  by_cases hz2' : zeroB e.drep e.dseq = false
  · have hz2 := hz2'
    have eb : madeB e true false true false false false false = false := by simp only [madeB, hz2, decide_true, decide_false, Bool.or_false, Bool.false_or, Bool.true_or, Bool.and_true, Bool.true_and, Bool.and_false, Bool.false_and, Bool.and_self, Bool.or_self]
    (try simp only [brK_e, gdK_e, skK_e, gdA_e, skA_e, pkK_e]); simp (maxSteps := 10000000) (disch := omega) only [ir85, evE_len, hz2, eb, go_sem, ↓reduceIte, Nat.reduceEqDiff, Nat.reduceSub, Nat.reduceLeDiff, Nat.reduceAdd, Int.reduceEq, Int.reduceLT, Int.reduceLE]
    refine call_with (okZeroR _ _) ?_
    (try simp only [brK_e, gdK_e, skK_e, gdA_e, skA_e, pkK_e]); simp (maxSteps := 10000000) (disch := omega) only [evE_len, hz2, eb, go_sem, ↓reduceIte, Nat.reduceEqDiff, Nat.reduceSub, Nat.reduceLeDiff, Nat.reduceAdd, Int.reduceEq, Int.reduceLT, Int.reduceLE]
  have hz2 : zeroB e.drep e.dseq = true := by simpa using hz2'
  by_cases hnm : e.name = []
  rotate_left
  · have eb : madeB e true false true false false false false = false := by simp only [madeB, hz2, hnm, decide_true, decide_false, Bool.or_false, Bool.false_or, Bool.true_or, Bool.and_true, Bool.true_and, Bool.and_false, Bool.false_and, Bool.and_self, Bool.or_self]
    (try simp only [brK_e, gdK_e, skK_e, gdA_e, skA_e, pkK_e]); simp (maxSteps := 10000000) (disch := omega) only [ir85, evE_len, hz2, hnm, eb, go_sem, ↓reduceIte, Nat.reduceEqDiff, Nat.reduceSub, Nat.reduceLeDiff, Nat.reduceAdd, Int.reduceEq, Int.reduceLT, Int.reduceLE]
    refine call_with (okZeroR _ _) ?_
    (try simp only [brK_e, gdK_e, skK_e, gdA_e, skA_e, pkK_e]); simp (maxSteps := 10000000) (disch := omega) only [evE_len, hz2, hnm, eb, go_sem, ↓reduceIte, Nat.reduceEqDiff, Nat.reduceSub, Nat.reduceLeDiff, Nat.reduceAdd, Int.reduceEq, Int.reduceLT, Int.reduceLE]
  by_cases hba : (e.base.l.length : Int) = 0
  rotate_left
  · have eb : madeB e true false true false false false false = false := by simp only [madeB, hz2, hnm, hba, decide_true, decide_false, Bool.or_false, Bool.false_or, Bool.true_or, Bool.and_true, Bool.true_and, Bool.and_false, Bool.false_and, Bool.and_self, Bool.or_self]
    (try simp only [brK_e, gdK_e, skK_e, gdA_e, skA_e, pkK_e]); simp (maxSteps := 10000000) (disch := omega) only [ir85, evE_len, hz2, hnm, hba, eb, go_sem, ↓reduceIte, Nat.reduceEqDiff, Nat.reduceSub, Nat.reduceLeDiff, Nat.reduceAdd, Int.reduceEq, Int.reduceLT, Int.reduceLE]
    refine call_with (okZeroR _ _) ?_
    (try simp only [brK_e, gdK_e, skK_e, gdA_e, skA_e, pkK_e]); simp (maxSteps := 10000000) (disch := omega) only [evE_len, hz2, hnm, hba, eb, go_sem, ↓reduceIte, Nat.reduceEqDiff, Nat.reduceSub, Nat.reduceLeDiff, Nat.reduceAdd, Int.reduceEq, Int.reduceLT, Int.reduceLE]
  by_cases hof : e.off = 0
  rotate_left
  · have eb : madeB e true false true false false false false = false := by simp only [madeB, hz2, hnm, hba, hof, decide_true, decide_false, Bool.or_false, Bool.false_or, Bool.true_or, Bool.and_true, Bool.true_and, Bool.and_false, Bool.false_and, Bool.and_self, Bool.or_self]
    (try simp only [brK_e, gdK_e, skK_e, gdA_e, skA_e, pkK_e]); simp (maxSteps := 10000000) (disch := omega) only [ir85, evE_len, hz2, hnm, hba, hof, eb, go_sem, ↓reduceIte, Nat.reduceEqDiff, Nat.reduceSub, Nat.reduceLeDiff, Nat.reduceAdd, Int.reduceEq, Int.reduceLT, Int.reduceLE]
    refine call_with (okZeroR _ _) ?_
    (try simp only [brK_e, gdK_e, skK_e, gdA_e, skA_e, pkK_e]); simp (maxSteps := 10000000) (disch := omega) only [evE_len, hz2, hnm, hba, hof, eb, go_sem, ↓reduceIte, Nat.reduceEqDiff, Nat.reduceSub, Nat.reduceLeDiff, Nat.reduceAdd, Int.reduceEq, Int.reduceLT, Int.reduceLE]
  by_cases hda : e.data = []
  rotate_left
  · have eb : madeB e true false true false false false false = false := by simp only [madeB, hz2, hnm, hba, hof, hda, decide_true, decide_false, Bool.or_false, Bool.false_or, Bool.true_or, Bool.and_true, Bool.true_and, Bool.and_false, Bool.false_and, Bool.and_self, Bool.or_self]
    (try simp only [brK_e, gdK_e, skK_e, gdA_e, skA_e, pkK_e]); simp (maxSteps := 10000000) (disch := omega) only [ir85, evE_len, hz2, hnm, hba, hof, hda, eb, go_sem, ↓reduceIte, Nat.reduceEqDiff, Nat.reduceSub, Nat.reduceLeDiff, Nat.reduceAdd, Int.reduceEq, Int.reduceLT, Int.reduceLE]
    refine call_with (okZeroR _ _) ?_
    (try simp only [brK_e, gdK_e, skK_e, gdA_e, skA_e, pkK_e]); simp (maxSteps := 10000000) (disch := omega) only [evE_len, hz2, hnm, hba, hof, hda, eb, go_sem, ↓reduceIte, Nat.reduceEqDiff, Nat.reduceSub, Nat.reduceLeDiff, Nat.reduceAdd, Int.reduceEq, Int.reduceLT, Int.reduceLE]
  by_cases hwa : e.ward = 0
  rotate_left
  · have eb : madeB e true false true false false false false = false := by simp only [madeB, hz2, hnm, hba, hof, hda, hwa, decide_true, decide_false, Bool.or_false, Bool.false_or, Bool.true_or, Bool.and_true, Bool.true_and, Bool.and_false, Bool.false_and, Bool.and_self, Bool.or_self]
    (try simp only [brK_e, gdK_e, skK_e, gdA_e, skA_e, pkK_e]); simp (maxSteps := 10000000) (disch := omega) only [ir85, evE_len, hz2, hnm, hba, hof, hda, hwa, eb, go_sem, ↓reduceIte, Nat.reduceEqDiff, Nat.reduceSub, Nat.reduceLeDiff, Nat.reduceAdd, Int.reduceEq, Int.reduceLT, Int.reduceLE]
    refine call_with (okZeroR _ _) ?_
    (try simp only [brK_e, gdK_e, skK_e, gdA_e, skA_e, pkK_e]); simp (maxSteps := 10000000) (disch := omega) only [evE_len, hz2, hnm, hba, hof, hda, hwa, eb, go_sem, ↓reduceIte, Nat.reduceEqDiff, Nat.reduceSub, Nat.reduceLeDiff, Nat.reduceAdd, Int.reduceEq, Int.reduceLT, Int.reduceLE]
  have eb : madeB e true false true false false false false = true := by simp only [madeB, hz2, hnm, hba, hof, hda, hwa, decide_true, decide_false, Bool.or_false, Bool.false_or, Bool.true_or, Bool.and_true, Bool.true_and, Bool.and_false, Bool.false_and, Bool.and_self, Bool.or_self]
  (try simp only [brK_e, gdK_e, skK_e, gdA_e, skA_e, pkK_e]); simp (maxSteps := 10000000) (disch := omega) only [ir85, evE_len, hz2, hnm, hba, hof, hda, hwa, eb, go_sem, ↓reduceIte, Nat.reduceEqDiff, Nat.reduceSub, Nat.reduceLeDiff, Nat.reduceAdd, Int.reduceEq, Int.reduceLT, Int.reduceLE]
  refine call_with (okZeroR _ _) ?_
  (try simp only [brK_e, gdK_e, skK_e, gdA_e, skA_e, pkK_e]); simp (maxSteps := 10000000) (disch := omega) only [evE_len, hz2, hnm, hba, hof, hda, hwa, eb, go_sem, ↓reduceIte, Nat.reduceEqDiff, Nat.reduceSub, Nat.reduceLeDiff, Nat.reduceAdd, Int.reduceEq, Int.reduceLT, Int.reduceLE]
set_option maxHeartbeats 4000000 in
theorem okMadeODG (e : Evt) {h d} : FunOk Try.prog 85 [.vec 21 (evE e), .pv (.b true), .pv (.b true), .pv (.b true), .pv (.b false), .pv (.b false), .pv (.b false), .pv (.b false)] h d (.pv (.b (madeB e true true true false false false false))) [] := by
  refine fun_pure mixed fn85 (by simp) rfl rfl fun F => ?_
  have hl := evE_len e
  by_cases hba : (e.base.l.length : Int) = 0
  rotate_left
  · have eb : madeB e true true true false false false false = false := by simp only [madeB, hba, decide_true, decide_false, Bool.or_false, Bool.false_or, Bool.true_or, Bool.and_true, Bool.true_and, Bool.and_false, Bool.false_and, Bool.and_self, Bool.or_self]
    (try simp only [brK_e, gdK_e, skK_e, gdA_e, skA_e, pkK_e]); simp (maxSteps := 10000000) (disch := omega) only [ir85, evE_len, hba, eb, go_sem, ↓reduceIte, Nat.reduceEqDiff, Nat.reduceSub, Nat.reduceLeDiff, Nat.reduceAdd, Int.reduceEq, Int.reduceLT, Int.reduceLE]
  by_cases hof : e.off = 0
  rotate_left
  · have eb : madeB e true true true false false false false = false := by simp only [madeB, hba, hof, decide_true, decide_false, Bool.or_false, Bool.false_or, Bool.true_or, Bool.and_true, Bool.true_and, Bool.and_false, Bool.false_and, Bool.and_self, Bool.or_self]
    (try simp only [brK_e, gdK_e, skK_e, gdA_e, skA_e, pkK_e]); simp (maxSteps := 10000000) (disch := omega) only [ir85, evE_len, hba, hof, eb, go_sem, ↓reduceIte, Nat.reduceEqDiff, Nat.reduceSub, Nat.reduceLeDiff, Nat.reduceAdd, Int.reduceEq, Int.reduceLT, Int.reduceLE]
  by_cases hda : e.data = []
  rotate_left
  · have eb : madeB e true true true false false false false = false := by simp only [madeB, hba, hof, hda, decide_true, decide_false, Bool.or_false, Bool.false_or, Bool.true_or, Bool.and_true, Bool.true_and, Bool.and_false, Bool.false_and, Bool.and_self, Bool.or_self]
    (try simp only [brK_e, gdK_e, skK_e, gdA_e, skA_e, pkK_e]); simp (maxSteps := 10000000) (disch := omega) only [ir85, evE_len, hba, hof, hda, eb, go_sem, ↓reduceIte, Nat.reduceEqDiff, Nat.reduceSub, Nat.reduceLeDiff, Nat.reduceAdd, Int.reduceEq, Int.reduceLT, Int.reduceLE]
  by_cases hwa : e.ward = 0
  rotate_left
  · have eb : madeB e true true true false false false false = false := by simp only [madeB, hba, hof, hda, hwa, decide_true, decide_false, Bool.or_false, Bool.false_or, Bool.true_or, Bool.and_true, Bool.true_and, Bool.and_false, Bool.false_and, Bool.and_self, Bool.or_self]
    (try simp only [brK_e, gdK_e, skK_e, gdA_e, skA_e, pkK_e]); simp (maxSteps := 10000000) (disch := omega) only [ir85, evE_len, hba, hof, hda, hwa, eb, go_sem, ↓reduceIte, Nat.reduceEqDiff, Nat.reduceSub, Nat.reduceLeDiff, Nat.reduceAdd, Int.reduceEq, Int.reduceLT, Int.reduceLE]
  have eb : madeB e true true true false false false false = true := by simp only [madeB, hba, hof, hda, hwa, decide_true, decide_false, Bool.or_false, Bool.false_or, Bool.true_or, Bool.and_true, Bool.true_and, Bool.and_false, Bool.false_and, Bool.and_self, Bool.or_self]
  (try simp only [brK_e, gdK_e, skK_e, gdA_e, skA_e, pkK_e]); simp (maxSteps := 10000000) (disch := omega) only [ir85, evE_len, hba, hof, hda, hwa, eb, go_sem, ↓reduceIte, Nat.reduceEqDiff, Nat.reduceSub, Nat.reduceLeDiff, Nat.reduceAdd, Int.reduceEq, Int.reduceLT, Int.reduceLE]
set_option maxHeartbeats 4000000 in
theorem okMadeW (e : Evt) {h d} : FunOk Try.prog 85 [.vec 21 (evE e), .pv (.b false), .pv (.b false), .pv (.b false), .pv (.b false), .pv (.b false), .pv (.b false), .pv (.b true)] h d (.pv (.b (madeB e false false false false false false true))) [] := by
  refine fun_pure mixed fn85 (by simp) rfl rfl fun F => ?_
  have hl := evE_len e
  by_cases hz1' : zeroB e.orep e.oseq = false
  · have hz1 := hz1'
    have eb : madeB e false false false false false false true = false := by simp only [madeB, hz1, decide_true, decide_false, Bool.or_false, Bool.false_or, Bool.true_or, Bool.and_true, Bool.true_and, Bool.and_false, Bool.false_and, Bool.and_self, Bool.or_self]
    (try simp only [brK_e, gdK_e, skK_e, gdA_e, skA_e, pkK_e]); simp (maxSteps := 10000000) (disch := omega) only [ir85, evE_len, hz1, eb, go_sem, ↓reduceIte, Nat.reduceEqDiff, Nat.reduceSub, Nat.reduceLeDiff, Nat.reduceAdd, Int.reduceEq, Int.reduceLT, Int.reduceLE]
    refine call_with (okZeroR _ _) ?_
    (try simp only [brK_e, gdK_e, skK_e, gdA_e, skA_e, pkK_e]); simp (maxSteps := 10000000) (disch := omega) only [evE_len, hz1, eb, go_sem, ↓reduceIte, Nat.reduceEqDiff, Nat.reduceSub, Nat.reduceLeDiff, Nat.reduceAdd, Int.reduceEq, Int.reduceLT, Int.reduceLE]
  have hz1 : zeroB e.orep e.oseq = true := by simpa using hz1'
  by_cases hz2' : zeroB e.drep e.dseq = false
  · have hz2 := hz2'
    have eb : madeB e false false false false false false true = false := by simp only [madeB, hz1, hz2, decide_true, decide_false, Bool.or_false, Bool.false_or, Bool.true_or, Bool.and_true, Bool.true_and, Bool.and_false, Bool.false_and, Bool.and_self, Bool.or_self]
    (try simp only [brK_e, gdK_e, skK_e, gdA_e, skA_e, pkK_e]); simp (maxSteps := 10000000) (disch := omega) only [ir85, evE_len, hz1, hz2, eb, go_sem, ↓reduceIte, Nat.reduceEqDiff, Nat.reduceSub, Nat.reduceLeDiff, Nat.reduceAdd, Int.reduceEq, Int.reduceLT, Int.reduceLE]
    refine call_with (okZeroR _ _) ?_
    (try simp only [brK_e, gdK_e, skK_e, gdA_e, skA_e, pkK_e]); simp (maxSteps := 10000000) (disch := omega) only [evE_len, hz1, hz2, eb, go_sem, ↓reduceIte, Nat.reduceEqDiff, Nat.reduceSub, Nat.reduceLeDiff, Nat.reduceAdd, Int.reduceEq, Int.reduceLT, Int.reduceLE]
    refine call_with (okZeroR _ _) ?_
    (try simp only [brK_e, gdK_e, skK_e, gdA_e, skA_e, pkK_e]); simp (maxSteps := 10000000) (disch := omega) only [evE_len, hz1, hz2, eb, go_sem, ↓reduceIte, Nat.reduceEqDiff, Nat.reduceSub, Nat.reduceLeDiff, Nat.reduceAdd, Int.reduceEq, Int.reduceLT, Int.reduceLE]
  have hz2 : zeroB e.drep e.dseq = true := by simpa using hz2'
  by_cases hnm : e.name = []
  rotate_left
  · have eb : madeB e false false false false false false true = false := by simp only [madeB, hz1, hz2, hnm, decide_true, decide_false, Bool.or_false, Bool.false_or, Bool.true_or, Bool.and_true, Bool.true_and, Bool.and_false, Bool.false_and, Bool.and_self, Bool.or_self]
    (try simp only [brK_e, gdK_e, skK_e, gdA_e, skA_e, pkK_e]); simp (maxSteps := 10000000) (disch := omega) only [ir85, evE_len, hz1, hz2, hnm, eb, go_sem, ↓reduceIte, Nat.reduceEqDiff, Nat.reduceSub, Nat.reduceLeDiff, Nat.reduceAdd, Int.reduceEq, Int.reduceLT, Int.reduceLE]
    refine call_with (okZeroR _ _) ?_
    (try simp only [brK_e, gdK_e, skK_e, gdA_e, skA_e, pkK_e]); simp (maxSteps := 10000000) (disch := omega) only [evE_len, hz1, hz2, hnm, eb, go_sem, ↓reduceIte, Nat.reduceEqDiff, Nat.reduceSub, Nat.reduceLeDiff, Nat.reduceAdd, Int.reduceEq, Int.reduceLT, Int.reduceLE]
    refine call_with (okZeroR _ _) ?_
    (try simp only [brK_e, gdK_e, skK_e, gdA_e, skA_e, pkK_e]); simp (maxSteps := 10000000) (disch := omega) only [evE_len, hz1, hz2, hnm, eb, go_sem, ↓reduceIte, Nat.reduceEqDiff, Nat.reduceSub, Nat.reduceLeDiff, Nat.reduceAdd, Int.reduceEq, Int.reduceLT, Int.reduceLE]
  by_cases hgo : (e.gone.l.length : Int) = 0
  rotate_left
  · have eb : madeB e false false false false false false true = false := by simp only [madeB, hz1, hz2, hnm, hgo, decide_true, decide_false, Bool.or_false, Bool.false_or, Bool.true_or, Bool.and_true, Bool.true_and, Bool.and_false, Bool.false_and, Bool.and_self, Bool.or_self]
    (try simp only [brK_e, gdK_e, skK_e, gdA_e, skA_e, pkK_e]); simp (maxSteps := 10000000) (disch := omega) only [ir85, evE_len, hz1, hz2, hnm, hgo, eb, go_sem, ↓reduceIte, Nat.reduceEqDiff, Nat.reduceSub, Nat.reduceLeDiff, Nat.reduceAdd, Int.reduceEq, Int.reduceLT, Int.reduceLE]
    refine call_with (okZeroR _ _) ?_
    (try simp only [brK_e, gdK_e, skK_e, gdA_e, skA_e, pkK_e]); simp (maxSteps := 10000000) (disch := omega) only [evE_len, hz1, hz2, hnm, hgo, eb, go_sem, ↓reduceIte, Nat.reduceEqDiff, Nat.reduceSub, Nat.reduceLeDiff, Nat.reduceAdd, Int.reduceEq, Int.reduceLT, Int.reduceLE]
    refine call_with (okZeroR _ _) ?_
    (try simp only [brK_e, gdK_e, skK_e, gdA_e, skA_e, pkK_e]); simp (maxSteps := 10000000) (disch := omega) only [evE_len, hz1, hz2, hnm, hgo, eb, go_sem, ↓reduceIte, Nat.reduceEqDiff, Nat.reduceSub, Nat.reduceLeDiff, Nat.reduceAdd, Int.reduceEq, Int.reduceLT, Int.reduceLE]
  by_cases hba : (e.base.l.length : Int) = 0
  rotate_left
  · have eb : madeB e false false false false false false true = false := by simp only [madeB, hz1, hz2, hnm, hgo, hba, decide_true, decide_false, Bool.or_false, Bool.false_or, Bool.true_or, Bool.and_true, Bool.true_and, Bool.and_false, Bool.false_and, Bool.and_self, Bool.or_self]
    (try simp only [brK_e, gdK_e, skK_e, gdA_e, skA_e, pkK_e]); simp (maxSteps := 10000000) (disch := omega) only [ir85, evE_len, hz1, hz2, hnm, hgo, hba, eb, go_sem, ↓reduceIte, Nat.reduceEqDiff, Nat.reduceSub, Nat.reduceLeDiff, Nat.reduceAdd, Int.reduceEq, Int.reduceLT, Int.reduceLE]
    refine call_with (okZeroR _ _) ?_
    (try simp only [brK_e, gdK_e, skK_e, gdA_e, skA_e, pkK_e]); simp (maxSteps := 10000000) (disch := omega) only [evE_len, hz1, hz2, hnm, hgo, hba, eb, go_sem, ↓reduceIte, Nat.reduceEqDiff, Nat.reduceSub, Nat.reduceLeDiff, Nat.reduceAdd, Int.reduceEq, Int.reduceLT, Int.reduceLE]
    refine call_with (okZeroR _ _) ?_
    (try simp only [brK_e, gdK_e, skK_e, gdA_e, skA_e, pkK_e]); simp (maxSteps := 10000000) (disch := omega) only [evE_len, hz1, hz2, hnm, hgo, hba, eb, go_sem, ↓reduceIte, Nat.reduceEqDiff, Nat.reduceSub, Nat.reduceLeDiff, Nat.reduceAdd, Int.reduceEq, Int.reduceLT, Int.reduceLE]
  by_cases hof : e.off = 0
  rotate_left
  · have eb : madeB e false false false false false false true = false := by simp only [madeB, hz1, hz2, hnm, hgo, hba, hof, decide_true, decide_false, Bool.or_false, Bool.false_or, Bool.true_or, Bool.and_true, Bool.true_and, Bool.and_false, Bool.false_and, Bool.and_self, Bool.or_self]
    (try simp only [brK_e, gdK_e, skK_e, gdA_e, skA_e, pkK_e]); simp (maxSteps := 10000000) (disch := omega) only [ir85, evE_len, hz1, hz2, hnm, hgo, hba, hof, eb, go_sem, ↓reduceIte, Nat.reduceEqDiff, Nat.reduceSub, Nat.reduceLeDiff, Nat.reduceAdd, Int.reduceEq, Int.reduceLT, Int.reduceLE]
    refine call_with (okZeroR _ _) ?_
    (try simp only [brK_e, gdK_e, skK_e, gdA_e, skA_e, pkK_e]); simp (maxSteps := 10000000) (disch := omega) only [evE_len, hz1, hz2, hnm, hgo, hba, hof, eb, go_sem, ↓reduceIte, Nat.reduceEqDiff, Nat.reduceSub, Nat.reduceLeDiff, Nat.reduceAdd, Int.reduceEq, Int.reduceLT, Int.reduceLE]
    refine call_with (okZeroR _ _) ?_
    (try simp only [brK_e, gdK_e, skK_e, gdA_e, skA_e, pkK_e]); simp (maxSteps := 10000000) (disch := omega) only [evE_len, hz1, hz2, hnm, hgo, hba, hof, eb, go_sem, ↓reduceIte, Nat.reduceEqDiff, Nat.reduceSub, Nat.reduceLeDiff, Nat.reduceAdd, Int.reduceEq, Int.reduceLT, Int.reduceLE]
  by_cases hda : e.data = []
  rotate_left
  · have eb : madeB e false false false false false false true = false := by simp only [madeB, hz1, hz2, hnm, hgo, hba, hof, hda, decide_true, decide_false, Bool.or_false, Bool.false_or, Bool.true_or, Bool.and_true, Bool.true_and, Bool.and_false, Bool.false_and, Bool.and_self, Bool.or_self]
    (try simp only [brK_e, gdK_e, skK_e, gdA_e, skA_e, pkK_e]); simp (maxSteps := 10000000) (disch := omega) only [ir85, evE_len, hz1, hz2, hnm, hgo, hba, hof, hda, eb, go_sem, ↓reduceIte, Nat.reduceEqDiff, Nat.reduceSub, Nat.reduceLeDiff, Nat.reduceAdd, Int.reduceEq, Int.reduceLT, Int.reduceLE]
    refine call_with (okZeroR _ _) ?_
    (try simp only [brK_e, gdK_e, skK_e, gdA_e, skA_e, pkK_e]); simp (maxSteps := 10000000) (disch := omega) only [evE_len, hz1, hz2, hnm, hgo, hba, hof, hda, eb, go_sem, ↓reduceIte, Nat.reduceEqDiff, Nat.reduceSub, Nat.reduceLeDiff, Nat.reduceAdd, Int.reduceEq, Int.reduceLT, Int.reduceLE]
    refine call_with (okZeroR _ _) ?_
    (try simp only [brK_e, gdK_e, skK_e, gdA_e, skA_e, pkK_e]); simp (maxSteps := 10000000) (disch := omega) only [evE_len, hz1, hz2, hnm, hgo, hba, hof, hda, eb, go_sem, ↓reduceIte, Nat.reduceEqDiff, Nat.reduceSub, Nat.reduceLeDiff, Nat.reduceAdd, Int.reduceEq, Int.reduceLT, Int.reduceLE]
  have eb : madeB e false false false false false false true = true := by simp only [madeB, hz1, hz2, hnm, hgo, hba, hof, hda, decide_true, decide_false, Bool.or_false, Bool.false_or, Bool.true_or, Bool.and_true, Bool.true_and, Bool.and_false, Bool.false_and, Bool.and_self, Bool.or_self]
  (try simp only [brK_e, gdK_e, skK_e, gdA_e, skA_e, pkK_e]); simp (maxSteps := 10000000) (disch := omega) only [ir85, evE_len, hz1, hz2, hnm, hgo, hba, hof, hda, eb, go_sem, ↓reduceIte, Nat.reduceEqDiff, Nat.reduceSub, Nat.reduceLeDiff, Nat.reduceAdd, Int.reduceEq, Int.reduceLT, Int.reduceLE]
  refine call_with (okZeroR _ _) ?_
  (try simp only [brK_e, gdK_e, skK_e, gdA_e, skA_e, pkK_e]); simp (maxSteps := 10000000) (disch := omega) only [evE_len, hz1, hz2, hnm, hgo, hba, hof, hda, eb, go_sem, ↓reduceIte, Nat.reduceEqDiff, Nat.reduceSub, Nat.reduceLeDiff, Nat.reduceAdd, Int.reduceEq, Int.reduceLT, Int.reduceLE]
  refine call_with (okZeroR _ _) ?_
  (try simp only [brK_e, gdK_e, skK_e, gdA_e, skA_e, pkK_e]); simp (maxSteps := 10000000) (disch := omega) only [evE_len, hz1, hz2, hnm, hgo, hba, hof, hda, eb, go_sem, ↓reduceIte, Nat.reduceEqDiff, Nat.reduceSub, Nat.reduceLeDiff, Nat.reduceAdd, Int.reduceEq, Int.reduceLT, Int.reduceLE]
set_option maxHeartbeats 4000000 in
theorem okMadeN (e : Evt) {h d} : FunOk Try.prog 85 [.vec 21 (evE e), .pv (.b false), .pv (.b false), .pv (.b false), .pv (.b false), .pv (.b false), .pv (.b false), .pv (.b false)] h d (.pv (.b (madeB e false false false false false false false))) [] := by
  refine fun_pure mixed fn85 (by simp) rfl rfl fun F => ?_
  have hl := evE_len e
  by_cases hz1' : zeroB e.orep e.oseq = false
  · have hz1 := hz1'
    have eb : madeB e false false false false false false false = false := by simp only [madeB, hz1, decide_true, decide_false, Bool.or_false, Bool.false_or, Bool.true_or, Bool.and_true, Bool.true_and, Bool.and_false, Bool.false_and, Bool.and_self, Bool.or_self]
    (try simp only [brK_e, gdK_e, skK_e, gdA_e, skA_e, pkK_e]); simp (maxSteps := 10000000) (disch := omega) only [ir85, evE_len, hz1, eb, go_sem, ↓reduceIte, Nat.reduceEqDiff, Nat.reduceSub, Nat.reduceLeDiff, Nat.reduceAdd, Int.reduceEq, Int.reduceLT, Int.reduceLE]
    refine call_with (okZeroR _ _) ?_
    (try simp only [brK_e, gdK_e, skK_e, gdA_e, skA_e, pkK_e]); simp (maxSteps := 10000000) (disch := omega) only [evE_len, hz1, eb, go_sem, ↓reduceIte, Nat.reduceEqDiff, Nat.reduceSub, Nat.reduceLeDiff, Nat.reduceAdd, Int.reduceEq, Int.reduceLT, Int.reduceLE]
  have hz1 : zeroB e.orep e.oseq = true := by simpa using hz1'
  by_cases hz2' : zeroB e.drep e.dseq = false
  · have hz2 := hz2'
    have eb : madeB e false false false false false false false = false := by simp only [madeB, hz1, hz2, decide_true, decide_false, Bool.or_false, Bool.false_or, Bool.true_or, Bool.and_true, Bool.true_and, Bool.and_false, Bool.false_and, Bool.and_self, Bool.or_self]
    (try simp only [brK_e, gdK_e, skK_e, gdA_e, skA_e, pkK_e]); simp (maxSteps := 10000000) (disch := omega) only [ir85, evE_len, hz1, hz2, eb, go_sem, ↓reduceIte, Nat.reduceEqDiff, Nat.reduceSub, Nat.reduceLeDiff, Nat.reduceAdd, Int.reduceEq, Int.reduceLT, Int.reduceLE]
    refine call_with (okZeroR _ _) ?_
    (try simp only [brK_e, gdK_e, skK_e, gdA_e, skA_e, pkK_e]); simp (maxSteps := 10000000) (disch := omega) only [evE_len, hz1, hz2, eb, go_sem, ↓reduceIte, Nat.reduceEqDiff, Nat.reduceSub, Nat.reduceLeDiff, Nat.reduceAdd, Int.reduceEq, Int.reduceLT, Int.reduceLE]
    refine call_with (okZeroR _ _) ?_
    (try simp only [brK_e, gdK_e, skK_e, gdA_e, skA_e, pkK_e]); simp (maxSteps := 10000000) (disch := omega) only [evE_len, hz1, hz2, eb, go_sem, ↓reduceIte, Nat.reduceEqDiff, Nat.reduceSub, Nat.reduceLeDiff, Nat.reduceAdd, Int.reduceEq, Int.reduceLT, Int.reduceLE]
  have hz2 : zeroB e.drep e.dseq = true := by simpa using hz2'
  by_cases hnm : e.name = []
  rotate_left
  · have eb : madeB e false false false false false false false = false := by simp only [madeB, hz1, hz2, hnm, decide_true, decide_false, Bool.or_false, Bool.false_or, Bool.true_or, Bool.and_true, Bool.true_and, Bool.and_false, Bool.false_and, Bool.and_self, Bool.or_self]
    (try simp only [brK_e, gdK_e, skK_e, gdA_e, skA_e, pkK_e]); simp (maxSteps := 10000000) (disch := omega) only [ir85, evE_len, hz1, hz2, hnm, eb, go_sem, ↓reduceIte, Nat.reduceEqDiff, Nat.reduceSub, Nat.reduceLeDiff, Nat.reduceAdd, Int.reduceEq, Int.reduceLT, Int.reduceLE]
    refine call_with (okZeroR _ _) ?_
    (try simp only [brK_e, gdK_e, skK_e, gdA_e, skA_e, pkK_e]); simp (maxSteps := 10000000) (disch := omega) only [evE_len, hz1, hz2, hnm, eb, go_sem, ↓reduceIte, Nat.reduceEqDiff, Nat.reduceSub, Nat.reduceLeDiff, Nat.reduceAdd, Int.reduceEq, Int.reduceLT, Int.reduceLE]
    refine call_with (okZeroR _ _) ?_
    (try simp only [brK_e, gdK_e, skK_e, gdA_e, skA_e, pkK_e]); simp (maxSteps := 10000000) (disch := omega) only [evE_len, hz1, hz2, hnm, eb, go_sem, ↓reduceIte, Nat.reduceEqDiff, Nat.reduceSub, Nat.reduceLeDiff, Nat.reduceAdd, Int.reduceEq, Int.reduceLT, Int.reduceLE]
  by_cases hgo : (e.gone.l.length : Int) = 0
  rotate_left
  · have eb : madeB e false false false false false false false = false := by simp only [madeB, hz1, hz2, hnm, hgo, decide_true, decide_false, Bool.or_false, Bool.false_or, Bool.true_or, Bool.and_true, Bool.true_and, Bool.and_false, Bool.false_and, Bool.and_self, Bool.or_self]
    (try simp only [brK_e, gdK_e, skK_e, gdA_e, skA_e, pkK_e]); simp (maxSteps := 10000000) (disch := omega) only [ir85, evE_len, hz1, hz2, hnm, hgo, eb, go_sem, ↓reduceIte, Nat.reduceEqDiff, Nat.reduceSub, Nat.reduceLeDiff, Nat.reduceAdd, Int.reduceEq, Int.reduceLT, Int.reduceLE]
    refine call_with (okZeroR _ _) ?_
    (try simp only [brK_e, gdK_e, skK_e, gdA_e, skA_e, pkK_e]); simp (maxSteps := 10000000) (disch := omega) only [evE_len, hz1, hz2, hnm, hgo, eb, go_sem, ↓reduceIte, Nat.reduceEqDiff, Nat.reduceSub, Nat.reduceLeDiff, Nat.reduceAdd, Int.reduceEq, Int.reduceLT, Int.reduceLE]
    refine call_with (okZeroR _ _) ?_
    (try simp only [brK_e, gdK_e, skK_e, gdA_e, skA_e, pkK_e]); simp (maxSteps := 10000000) (disch := omega) only [evE_len, hz1, hz2, hnm, hgo, eb, go_sem, ↓reduceIte, Nat.reduceEqDiff, Nat.reduceSub, Nat.reduceLeDiff, Nat.reduceAdd, Int.reduceEq, Int.reduceLT, Int.reduceLE]
  by_cases hba : (e.base.l.length : Int) = 0
  rotate_left
  · have eb : madeB e false false false false false false false = false := by simp only [madeB, hz1, hz2, hnm, hgo, hba, decide_true, decide_false, Bool.or_false, Bool.false_or, Bool.true_or, Bool.and_true, Bool.true_and, Bool.and_false, Bool.false_and, Bool.and_self, Bool.or_self]
    (try simp only [brK_e, gdK_e, skK_e, gdA_e, skA_e, pkK_e]); simp (maxSteps := 10000000) (disch := omega) only [ir85, evE_len, hz1, hz2, hnm, hgo, hba, eb, go_sem, ↓reduceIte, Nat.reduceEqDiff, Nat.reduceSub, Nat.reduceLeDiff, Nat.reduceAdd, Int.reduceEq, Int.reduceLT, Int.reduceLE]
    refine call_with (okZeroR _ _) ?_
    (try simp only [brK_e, gdK_e, skK_e, gdA_e, skA_e, pkK_e]); simp (maxSteps := 10000000) (disch := omega) only [evE_len, hz1, hz2, hnm, hgo, hba, eb, go_sem, ↓reduceIte, Nat.reduceEqDiff, Nat.reduceSub, Nat.reduceLeDiff, Nat.reduceAdd, Int.reduceEq, Int.reduceLT, Int.reduceLE]
    refine call_with (okZeroR _ _) ?_
    (try simp only [brK_e, gdK_e, skK_e, gdA_e, skA_e, pkK_e]); simp (maxSteps := 10000000) (disch := omega) only [evE_len, hz1, hz2, hnm, hgo, hba, eb, go_sem, ↓reduceIte, Nat.reduceEqDiff, Nat.reduceSub, Nat.reduceLeDiff, Nat.reduceAdd, Int.reduceEq, Int.reduceLT, Int.reduceLE]
  by_cases hof : e.off = 0
  rotate_left
  · have eb : madeB e false false false false false false false = false := by simp only [madeB, hz1, hz2, hnm, hgo, hba, hof, decide_true, decide_false, Bool.or_false, Bool.false_or, Bool.true_or, Bool.and_true, Bool.true_and, Bool.and_false, Bool.false_and, Bool.and_self, Bool.or_self]
    (try simp only [brK_e, gdK_e, skK_e, gdA_e, skA_e, pkK_e]); simp (maxSteps := 10000000) (disch := omega) only [ir85, evE_len, hz1, hz2, hnm, hgo, hba, hof, eb, go_sem, ↓reduceIte, Nat.reduceEqDiff, Nat.reduceSub, Nat.reduceLeDiff, Nat.reduceAdd, Int.reduceEq, Int.reduceLT, Int.reduceLE]
    refine call_with (okZeroR _ _) ?_
    (try simp only [brK_e, gdK_e, skK_e, gdA_e, skA_e, pkK_e]); simp (maxSteps := 10000000) (disch := omega) only [evE_len, hz1, hz2, hnm, hgo, hba, hof, eb, go_sem, ↓reduceIte, Nat.reduceEqDiff, Nat.reduceSub, Nat.reduceLeDiff, Nat.reduceAdd, Int.reduceEq, Int.reduceLT, Int.reduceLE]
    refine call_with (okZeroR _ _) ?_
    (try simp only [brK_e, gdK_e, skK_e, gdA_e, skA_e, pkK_e]); simp (maxSteps := 10000000) (disch := omega) only [evE_len, hz1, hz2, hnm, hgo, hba, hof, eb, go_sem, ↓reduceIte, Nat.reduceEqDiff, Nat.reduceSub, Nat.reduceLeDiff, Nat.reduceAdd, Int.reduceEq, Int.reduceLT, Int.reduceLE]
  by_cases hda : e.data = []
  rotate_left
  · have eb : madeB e false false false false false false false = false := by simp only [madeB, hz1, hz2, hnm, hgo, hba, hof, hda, decide_true, decide_false, Bool.or_false, Bool.false_or, Bool.true_or, Bool.and_true, Bool.true_and, Bool.and_false, Bool.false_and, Bool.and_self, Bool.or_self]
    (try simp only [brK_e, gdK_e, skK_e, gdA_e, skA_e, pkK_e]); simp (maxSteps := 10000000) (disch := omega) only [ir85, evE_len, hz1, hz2, hnm, hgo, hba, hof, hda, eb, go_sem, ↓reduceIte, Nat.reduceEqDiff, Nat.reduceSub, Nat.reduceLeDiff, Nat.reduceAdd, Int.reduceEq, Int.reduceLT, Int.reduceLE]
    refine call_with (okZeroR _ _) ?_
    (try simp only [brK_e, gdK_e, skK_e, gdA_e, skA_e, pkK_e]); simp (maxSteps := 10000000) (disch := omega) only [evE_len, hz1, hz2, hnm, hgo, hba, hof, hda, eb, go_sem, ↓reduceIte, Nat.reduceEqDiff, Nat.reduceSub, Nat.reduceLeDiff, Nat.reduceAdd, Int.reduceEq, Int.reduceLT, Int.reduceLE]
    refine call_with (okZeroR _ _) ?_
    (try simp only [brK_e, gdK_e, skK_e, gdA_e, skA_e, pkK_e]); simp (maxSteps := 10000000) (disch := omega) only [evE_len, hz1, hz2, hnm, hgo, hba, hof, hda, eb, go_sem, ↓reduceIte, Nat.reduceEqDiff, Nat.reduceSub, Nat.reduceLeDiff, Nat.reduceAdd, Int.reduceEq, Int.reduceLT, Int.reduceLE]
  by_cases hwa : e.ward = 0
  rotate_left
  · have eb : madeB e false false false false false false false = false := by simp only [madeB, hz1, hz2, hnm, hgo, hba, hof, hda, hwa, decide_true, decide_false, Bool.or_false, Bool.false_or, Bool.true_or, Bool.and_true, Bool.true_and, Bool.and_false, Bool.false_and, Bool.and_self, Bool.or_self]
    (try simp only [brK_e, gdK_e, skK_e, gdA_e, skA_e, pkK_e]); simp (maxSteps := 10000000) (disch := omega) only [ir85, evE_len, hz1, hz2, hnm, hgo, hba, hof, hda, hwa, eb, go_sem, ↓reduceIte, Nat.reduceEqDiff, Nat.reduceSub, Nat.reduceLeDiff, Nat.reduceAdd, Int.reduceEq, Int.reduceLT, Int.reduceLE]
    refine call_with (okZeroR _ _) ?_
    (try simp only [brK_e, gdK_e, skK_e, gdA_e, skA_e, pkK_e]); simp (maxSteps := 10000000) (disch := omega) only [evE_len, hz1, hz2, hnm, hgo, hba, hof, hda, hwa, eb, go_sem, ↓reduceIte, Nat.reduceEqDiff, Nat.reduceSub, Nat.reduceLeDiff, Nat.reduceAdd, Int.reduceEq, Int.reduceLT, Int.reduceLE]
    refine call_with (okZeroR _ _) ?_
    (try simp only [brK_e, gdK_e, skK_e, gdA_e, skA_e, pkK_e]); simp (maxSteps := 10000000) (disch := omega) only [evE_len, hz1, hz2, hnm, hgo, hba, hof, hda, hwa, eb, go_sem, ↓reduceIte, Nat.reduceEqDiff, Nat.reduceSub, Nat.reduceLeDiff, Nat.reduceAdd, Int.reduceEq, Int.reduceLT, Int.reduceLE]
  have eb : madeB e false false false false false false false = true := by simp only [madeB, hz1, hz2, hnm, hgo, hba, hof, hda, hwa, decide_true, decide_false, Bool.or_false, Bool.false_or, Bool.true_or, Bool.and_true, Bool.true_and, Bool.and_false, Bool.false_and, Bool.and_self, Bool.or_self]
  (try simp only [brK_e, gdK_e, skK_e, gdA_e, skA_e, pkK_e]); simp (maxSteps := 10000000) (disch := omega) only [ir85, evE_len, hz1, hz2, hnm, hgo, hba, hof, hda, hwa, eb, go_sem, ↓reduceIte, Nat.reduceEqDiff, Nat.reduceSub, Nat.reduceLeDiff, Nat.reduceAdd, Int.reduceEq, Int.reduceLT, Int.reduceLE]
  refine call_with (okZeroR _ _) ?_
  (try simp only [brK_e, gdK_e, skK_e, gdA_e, skA_e, pkK_e]); simp (maxSteps := 10000000) (disch := omega) only [evE_len, hz1, hz2, hnm, hgo, hba, hof, hda, hwa, eb, go_sem, ↓reduceIte, Nat.reduceEqDiff, Nat.reduceSub, Nat.reduceLeDiff, Nat.reduceAdd, Int.reduceEq, Int.reduceLT, Int.reduceLE]
  refine call_with (okZeroR _ _) ?_
  (try simp only [brK_e, gdK_e, skK_e, gdA_e, skA_e, pkK_e]); simp (maxSteps := 10000000) (disch := omega) only [evE_len, hz1, hz2, hnm, hgo, hba, hof, hda, hwa, eb, go_sem, ↓reduceIte, Nat.reduceEqDiff, Nat.reduceSub, Nat.reduceLeDiff, Nat.reduceAdd, Int.reduceEq, Int.reduceLT, Int.reduceLE]
end Go.Proofs.Ytmeecblciegkkaa.Fw
namespace Go.Proofs.Ytmeecblciegkkaa.Fw
open Go.RowKit Go.Proofs
/-! Texts that may be names. -/
theorem ImpB_it (l p l' p') : ImpB (.it l p) (.it l' p') = (l = l' ∧ p = p') := (rfl)
attribute [go_sem] ImpB_it
def okChB (b : UInt8) : Bool := decide ((97 ≤ b.toNat ∧ b.toNat ≤ 122) ∨ (65 ≤ b.toNat ∧ b.toNat ≤ 90) ∨ (48 ≤ b.toNat ∧ b.toNat ≤ 57) ∨ b.toNat = 46 ∨ b.toNat = 95 ∨ b.toNat = 45)
def nameB (s : List UInt8) : Bool := decide (1 ≤ s.length ∧ s.length ≤ 12 ∧ s ≠ [46] ∧ s ≠ [46, 46]) && s.all okChB
theorem dec_ascii {s : List UInt8} {pos : Nat} (h : pos < s.length) (ha : (s.getD pos 0).toNat < 128) : decL s pos = ((s.getD pos 0).toNat, 1) := by
  have hs : pos < (⟨s.toArray⟩ : ByteArray).size := by simpa [ByteArray.size] using h
  have e : (⟨s.toArray⟩ : ByteArray)[pos]'hs = s.getD pos 0 := by
    rw [List.getD_eq_getElem?_getD, List.getElem?_eq_getElem h]; rfl
  have := decode_ascii ⟨s.toArray⟩ pos hs (by rw [e]; exact ha)
  unfold decL
  rw [this, e]
theorem dec_big {s : List UInt8} {pos : Nat} (h : pos < s.length) (ha : ¬ (s.getD pos 0).toNat < 128) : 128 ≤ (decL s pos).1 ∧ (decL s pos).1 < 2147483648 := by
  have hs : pos < (⟨s.toArray⟩ : ByteArray).size := by simpa [ByteArray.size] using h
  have e : (⟨s.toArray⟩ : ByteArray).get! (pos + 0) = s.getD pos 0 := by
    show (⟨s.toArray⟩ : ByteArray).get! pos = _
    have : (⟨s.toArray⟩ : ByteArray)[pos]'hs = s.getD pos 0 := by
      rw [List.getD_eq_getElem?_getD, List.getElem?_eq_getElem h]; rfl
    rw [← this]
    show (s.toArray)[pos]! = (s.toArray)[pos]
    rw [getElem!_pos]
  unfold decL Utf8.decode
  simp only [e, ha, if_false]
  unfold Utf8.runeError
  split
  · split
    · simp only; omega
    · simp
  · split
    · split
      · rename_i hc; simp only [Bool.and_eq_true, decide_eq_true_eq] at hc ⊢; omega
      · simp
    · split
      · split
        · rename_i hc; simp only [Bool.and_eq_true, decide_eq_true_eq] at hc ⊢; omega
        · simp
      · simp
theorem enc_last (n : Nat) (h : 128 ≤ n) : (encL n).length ≤ 4 ∧ 2 ≤ (encL n).length ∧ 128 ≤ ((encL n).getD ((encL n).length - 1) 0).toNat := by
  have key : ∀ c : Nat, 128 ≤ c → ∀ l : List UInt8, l = (if c < 0x80 then [UInt8.ofNat c] else if c < 0x800 then [UInt8.ofNat (0xC0 + c / 64), UInt8.ofNat (0x80 + c % 64)] else if c < 0x10000 then [UInt8.ofNat (0xE0 + c / 4096), UInt8.ofNat (0x80 + c / 64 % 64), UInt8.ofNat (0x80 + c % 64)] else [UInt8.ofNat (0xF0 + c / 262144), UInt8.ofNat (0x80 + c / 4096 % 64), UInt8.ofNat (0x80 + c / 64 % 64), UInt8.ofNat (0x80 + c % 64)]) → l.length ≤ 4 ∧ 2 ≤ l.length ∧ 128 ≤ (l.getD (l.length - 1) 0).toNat := by
    intro c hc l hl
    have hb : 128 ≤ (UInt8.ofNat (0x80 + c % 64)).toNat := by rw [UInt8.toNat_ofNat']; omega
    rw [if_neg (by omega)] at hl
    split at hl
    · subst hl; exact ⟨by simp, by simp, hb⟩
    · split at hl
      · subst hl; exact ⟨by simp, by simp, hb⟩
      · subst hl; exact ⟨by simp, by simp, hb⟩
  refine key (if Utf8.valid (n : Int) then n else 0xFFFD) (by split <;> omega) _ ?_
  unfold encL Utf8.encode Utf8.runeError
  simp only [Int.toNat_natCast]
  generalize (if Utf8.valid (n : Int) = true then n else 0xFFFD) = c
  split
  · rfl
  · split
    · rfl
    · split <;> rfl
theorem okIBS (s : List UInt8) (c : UInt8) {h} : ExtOk Try.prog 139 [.pv (.s s), .pv (.i .u8 c.toNat)] h (.pv (.i .i64 (Lib.indexByte s c))) := by
  intro F N ρ st a w hR hh vs hc
  simp only [ConcL] at hc
  obtain ⟨v, us, rfl, hv, u, us', rfl, hu, rfl⟩ := hc
  have hv := inv_s hv
  have hu := inv_i hu
  subst hv; subst hu
  refine ⟨_, ?_, conc_i⟩
  rw [run_callFunc_extern (fn := (Try.prog.funcs[139]?).getD default) (by kernel_rfl) (by kernel_rfl) (by kernel_rfl) (by kernel_rfl) (e := Extern.BytealgIndexByte.indexByte) (by kernel_rfl)]
  rw [Lib.run_indexByteString]
  simp
theorem okIBL (s : List UInt8) (c : UInt8) {h d} : FunOk Try.prog 137 [.pv (.s s), .pv (.i .u8 c.toNat)] h d (.pv (.i .i64 (Lib.indexByte s c))) [] := by
  refine fun_pure mixed fn137 (by simp) rfl rfl fun F => ?_
  (try simp only [brK_e, gdK_e, skK_e, gdA_e, skA_e, pkK_e]); simp (maxSteps := 10000000) (disch := omega) only [ir137, go_sem, ↓reduceIte, Nat.reduceEqDiff, Nat.reduceSub, Nat.reduceLeDiff, Nat.reduceAdd, Int.reduceEq, Int.reduceLT, Int.reduceLE]
  refine call_ext (okIBS s c) ?_
  (try simp only [brK_e, gdK_e, skK_e, gdA_e, skA_e, pkK_e]); simp (maxSteps := 10000000) (disch := omega) only [go_sem, ↓reduceIte, Nat.reduceEqDiff, Nat.reduceSub, Nat.reduceLeDiff, Nat.reduceAdd, Int.reduceEq, Int.reduceLT, Int.reduceLE]
theorem okIB (s : List UInt8) (c : UInt8) {h d} : FunOk Try.prog 127 [.pv (.s s), .pv (.i .u8 c.toNat)] h d (.pv (.i .i64 (Lib.indexByte s c))) [] := by
  refine fun_pure mixed fn127 (by simp) rfl rfl fun F => ?_
  (try simp only [brK_e, gdK_e, skK_e, gdA_e, skA_e, pkK_e]); simp (maxSteps := 10000000) (disch := omega) only [ir127, go_sem, ↓reduceIte, Nat.reduceEqDiff, Nat.reduceSub, Nat.reduceLeDiff, Nat.reduceAdd, Int.reduceEq, Int.reduceLT, Int.reduceLE]
  refine call_with (okIBL s c) ?_
  (try simp only [brK_e, gdK_e, skK_e, gdA_e, skA_e, pkK_e]); simp (maxSteps := 10000000) (disch := omega) only [go_sem, ↓reduceIte, Nat.reduceEqDiff, Nat.reduceSub, Nat.reduceLeDiff, Nat.reduceAdd, Int.reduceEq, Int.reduceLT, Int.reduceLE]
def validB (n : Nat) : Bool := decide (n < 55296 ∨ 57343 < n ∧ n ≤ 1114111)
theorem okValid (n : Nat) {h d} : FunOk Try.prog 128 [.pv (.i .i32 n)] h d (.pv (.b (validB n))) [] := by
  refine fun_pure mixed fn128 (by simp) rfl rfl fun F => ?_
  have h0 : (0 : Int) ≤ n := by omega
  by_cases h1 : (n : Int) < 55296
  · have e : validB n = true := decide_eq_true (by omega)
    (try simp only [brK_e, gdK_e, skK_e, gdA_e, skA_e, pkK_e]); simp (maxSteps := 10000000) (disch := omega) only [ir128, h0, h1, e, go_sem, ↓reduceIte, Nat.reduceEqDiff, Nat.reduceSub, Nat.reduceLeDiff, Nat.reduceAdd, Int.reduceEq, Int.reduceLT, Int.reduceLE]
  by_cases h2 : (57343 : Int) < n
  · by_cases h3 : (n : Int) ≤ 1114111
    · have e : validB n = true := decide_eq_true (by omega)
      (try simp only [brK_e, gdK_e, skK_e, gdA_e, skA_e, pkK_e]); simp (maxSteps := 10000000) (disch := omega) only [ir128, h0, h1, h2, h3, e, go_sem, ↓reduceIte, Nat.reduceEqDiff, Nat.reduceSub, Nat.reduceLeDiff, Nat.reduceAdd, Int.reduceEq, Int.reduceLT, Int.reduceLE]
    · have e : validB n = false := decide_eq_false (by omega)
      (try simp only [brK_e, gdK_e, skK_e, gdA_e, skA_e, pkK_e]); simp (maxSteps := 10000000) (disch := omega) only [ir128, h0, h1, h2, h3, e, go_sem, ↓reduceIte, Nat.reduceEqDiff, Nat.reduceSub, Nat.reduceLeDiff, Nat.reduceAdd, Int.reduceEq, Int.reduceLT, Int.reduceLE]
  · have e : validB n = false := decide_eq_false (by omega)
    (try simp only [brK_e, gdK_e, skK_e, gdA_e, skA_e, pkK_e]); simp (maxSteps := 10000000) (disch := omega) only [ir128, h0, h1, h2, e, go_sem, ↓reduceIte, Nat.reduceEqDiff, Nat.reduceSub, Nat.reduceLeDiff, Nat.reduceAdd, Int.reduceEq, Int.reduceLT, Int.reduceLE]
/-- where a rune is in "._-" -/
def ixD (n : Nat) : Int := if n < 128 then Lib.indexByte [46, 95, 45] (UInt8.ofNat n) else -1
def stFFFD (k : Nat) : FS := mk [(175, .p 175 0), (0, .pv (.s [46, 95, 45]))] [(175, some (.it [46, 95, 45] k))]
def stDef (rs : List UInt8) (i : Int) (_ : Unit) : FS := mk [(9, .pv (.i .i64 i)), (8, .pv (.i .i64 i)), (7, .pv (.s rs)), (10, .pv (.i .i64 0)), (0, .pv (.s [46, 95, 45]))] []
theorem enc_shape (n : Nat) (h : 128 ≤ n) : (∃ a b, encL n = [a, b] ∧ 128 ≤ b.toNat) ∨ (∃ a b c, encL n = [a, b, c] ∧ 128 ≤ c.toNat) ∨ (∃ a b c d, encL n = [a, b, c, d] ∧ 128 ≤ d.toNat) := by
  obtain ⟨h1, h2, h3⟩ := enc_last n h
  generalize encL n = l at *
  match l, h1, h2, h3 with
  | [a, b], _, _, h3 => exact .inl ⟨a, b, rfl, h3⟩
  | [a, b, c], _, _, h3 => exact .inr (.inl ⟨a, b, c, rfl, h3⟩)
  | [a, b, c, d], _, _, h3 => exact .inr (.inr ⟨a, b, c, d, rfl, h3⟩)
  | [], _, h2, _ => simp at h2
  | [a], _, h2, _ => simp at h2
  | a :: b :: c :: d :: e :: r, h1, _, _ => simp at h1
theorem ib_none {s : List UInt8} {b : UInt8} (h : s = [95, 45] ∨ s = [45] ∨ s = []) (hb : 128 ≤ b.toNat) : Lib.indexByte s b = -1 := by
  have ne : ∀ c : UInt8, c.toNat < 128 → (c == b) = false := fun c hc => by
    rw [beq_eq_false_iff_ne]; intro e; subst e; omega
  rcases h with rfl | rfl | rfl <;> simp [Lib.indexByte, ne 95 (by decide), ne 45 (by decide)]
set_option maxHeartbeats 4000000 in
theorem okIndexRune (n : Nat) (hn : n < 2147483648) {h d} : FunOk Try.prog 120 [.pv (.s [46, 95, 45]), .pv (.i .i32 n)] h d (.pv (.i .i64 (ixD n))) [] := by
  refine fun_pure mixed fn120 (by simp) rfl rfl fun F => ?_
  have h0 : (0 : Int) ≤ n := by omega
  by_cases h1 : (n : Int) < 128
  · have e : ixD n = Lib.indexByte [46, 95, 45] (UInt8.ofNat n) := by unfold ixD; rw [if_pos (by omega)]
    have ew : IntKind.u8.wrap (n : Int) = ((UInt8.ofNat n).toNat : Int) := wrap_u8_nat _
    (try simp only [brK_e, gdK_e, skK_e, gdA_e, skA_e, pkK_e]); simp (maxSteps := 10000000) (disch := omega) only [ir120, h0, h1, ew, go_sem, ↓reduceIte, Nat.reduceEqDiff, Nat.reduceSub, Nat.reduceLeDiff, Nat.reduceAdd, Int.reduceEq, Int.reduceLT, Int.reduceLE]
    refine call_with (okIB _ _) ?_
    (try simp only [brK_e, gdK_e, skK_e, gdA_e, skA_e, pkK_e]); simp (maxSteps := 10000000) (disch := omega) only [e, go_sem, ↓reduceIte, Nat.reduceEqDiff, Nat.reduceSub, Nat.reduceLeDiff, Nat.reduceAdd, Int.reduceEq, Int.reduceLT, Int.reduceLE]
  have e : ixD n = -1 := by unfold ixD; rw [if_neg (by omega)]
  by_cases h2 : (n : Int) = 65533
  · (try simp only [brK_e, gdK_e, skK_e, gdA_e, skA_e, pkK_e]); simp (maxSteps := 10000000) (disch := omega) only [ir120, h0, h1, h2, go_sem, ↓reduceIte, Nat.reduceEqDiff, Nat.reduceSub, Nat.reduceLeDiff, Nat.reduceAdd, Int.reduceEq, Int.reduceLT, Int.reduceLE]
    have hl3 : (([46, 95, 45] : List UInt8).length) = 3 := rfl
    have d0 : decL [46, 95, 45] 0 = (46, 1) := by decide
    have d1 : decL [46, 95, 45] 1 = (95, 1) := by decide
    have d2 : decL [46, 95, 45] 2 = (45, 1) := by decide
    refine loop_ok mixed stFFFD (fun k => k ≤ 3) (fun k => 3 - k) 0 (by omega) (weak_mk ?_ ?_) fun k hk => ?_
    · (try simp only [brK_e, gdK_e, skK_e, gdA_e, skA_e, pkK_e]); simp (maxSteps := 10000000) (disch := omega) only [go_sem, ↓reduceIte, Nat.reduceEqDiff, Nat.reduceSub, Nat.reduceLeDiff, Nat.reduceAdd, Int.reduceEq, Int.reduceLT, Int.reduceLE]
    · (try simp only [brK_e, gdK_e, skK_e, gdA_e, skA_e, pkK_e]); simp (maxSteps := 10000000) (disch := omega) only [go_sem, ↓reduceIte, Nat.reduceEqDiff, Nat.reduceSub, Nat.reduceLeDiff, Nat.reduceAdd, Int.reduceEq, Int.reduceLT, Int.reduceLE]
    by_cases hlt : k < 3
    · have : k = 0 ∨ k = 1 ∨ k = 2 := by omega
      rcases this with rfl | rfl | rfl
      all_goals (try simp only [brK_e, gdK_e, skK_e, gdA_e, skA_e, pkK_e]); simp (maxSteps := 10000000) (disch := omega) only [stFFFD, hl3, d0, d1, d2, go_sem, ↓reduceIte, Nat.reduceEqDiff, Nat.reduceSub, Nat.reduceLeDiff, Nat.reduceAdd, Int.reduceEq, Int.reduceLT, Int.reduceLE]
      · refine loop_next (x := (0 : Nat)) (1 : Nat) _ _ rfl (by omega) (by omega) ?_ ?_
        · (try simp only [brK_e, gdK_e, skK_e, gdA_e, skA_e, pkK_e]); simp (maxSteps := 10000000) (disch := omega) only [go_sem, ↓reduceIte, Nat.reduceEqDiff, Nat.reduceSub, Nat.reduceLeDiff, Nat.reduceAdd, Int.reduceEq, Int.reduceLT, Int.reduceLE]
        · (try simp only [brK_e, gdK_e, skK_e, gdA_e, skA_e, pkK_e]); simp (maxSteps := 10000000) (disch := omega) only [go_sem, ↓reduceIte, Nat.reduceEqDiff, Nat.reduceSub, Nat.reduceLeDiff, Nat.reduceAdd, Int.reduceEq, Int.reduceLT, Int.reduceLE]
      · refine loop_next (x := (1 : Nat)) (2 : Nat) _ _ rfl (by omega) (by omega) ?_ ?_
        · (try simp only [brK_e, gdK_e, skK_e, gdA_e, skA_e, pkK_e]); simp (maxSteps := 10000000) (disch := omega) only [go_sem, ↓reduceIte, Nat.reduceEqDiff, Nat.reduceSub, Nat.reduceLeDiff, Nat.reduceAdd, Int.reduceEq, Int.reduceLT, Int.reduceLE]
        · (try simp only [brK_e, gdK_e, skK_e, gdA_e, skA_e, pkK_e]); simp (maxSteps := 10000000) (disch := omega) only [go_sem, ↓reduceIte, Nat.reduceEqDiff, Nat.reduceSub, Nat.reduceLeDiff, Nat.reduceAdd, Int.reduceEq, Int.reduceLT, Int.reduceLE]
      · refine loop_next (x := (2 : Nat)) (3 : Nat) _ _ rfl (by omega) (by omega) ?_ ?_
        · (try simp only [brK_e, gdK_e, skK_e, gdA_e, skA_e, pkK_e]); simp (maxSteps := 10000000) (disch := omega) only [go_sem, ↓reduceIte, Nat.reduceEqDiff, Nat.reduceSub, Nat.reduceLeDiff, Nat.reduceAdd, Int.reduceEq, Int.reduceLT, Int.reduceLE]
        · (try simp only [brK_e, gdK_e, skK_e, gdA_e, skA_e, pkK_e]); simp (maxSteps := 10000000) (disch := omega) only [go_sem, ↓reduceIte, Nat.reduceEqDiff, Nat.reduceSub, Nat.reduceLeDiff, Nat.reduceAdd, Int.reduceEq, Int.reduceLT, Int.reduceLE]
    · obtain rfl : k = 3 := by omega
      (try simp only [brK_e, gdK_e, skK_e, gdA_e, skA_e, pkK_e]); simp (maxSteps := 10000000) (disch := omega) only [stFFFD, hl3, e, go_sem, ↓reduceIte, Nat.reduceEqDiff, Nat.reduceSub, Nat.reduceLeDiff, Nat.reduceAdd, Int.reduceEq, Int.reduceLT, Int.reduceLE]
  · (try simp only [brK_e, gdK_e, skK_e, gdA_e, skA_e, pkK_e]); simp (maxSteps := 10000000) (disch := omega) only [ir120, h0, h1, h2, go_sem, ↓reduceIte, Nat.reduceEqDiff, Nat.reduceSub, Nat.reduceLeDiff, Nat.reduceAdd, Int.reduceEq, Int.reduceLT, Int.reduceLE]
    refine call_with (okValid n) ?_
    cases hv : validB n with
    | false => (try simp only [brK_e, gdK_e, skK_e, gdA_e, skA_e, pkK_e]); simp (maxSteps := 10000000) (disch := omega) only [hv, e, go_sem, ↓reduceIte, Nat.reduceEqDiff, Nat.reduceSub, Nat.reduceLeDiff, Nat.reduceAdd, Int.reduceEq, Int.reduceLT, Int.reduceLE]
    | true =>
      have hl3 : (([46, 95, 45] : List UInt8).length : Int) = 3 := rfl
      rcases enc_shape n (by omega) with ⟨a, b, he, hb⟩ | ⟨a, b, c, he, hb⟩ | ⟨a, b, c, d, he, hb⟩
      ·
        have hlen : (([a, b] : List UInt8).length : Int) = 2 := rfl
        have hg : ((([46, 95, 45] : List UInt8).getD (Int.toNat 1) 0).toNat : Int) = 95 := rfl
        have hg' : ([a, b] : List UInt8).getD (Int.toNat 1) 0 = b := rfl
        have hne : ¬ (95 : Int) = (b.toNat : Int) := by omega
        have hdr : List.drop ((1 : Int) + 1).toNat (List.take 3 ([46, 95, 45] : List UInt8)) = [45] := rfl
        have hib : Lib.indexByte [45] b = -1 := ib_none (by simp) hb
        (try simp only [brK_e, gdK_e, skK_e, gdA_e, skA_e, pkK_e]); simp (maxSteps := 10000000) (disch := omega) only [hv, he, hlen, go_sem, ↓reduceIte, Nat.reduceEqDiff, Nat.reduceSub, Nat.reduceLeDiff, Nat.reduceAdd, Int.reduceEq, Int.reduceLT, Int.reduceLE]
        refine loop_ok mixed (stDef [a, b] 1) (fun _ => True) (fun _ => 0) () trivial (weak_mk ?_ ?_) fun _ _ => ?_
        · (try simp only [brK_e, gdK_e, skK_e, gdA_e, skA_e, pkK_e]); simp (maxSteps := 10000000) (disch := omega) only [go_sem, ↓reduceIte, Nat.reduceEqDiff, Nat.reduceSub, Nat.reduceLeDiff, Nat.reduceAdd, Int.reduceEq, Int.reduceLT, Int.reduceLE]
        · (try simp only [brK_e, gdK_e, skK_e, gdA_e, skA_e, pkK_e]); simp (maxSteps := 10000000) (disch := omega) only [go_sem, ↓reduceIte, Nat.reduceEqDiff, Nat.reduceSub, Nat.reduceLeDiff, Nat.reduceAdd, Int.reduceEq, Int.reduceLT, Int.reduceLE]
        (try simp only [brK_e, gdK_e, skK_e, gdA_e, skA_e, pkK_e]); simp (maxSteps := 10000000) (disch := omega) only [stDef, hl3, hlen, hg, hg', hne, hdr, go_sem, ↓reduceIte, Nat.reduceEqDiff, Nat.reduceSub, Nat.reduceLeDiff, Nat.reduceAdd, Int.reduceEq, Int.reduceLT, Int.reduceLE]
        refine call_with (okIB [45] b) ?_
        (try simp only [brK_e, gdK_e, skK_e, gdA_e, skA_e, pkK_e]); simp (maxSteps := 10000000) (disch := omega) only [hib, e, go_sem, ↓reduceIte, Nat.reduceEqDiff, Nat.reduceSub, Nat.reduceLeDiff, Nat.reduceAdd, Int.reduceEq, Int.reduceLT, Int.reduceLE]
      ·
        have hlen : (([a, b, c] : List UInt8).length : Int) = 3 := rfl
        have hg : ((([46, 95, 45] : List UInt8).getD (Int.toNat 2) 0).toNat : Int) = 45 := rfl
        have hg' : ([a, b, c] : List UInt8).getD (Int.toNat 2) 0 = c := rfl
        have hne : ¬ (45 : Int) = (c.toNat : Int) := by omega
        have hdr : List.drop ((2 : Int) + 1).toNat (List.take 3 ([46, 95, 45] : List UInt8)) = [] := rfl
        have hib : Lib.indexByte [] c = -1 := ib_none (by simp) hb
        (try simp only [brK_e, gdK_e, skK_e, gdA_e, skA_e, pkK_e]); simp (maxSteps := 10000000) (disch := omega) only [hv, he, hlen, go_sem, ↓reduceIte, Nat.reduceEqDiff, Nat.reduceSub, Nat.reduceLeDiff, Nat.reduceAdd, Int.reduceEq, Int.reduceLT, Int.reduceLE]
        refine loop_ok mixed (stDef [a, b, c] 2) (fun _ => True) (fun _ => 0) () trivial (weak_mk ?_ ?_) fun _ _ => ?_
        · (try simp only [brK_e, gdK_e, skK_e, gdA_e, skA_e, pkK_e]); simp (maxSteps := 10000000) (disch := omega) only [go_sem, ↓reduceIte, Nat.reduceEqDiff, Nat.reduceSub, Nat.reduceLeDiff, Nat.reduceAdd, Int.reduceEq, Int.reduceLT, Int.reduceLE]
        · (try simp only [brK_e, gdK_e, skK_e, gdA_e, skA_e, pkK_e]); simp (maxSteps := 10000000) (disch := omega) only [go_sem, ↓reduceIte, Nat.reduceEqDiff, Nat.reduceSub, Nat.reduceLeDiff, Nat.reduceAdd, Int.reduceEq, Int.reduceLT, Int.reduceLE]
        (try simp only [brK_e, gdK_e, skK_e, gdA_e, skA_e, pkK_e]); simp (maxSteps := 10000000) (disch := omega) only [stDef, hl3, hlen, hg, hg', hne, hdr, go_sem, ↓reduceIte, Nat.reduceEqDiff, Nat.reduceSub, Nat.reduceLeDiff, Nat.reduceAdd, Int.reduceEq, Int.reduceLT, Int.reduceLE]
        refine call_with (okIB [] c) ?_
        (try simp only [brK_e, gdK_e, skK_e, gdA_e, skA_e, pkK_e]); simp (maxSteps := 10000000) (disch := omega) only [hib, e, go_sem, ↓reduceIte, Nat.reduceEqDiff, Nat.reduceSub, Nat.reduceLeDiff, Nat.reduceAdd, Int.reduceEq, Int.reduceLT, Int.reduceLE]
      · have hlen : (([a, b, c, d] : List UInt8).length : Int) = 4 := rfl
        (try simp only [brK_e, gdK_e, skK_e, gdA_e, skA_e, pkK_e]); simp (maxSteps := 10000000) (disch := omega) only [hv, he, hlen, go_sem, ↓reduceIte, Nat.reduceEqDiff, Nat.reduceSub, Nat.reduceLeDiff, Nat.reduceAdd, Int.reduceEq, Int.reduceLT, Int.reduceLE]
        refine loop_ok mixed (stDef [a, b, c, d] 3) (fun _ => True) (fun _ => 0) () trivial (weak_mk ?_ ?_) fun _ _ => ?_
        · (try simp only [brK_e, gdK_e, skK_e, gdA_e, skA_e, pkK_e]); simp (maxSteps := 10000000) (disch := omega) only [go_sem, ↓reduceIte, Nat.reduceEqDiff, Nat.reduceSub, Nat.reduceLeDiff, Nat.reduceAdd, Int.reduceEq, Int.reduceLT, Int.reduceLE]
        · (try simp only [brK_e, gdK_e, skK_e, gdA_e, skA_e, pkK_e]); simp (maxSteps := 10000000) (disch := omega) only [go_sem, ↓reduceIte, Nat.reduceEqDiff, Nat.reduceSub, Nat.reduceLeDiff, Nat.reduceAdd, Int.reduceEq, Int.reduceLT, Int.reduceLE]
        (try simp only [brK_e, gdK_e, skK_e, gdA_e, skA_e, pkK_e]); simp (maxSteps := 10000000) (disch := omega) only [stDef, hl3, hlen, e, go_sem, ↓reduceIte, Nat.reduceEqDiff, Nat.reduceSub, Nat.reduceLeDiff, Nat.reduceAdd, Int.reduceEq, Int.reduceLT, Int.reduceLE]
end Go.Proofs.Ytmeecblciegkkaa.Fw
namespace Go.Proofs.Ytmeecblciegkkaa.Fw
open Go.RowKit Go.Proofs
def dotB (n : Nat) : Bool := decide (n = 46 ∨ n = 95 ∨ n = 45)
theorem ixD_dot (n : Nat) : decide (0 ≤ ixD n) = dotB n := by
  by_cases h : n < 128
  · have : ∀ m, m < 128 → decide (0 ≤ ixD m) = dotB m := by decide
    exact this n h
  · have e : ixD n = -1 := by unfold ixD; rw [if_neg h]
    rw [e]
    have : ¬ (n = 46 ∨ n = 95 ∨ n = 45) := by omega
    simp [dotB]; omega
theorem okContainsRune (n : Nat) (hn : n < 2147483648) {h d} : FunOk Try.prog 87 [.pv (.s [46, 95, 45]), .pv (.i .i32 n)] h d (.pv (.b (dotB n))) [] := by
  refine fun_pure mixed fn87 (by simp) rfl rfl fun F => ?_
  have e := ixD_dot n
  (try simp only [brK_e, gdK_e, skK_e, gdA_e, skA_e, pkK_e]); simp (maxSteps := 10000000) (disch := omega) only [ir87, go_sem, ↓reduceIte, Nat.reduceEqDiff, Nat.reduceSub, Nat.reduceLeDiff, Nat.reduceAdd, Int.reduceEq, Int.reduceLT, Int.reduceLE]
  refine call_with (okIndexRune n hn) ?_
  (try simp only [brK_e, gdK_e, skK_e, gdA_e, skA_e, pkK_e]); simp (maxSteps := 10000000) (disch := omega) only [e, go_sem, ↓reduceIte, Nat.reduceEqDiff, Nat.reduceSub, Nat.reduceLeDiff, Nat.reduceAdd, Int.reduceEq, Int.reduceLT, Int.reduceLE]
def letB (n : Nat) : Bool := decide ((97 ≤ n ∧ n ≤ 122) ∨ (65 ≤ n ∧ n ≤ 90))
theorem okLetter (n : Nat) {h d} : FunOk Try.prog 86 [.pv (.i .i32 n)] h d (.pv (.b (letB n))) [] := by
  refine fun_pure mixed fn86 (by simp) rfl rfl fun F => ?_
  have : n < 65 ∨ (65 ≤ n ∧ n ≤ 90) ∨ (91 ≤ n ∧ n ≤ 96) ∨ (97 ≤ n ∧ n ≤ 122) ∨ 123 ≤ n := by omega
  rcases this with h1 | h1 | h1 | h1 | h1
  · have e : letB n = false := decide_eq_false (by omega)
    (try simp only [brK_e, gdK_e, skK_e, gdA_e, skA_e, pkK_e]); simp (maxSteps := 10000000) (disch := omega) only [ir86, e, go_sem, ↓reduceIte, Nat.reduceEqDiff, Nat.reduceSub, Nat.reduceLeDiff, Nat.reduceAdd, Int.reduceEq, Int.reduceLT, Int.reduceLE]
  · have e : letB n = true := decide_eq_true (by omega)
    (try simp only [brK_e, gdK_e, skK_e, gdA_e, skA_e, pkK_e]); simp (maxSteps := 10000000) (disch := omega) only [ir86, e, go_sem, ↓reduceIte, Nat.reduceEqDiff, Nat.reduceSub, Nat.reduceLeDiff, Nat.reduceAdd, Int.reduceEq, Int.reduceLT, Int.reduceLE]
  · have e : letB n = false := decide_eq_false (by omega)
    (try simp only [brK_e, gdK_e, skK_e, gdA_e, skA_e, pkK_e]); simp (maxSteps := 10000000) (disch := omega) only [ir86, e, go_sem, ↓reduceIte, Nat.reduceEqDiff, Nat.reduceSub, Nat.reduceLeDiff, Nat.reduceAdd, Int.reduceEq, Int.reduceLT, Int.reduceLE]
  · have e : letB n = true := decide_eq_true (by omega)
    (try simp only [brK_e, gdK_e, skK_e, gdA_e, skA_e, pkK_e]); simp (maxSteps := 10000000) (disch := omega) only [ir86, e, go_sem, ↓reduceIte, Nat.reduceEqDiff, Nat.reduceSub, Nat.reduceLeDiff, Nat.reduceAdd, Int.reduceEq, Int.reduceLT, Int.reduceLE]
  · have e : letB n = false := decide_eq_false (by omega)
    (try simp only [brK_e, gdK_e, skK_e, gdA_e, skA_e, pkK_e]); simp (maxSteps := 10000000) (disch := omega) only [ir86, e, go_sem, ↓reduceIte, Nat.reduceEqDiff, Nat.reduceSub, Nat.reduceLeDiff, Nat.reduceAdd, Int.reduceEq, Int.reduceLT, Int.reduceLE]
theorem name_bad {s : List UInt8} {k : Nat} (hk : k < s.length) (h : okChB (s.getD k 0) = false) : nameB s = false := by
  have hm : s.getD k 0 ∈ s := by rw [List.getD_eq_getElem?_getD, List.getElem?_eq_getElem hk]; exact List.getElem_mem hk
  unfold nameB
  rw [show s.all okChB = false from by rw [List.all_eq_false]; exact ⟨_, hm, by rw [h]; decide⟩, Bool.and_false]
theorem name_good {s : List UInt8} (h1 : 1 ≤ s.length) (h2 : s.length ≤ 12) (h3 : s ≠ [46]) (h4 : s ≠ [46, 46]) (h : ∀ k, k < s.length → okChB (s.getD k 0) = true) : nameB s = true := by
  unfold nameB
  rw [decide_eq_true ⟨h1, h2, h3, h4⟩, Bool.true_and, List.all_eq_true]
  intro b hb
  obtain ⟨k, hk, rfl⟩ := List.getElem_of_mem hb
  have := h k hk
  rwa [List.getD_eq_getElem?_getD, List.getElem?_eq_getElem hk] at this
theorem name_f {s : List UInt8} (h : ¬ (1 ≤ s.length ∧ s.length ≤ 12 ∧ s ≠ [46] ∧ s ≠ [46, 46])) : nameB s = false := by
  unfold nameB; rw [decide_eq_false h, Bool.false_and]
def stName (s : List UInt8) (k : Nat) : FS := mk [(22, .p 22 0), (0, .pv (.s s))] [(22, some (.it s k))]
set_option maxHeartbeats 4000000 in
theorem okName (s : List UInt8) {h d} : FunOk Try.prog 42 [.pv (.s s)] h d (.pv (.b (nameB s))) [] := by
  refine fun_pure mixed fn42 (by simp) rfl rfl fun F => ?_
  by_cases h1 : s = []
  · subst h1
    have e : nameB [] = false := name_f (by simp)
    have hl0 : (([] : List UInt8).length : Int) = 0 := rfl
    (try simp only [brK_e, gdK_e, skK_e, gdA_e, skA_e, pkK_e]); simp (maxSteps := 10000000) (disch := omega) only [ir42, hl0, e, go_sem, ↓reduceIte, Nat.reduceEqDiff, Nat.reduceSub, Nat.reduceLeDiff, Nat.reduceAdd, Int.reduceEq, Int.reduceLT, Int.reduceLE]
  have h1' : 1 ≤ s.length := List.length_pos_iff.2 h1
  by_cases h2 : 12 < (s.length : Int)
  · have e : nameB s = false := name_f (by omega)
    (try simp only [brK_e, gdK_e, skK_e, gdA_e, skA_e, pkK_e]); simp (maxSteps := 10000000) (disch := omega) only [ir42, h1, h2, e, go_sem, ↓reduceIte, Nat.reduceEqDiff, Nat.reduceSub, Nat.reduceLeDiff, Nat.reduceAdd, Int.reduceEq, Int.reduceLT, Int.reduceLE]
  by_cases h3 : s = [46]
  · subst h3
    have e : nameB [46] = false := name_f (fun h => h.2.2.1 rfl)
    have hl0 : (([46] : List UInt8).length : Int) = 1 := rfl
    (try simp only [brK_e, gdK_e, skK_e, gdA_e, skA_e, pkK_e]); simp (maxSteps := 10000000) (disch := omega) only [ir42, h1, hl0, e, go_sem, ↓reduceIte, Nat.reduceEqDiff, Nat.reduceSub, Nat.reduceLeDiff, Nat.reduceAdd, Int.reduceEq, Int.reduceLT, Int.reduceLE]
  by_cases h4 : s = [46, 46]
  · subst h4
    have e : nameB [46, 46] = false := name_f (fun h => h.2.2.2 rfl)
    have hl0 : (([46, 46] : List UInt8).length : Int) = 2 := rfl
    (try simp only [brK_e, gdK_e, skK_e, gdA_e, skA_e, pkK_e]); simp (maxSteps := 10000000) (disch := omega) only [ir42, h1, h3, hl0, e, go_sem, ↓reduceIte, Nat.reduceEqDiff, Nat.reduceSub, Nat.reduceLeDiff, Nat.reduceAdd, Int.reduceEq, Int.reduceLT, Int.reduceLE]
  (try simp only [brK_e, gdK_e, skK_e, gdA_e, skA_e, pkK_e]); simp (maxSteps := 10000000) (disch := omega) only [ir42, h1, h2, h3, h4, go_sem, ↓reduceIte, Nat.reduceEqDiff, Nat.reduceSub, Nat.reduceLeDiff, Nat.reduceAdd, Int.reduceEq, Int.reduceLT, Int.reduceLE]
  refine loop_ok mixed (stName s) (fun k => k ≤ s.length ∧ ∀ j, j < k → okChB (s.getD j 0) = true) (fun k => s.length - k) 0 (by simp) (weak_mk ?_ ?_) fun k hk => ?_
  · (try simp only [brK_e, gdK_e, skK_e, gdA_e, skA_e, pkK_e]); simp (maxSteps := 10000000) (disch := omega) only [go_sem, ↓reduceIte, Nat.reduceEqDiff, Nat.reduceSub, Nat.reduceLeDiff, Nat.reduceAdd, Int.reduceEq, Int.reduceLT, Int.reduceLE]
  · (try simp only [brK_e, gdK_e, skK_e, gdA_e, skA_e, pkK_e]); simp (maxSteps := 10000000) (disch := omega) only [go_sem, ↓reduceIte, Nat.reduceEqDiff, Nat.reduceSub, Nat.reduceLeDiff, Nat.reduceAdd, Int.reduceEq, Int.reduceLT, Int.reduceLE]
  obtain ⟨hk1, hk2⟩ := hk
  by_cases hlt : k < s.length
  · by_cases ha : (s.getD k 0).toNat < 128
    · have hd := dec_ascii hlt ha
      have hgo : okChB (s.getD k 0) = true → (k + 1 ≤ s.length ∧ ∀ j, j < k + 1 → okChB (s.getD j 0) = true) := fun h => ⟨hlt, fun j hj => by
        by_cases e : j = k
        · subst e; exact h
        · exact hk2 j (by omega)⟩
      have hbad := fun h => name_bad (s := s) hlt h
      generalize hb : s.getD k 0 = b at *
      (try simp only [brK_e, gdK_e, skK_e, gdA_e, skA_e, pkK_e]); simp (maxSteps := 10000000) (disch := omega) only [stName, hd, go_sem, ↓reduceIte, Nat.reduceEqDiff, Nat.reduceSub, Nat.reduceLeDiff, Nat.reduceAdd, Int.reduceEq, Int.reduceLT, Int.reduceLE]
      refine call_with (okLetter _) ?_
      cases hL : letB b.toNat with
      | true =>
        have hL' : (97 ≤ b.toNat ∧ b.toNat ≤ 122) ∨ (65 ≤ b.toNat ∧ b.toNat ≤ 90) := of_decide_eq_true hL
        (try simp only [brK_e, gdK_e, skK_e, gdA_e, skA_e, pkK_e]); simp (maxSteps := 10000000) (disch := omega) only [hL, go_sem, ↓reduceIte, Nat.reduceEqDiff, Nat.reduceSub, Nat.reduceLeDiff, Nat.reduceAdd, Int.reduceEq, Int.reduceLT, Int.reduceLE]
        refine loop_next (k + 1) _ _ rfl (hgo (decide_eq_true (by omega))) (by omega) ?_ ?_
        · (try simp only [brK_e, gdK_e, skK_e, gdA_e, skA_e, pkK_e]); simp (maxSteps := 10000000) (disch := omega) only [go_sem, ↓reduceIte, Nat.reduceEqDiff, Nat.reduceSub, Nat.reduceLeDiff, Nat.reduceAdd, Int.reduceEq, Int.reduceLT, Int.reduceLE]
        · (try simp only [brK_e, gdK_e, skK_e, gdA_e, skA_e, pkK_e]); simp (maxSteps := 10000000) (disch := omega) only [go_sem, ↓reduceIte, Nat.reduceEqDiff, Nat.reduceSub, Nat.reduceLeDiff, Nat.reduceAdd, Int.reduceEq, Int.reduceLT, Int.reduceLE]
      | false =>
        have hL' : ¬ ((97 ≤ b.toNat ∧ b.toNat ≤ 122) ∨ (65 ≤ b.toNat ∧ b.toNat ≤ 90)) := of_decide_eq_false hL
        by_cases hdg : 48 ≤ b.toNat ∧ b.toNat ≤ 57
        · (try simp only [brK_e, gdK_e, skK_e, gdA_e, skA_e, pkK_e]); simp (maxSteps := 10000000) (disch := omega) only [hL, go_sem, ↓reduceIte, Nat.reduceEqDiff, Nat.reduceSub, Nat.reduceLeDiff, Nat.reduceAdd, Int.reduceEq, Int.reduceLT, Int.reduceLE]
          refine loop_next (k + 1) _ _ rfl (hgo (decide_eq_true (by omega))) (by omega) ?_ ?_
          · (try simp only [brK_e, gdK_e, skK_e, gdA_e, skA_e, pkK_e]); simp (maxSteps := 10000000) (disch := omega) only [go_sem, ↓reduceIte, Nat.reduceEqDiff, Nat.reduceSub, Nat.reduceLeDiff, Nat.reduceAdd, Int.reduceEq, Int.reduceLT, Int.reduceLE]
          · (try simp only [brK_e, gdK_e, skK_e, gdA_e, skA_e, pkK_e]); simp (maxSteps := 10000000) (disch := omega) only [go_sem, ↓reduceIte, Nat.reduceEqDiff, Nat.reduceSub, Nat.reduceLeDiff, Nat.reduceAdd, Int.reduceEq, Int.reduceLT, Int.reduceLE]
        · have ht : b.toNat < 48 ∨ (48 ≤ b.toNat ∧ 57 < b.toNat) := by omega
          cases hdt : dotB b.toNat with
          | true =>
            have hdt' : b.toNat = 46 ∨ b.toNat = 95 ∨ b.toNat = 45 := of_decide_eq_true hdt
            have hg := hgo (decide_eq_true (by omega))
            rcases ht with ht | ht
            all_goals (try simp only [brK_e, gdK_e, skK_e, gdA_e, skA_e, pkK_e]); simp (maxSteps := 10000000) (disch := omega) only [hL, go_sem, ↓reduceIte, Nat.reduceEqDiff, Nat.reduceSub, Nat.reduceLeDiff, Nat.reduceAdd, Int.reduceEq, Int.reduceLT, Int.reduceLE]
            all_goals refine call_with (okContainsRune b.toNat (by omega)) ?_
            all_goals (try simp only [brK_e, gdK_e, skK_e, gdA_e, skA_e, pkK_e]); simp (maxSteps := 10000000) (disch := omega) only [hdt, go_sem, ↓reduceIte, Nat.reduceEqDiff, Nat.reduceSub, Nat.reduceLeDiff, Nat.reduceAdd, Int.reduceEq, Int.reduceLT, Int.reduceLE]
            all_goals refine loop_next (k + 1) _ _ rfl hg (by omega) ?_ ?_
            all_goals (try simp only [brK_e, gdK_e, skK_e, gdA_e, skA_e, pkK_e]); simp (maxSteps := 10000000) (disch := omega) only [go_sem, ↓reduceIte, Nat.reduceEqDiff, Nat.reduceSub, Nat.reduceLeDiff, Nat.reduceAdd, Int.reduceEq, Int.reduceLT, Int.reduceLE]
          | false =>
            have hdt' : ¬ (b.toNat = 46 ∨ b.toNat = 95 ∨ b.toNat = 45) := of_decide_eq_false hdt
            have hg := hbad (decide_eq_false (by omega))
            rcases ht with ht | ht
            all_goals (try simp only [brK_e, gdK_e, skK_e, gdA_e, skA_e, pkK_e]); simp (maxSteps := 10000000) (disch := omega) only [hL, go_sem, ↓reduceIte, Nat.reduceEqDiff, Nat.reduceSub, Nat.reduceLeDiff, Nat.reduceAdd, Int.reduceEq, Int.reduceLT, Int.reduceLE]
            all_goals refine call_with (okContainsRune b.toNat (by omega)) ?_
            all_goals (try simp only [brK_e, gdK_e, skK_e, gdA_e, skA_e, pkK_e]); simp (maxSteps := 10000000) (disch := omega) only [hdt, hg, go_sem, ↓reduceIte, Nat.reduceEqDiff, Nat.reduceSub, Nat.reduceLeDiff, Nat.reduceAdd, Int.reduceEq, Int.reduceLT, Int.reduceLE]
    · obtain ⟨hd1, hd2⟩ := dec_big hlt ha
      have hg := name_bad (s := s) hlt (decide_eq_false (by omega))
      generalize hc : (decL s k).1 = c at *
      have hL : letB c = false := decide_eq_false (by omega)
      have hdt : dotB c = false := decide_eq_false (by omega)
      (try simp only [brK_e, gdK_e, skK_e, gdA_e, skA_e, pkK_e]); simp (maxSteps := 10000000) (disch := omega) only [stName, hc, go_sem, ↓reduceIte, Nat.reduceEqDiff, Nat.reduceSub, Nat.reduceLeDiff, Nat.reduceAdd, Int.reduceEq, Int.reduceLT, Int.reduceLE]
      refine call_with (okLetter _) ?_
      (try simp only [brK_e, gdK_e, skK_e, gdA_e, skA_e, pkK_e]); simp (maxSteps := 10000000) (disch := omega) only [hL, go_sem, ↓reduceIte, Nat.reduceEqDiff, Nat.reduceSub, Nat.reduceLeDiff, Nat.reduceAdd, Int.reduceEq, Int.reduceLT, Int.reduceLE]
      refine call_with (okContainsRune c hd2) ?_
      (try simp only [brK_e, gdK_e, skK_e, gdA_e, skA_e, pkK_e]); simp (maxSteps := 10000000) (disch := omega) only [hdt, hg, go_sem, ↓reduceIte, Nat.reduceEqDiff, Nat.reduceSub, Nat.reduceLeDiff, Nat.reduceAdd, Int.reduceEq, Int.reduceLT, Int.reduceLE]
  · obtain rfl : k = s.length := by omega
    have e := name_good h1' (by omega) h3 h4 hk2
    (try simp only [brK_e, gdK_e, skK_e, gdA_e, skA_e, pkK_e]); simp (maxSteps := 10000000) (disch := omega) only [stName, e, go_sem, ↓reduceIte, Nat.reduceEqDiff, Nat.reduceSub, Nat.reduceLeDiff, Nat.reduceAdd, Int.reduceEq, Int.reduceLT, Int.reduceLE]
def stNameR (s : List UInt8) (k : Nat) : FS := mk [(3, .pv (.i .i64 k)), (0, .pv (.s s))] []
set_option maxHeartbeats 4000000 in
theorem okNameR (s : List UInt8) {h d} : FunOk Try.prog 43 [.pv (.s s)] h d (.pv (.b (nameB s))) [] := by
  refine fun_pure mixed fn43 (by simp) rfl rfl fun F => ?_
  by_cases h1 : s = []
  · subst h1
    have e : nameB [] = false := name_f (by simp)
    have hl0 : (([] : List UInt8).length : Int) = 0 := rfl
    (try simp only [brK_e, gdK_e, skK_e, gdA_e, skA_e, pkK_e]); simp (maxSteps := 10000000) (disch := omega) only [ir43, hl0, e, go_sem, ↓reduceIte, Nat.reduceEqDiff, Nat.reduceSub, Nat.reduceLeDiff, Nat.reduceAdd, Int.reduceEq, Int.reduceLT, Int.reduceLE]
  have h1' : 1 ≤ s.length := List.length_pos_iff.2 h1
  by_cases h2 : 12 < (s.length : Int)
  · have e : nameB s = false := name_f (by omega)
    (try simp only [brK_e, gdK_e, skK_e, gdA_e, skA_e, pkK_e]); simp (maxSteps := 10000000) (disch := omega) only [ir43, h1, h2, e, go_sem, ↓reduceIte, Nat.reduceEqDiff, Nat.reduceSub, Nat.reduceLeDiff, Nat.reduceAdd, Int.reduceEq, Int.reduceLT, Int.reduceLE]
  by_cases h3 : s = [46]
  · subst h3
    have e : nameB [46] = false := name_f (fun h => h.2.2.1 rfl)
    have hl0 : (([46] : List UInt8).length : Int) = 1 := rfl
    (try simp only [brK_e, gdK_e, skK_e, gdA_e, skA_e, pkK_e]); simp (maxSteps := 10000000) (disch := omega) only [ir43, h1, hl0, e, go_sem, ↓reduceIte, Nat.reduceEqDiff, Nat.reduceSub, Nat.reduceLeDiff, Nat.reduceAdd, Int.reduceEq, Int.reduceLT, Int.reduceLE]
  by_cases h4 : s = [46, 46]
  · subst h4
    have e : nameB [46, 46] = false := name_f (fun h => h.2.2.2 rfl)
    have hl0 : (([46, 46] : List UInt8).length : Int) = 2 := rfl
    (try simp only [brK_e, gdK_e, skK_e, gdA_e, skA_e, pkK_e]); simp (maxSteps := 10000000) (disch := omega) only [ir43, h1, h3, hl0, e, go_sem, ↓reduceIte, Nat.reduceEqDiff, Nat.reduceSub, Nat.reduceLeDiff, Nat.reduceAdd, Int.reduceEq, Int.reduceLT, Int.reduceLE]
  (try simp only [brK_e, gdK_e, skK_e, gdA_e, skA_e, pkK_e]); simp (maxSteps := 10000000) (disch := omega) only [ir43, h1, h2, h3, h4, go_sem, ↓reduceIte, Nat.reduceEqDiff, Nat.reduceSub, Nat.reduceLeDiff, Nat.reduceAdd, Int.reduceEq, Int.reduceLT, Int.reduceLE]
  refine loop_ok mixed (stNameR s) (fun k => k ≤ s.length ∧ ∀ j, j < k → okChB (s.getD j 0) = true) (fun k => s.length - k) 0 (by simp) (weak_mk ?_ ?_) fun k hk => ?_
  · (try simp only [brK_e, gdK_e, skK_e, gdA_e, skA_e, pkK_e]); simp (maxSteps := 10000000) (disch := omega) only [go_sem, ↓reduceIte, Nat.reduceEqDiff, Nat.reduceSub, Nat.reduceLeDiff, Nat.reduceAdd, Int.reduceEq, Int.reduceLT, Int.reduceLE]
  · (try simp only [brK_e, gdK_e, skK_e, gdA_e, skA_e, pkK_e]); simp (maxSteps := 10000000) (disch := omega) only [go_sem, ↓reduceIte, Nat.reduceEqDiff, Nat.reduceSub, Nat.reduceLeDiff, Nat.reduceAdd, Int.reduceEq, Int.reduceLT, Int.reduceLE]
  obtain ⟨hk1, hk2⟩ := hk
  by_cases hlt : k < s.length
  · have hgo : okChB (s.getD k 0) = true → (k + 1 ≤ s.length ∧ ∀ j, j < k + 1 → okChB (s.getD j 0) = true) := fun h => ⟨hlt, fun j hj => by
      by_cases e : j = k
      · subst e; exact h
      · exact hk2 j (by omega)⟩
    have hbad := fun h => name_bad (s := s) hlt h
    generalize hb : s.getD k 0 = b at *
    by_cases hok : okChB b = true
    · have hok' := of_decide_eq_true hok
      have hg := hgo hok
      have : (97 ≤ b.toNat ∧ b.toNat ≤ 122) ∨ (65 ≤ b.toNat ∧ b.toNat ≤ 90) ∨ (48 ≤ b.toNat ∧ b.toNat ≤ 57) ∨ b.toNat = 46 ∨ b.toNat = 95 ∨ b.toNat = 45 := by omega
      rcases this with hc | hc | hc | hc | hc | hc
      all_goals (try simp only [brK_e, gdK_e, skK_e, gdA_e, skA_e, pkK_e]); simp (maxSteps := 10000000) (disch := omega) only [stNameR, hb, hc, go_sem, ↓reduceIte, Nat.reduceEqDiff, Nat.reduceSub, Nat.reduceLeDiff, Nat.reduceAdd, Int.reduceEq, Int.reduceLT, Int.reduceLE]
      all_goals refine loop_next (k + 1) _ _ rfl hg (by omega) ?_ ?_
      all_goals (try simp only [brK_e, gdK_e, skK_e, gdA_e, skA_e, pkK_e]); simp (maxSteps := 10000000) (disch := omega) only [go_sem, ↓reduceIte, Nat.reduceEqDiff, Nat.reduceSub, Nat.reduceLeDiff, Nat.reduceAdd, Int.reduceEq, Int.reduceLT, Int.reduceLE]
    · have hok0 : okChB b = false := by simpa using hok
      have hok' := of_decide_eq_false hok0
      have hg := hbad hok0
      have : b.toNat < 45 ∨ b.toNat = 47 ∨ (58 ≤ b.toNat ∧ b.toNat ≤ 64) ∨ (91 ≤ b.toNat ∧ b.toNat ≤ 94) ∨ b.toNat = 96 ∨ 123 ≤ b.toNat := by omega
      rcases this with hc | hc | hc | hc | hc | hc
      all_goals (try simp only [brK_e, gdK_e, skK_e, gdA_e, skA_e, pkK_e]); simp (maxSteps := 10000000) (disch := omega) only [stNameR, hb, hc, hg, go_sem, ↓reduceIte, Nat.reduceEqDiff, Nat.reduceSub, Nat.reduceLeDiff, Nat.reduceAdd, Int.reduceEq, Int.reduceLT, Int.reduceLE]
  · obtain rfl : k = s.length := by omega
    have e := name_good h1' (by omega) h3 h4 hk2
    (try simp only [brK_e, gdK_e, skK_e, gdA_e, skA_e, pkK_e]); simp (maxSteps := 10000000) (disch := omega) only [stNameR, e, go_sem, ↓reduceIte, Nat.reduceEqDiff, Nat.reduceSub, Nat.reduceLeDiff, Nat.reduceAdd, Int.reduceEq, Int.reduceLT, Int.reduceLE]
end Go.Proofs.Ytmeecblciegkkaa.Fw
namespace Go.Proofs.Ytmeecblciegkkaa.Fw
open Go.RowKit Go.Proofs
def BaseP (e : Evt) : Prop := 1 ≤ e.rep ∧ e.rep ≤ 8 ∧ 1 ≤ e.seq ∧ e.seq ≤ 1048576 ∧ e.dep (e.rep - 1).toNat + 1 = e.seq ∧ 1 ≤ e.kind ∧ e.kind ≤ 9
def DepP (e : Evt) : Prop := ∀ i, i < 8 → e.dep i ≤ 1048576
def zerosB (b : Evt) : Bool := zeroB b.orep b.oseq && (zeroB b.drep b.dseq && (decide (b.name = []) && (decide ((b.gone.l.length : Int) = 0) && (decide ((b.base.l.length : Int) = 0) && (decide (b.off = 0) && (decide (b.data = []) && decide (b.ward = 0)))))))
noncomputable def kindK (e : Evt) : Bool :=
  if e.kind = 1 ∨ e.kind = 2 then (placeB e && (nameB e.name))
  else if e.kind = 3 then (hasB e.dep e.orep e.oseq && (idsB e.base.l 1 e.dep && (sizeB (e.off) && (decide ((1 : Int) ≤ (e.data.length : Int)) && (sizeB ((e.data.length : Int)) && (sizeB (e.off + (e.data.length : Int))))))))
  else if e.kind = 4 then (hasB e.dep e.orep e.oseq && (idsB e.base.l 1 e.dep && (sizeB (e.off))))
  else if e.kind = 5 then (hasB e.dep e.orep e.oseq && (idsB e.base.l 8 e.dep && (decide ((2 : Int) ≤ (e.base.l.length : Int)) && (sizeB ((e.data.length : Int))))))
  else if e.kind = 6 then (hasB e.dep e.orep e.oseq && (idsB e.gone.l 8 e.dep))
  else if e.kind = 7 then (hasB e.dep e.orep e.oseq && (idsB e.gone.l 8 e.dep && (placeB e && (nameB e.name))))
  else if e.kind = 8 then (decide (1 ≤ e.ward) && (decide (e.ward ≤ 4)))
  else true
open Classical in
noncomputable def checkB (e : Evt) : Bool := decide (BaseP e) && (decide (DepP e) && (zerosB (bareE e) && kindK e))
theorem check_b {e : Evt} (h : ¬ BaseP e) : checkB e = false := by simp [checkB, h]
theorem check_d {e : Evt} (h : ¬ DepP e) : checkB e = false := by simp [checkB, h]
theorem check_z {e : Evt} (h : zerosB (bareE e) = false) : checkB e = false := by simp [checkB, h]
theorem check_k {e : Evt} (h1 : BaseP e) (h2 : DepP e) (h3 : zerosB (bareE e) = true) : checkB e = kindK e := by simp [checkB, h1, h2, h3]
def ev (e : Evt) : Prop := e.gone.ok ∧ e.base.ok ∧ e.gone.l.length ≤ 1000 ∧ e.base.l.length ≤ 1000 ∧ e.data.length ≤ 100000

theorem kindK_1 {e : Evt} (h : e.kind = 1) : kindK e = (placeB e && (nameB e.name)) := by simp [kindK, h]
theorem kindK_2 {e : Evt} (h : e.kind = 2) : kindK e = (placeB e && (nameB e.name)) := by simp [kindK, h]
theorem kindK_3 {e : Evt} (h : e.kind = 3) : kindK e = (hasB e.dep e.orep e.oseq && (idsB e.base.l 1 e.dep && (sizeB (e.off) && (decide ((1 : Int) ≤ (e.data.length : Int)) && (sizeB ((e.data.length : Int)) && (sizeB (e.off + (e.data.length : Int)))))))) := by simp [kindK, h]
theorem kindK_4 {e : Evt} (h : e.kind = 4) : kindK e = (hasB e.dep e.orep e.oseq && (idsB e.base.l 1 e.dep && (sizeB (e.off)))) := by simp [kindK, h]
theorem kindK_5 {e : Evt} (h : e.kind = 5) : kindK e = (hasB e.dep e.orep e.oseq && (idsB e.base.l 8 e.dep && (decide ((2 : Int) ≤ (e.base.l.length : Int)) && (sizeB ((e.data.length : Int)))))) := by simp [kindK, h]
theorem kindK_6 {e : Evt} (h : e.kind = 6) : kindK e = (hasB e.dep e.orep e.oseq && (idsB e.gone.l 8 e.dep)) := by simp [kindK, h]
theorem kindK_7 {e : Evt} (h : e.kind = 7) : kindK e = (hasB e.dep e.orep e.oseq && (idsB e.gone.l 8 e.dep && (placeB e && (nameB e.name)))) := by simp [kindK, h]
theorem kindK_8 {e : Evt} (h : e.kind = 8) : kindK e = (decide (1 ≤ e.ward) && (decide (e.ward ≤ 4))) := by simp [kindK, h]
theorem kindK_9 {e : Evt} (h : e.kind = 9) : kindK e = (true) := by simp [kindK, h]
def stChk (e : Evt) (k : Nat) : FS := mk [(55, .pv (.i .i64 k)), (54, .vec 8 (vE e.dep)), (1, .p 1 0)] [(1, some (.var (.vec 21 (evE e))))]
set_option maxHeartbeats 16000000 in
theorem okCheck (e : Evt) (he : ev e) {h d} : FunOk Try.prog 40 [.vec 21 (evE e)] h d (.pv (.b (checkB e))) [] := by
  refine fun_pure mixed fn40 (by simp) rfl rfl fun F => ?_
  have hl := evE_len e
  obtain ⟨hg, hb, hgn, hbn, hdl⟩ := he
  by_cases r1 : e.rep < 1
  · have eb := check_b (e := e) fun h => by have := h.1; omega
    (try simp only [brK_e, gdK_e, skK_e, gdA_e, skA_e, pkK_e]); simp (maxSteps := 10000000) (disch := omega) only [ir40, ld_ev0, r1, eb, go_sem, ↓reduceIte, Nat.reduceEqDiff, Nat.reduceSub, Nat.reduceLeDiff, Nat.reduceAdd, Int.reduceEq, Int.reduceLT, Int.reduceLE]
  by_cases r2 : 8 < e.rep
  · have eb := check_b (e := e) fun h => by have := h.2.1; omega
    (try simp only [brK_e, gdK_e, skK_e, gdA_e, skA_e, pkK_e]); simp (maxSteps := 10000000) (disch := omega) only [ir40, ld_ev0, r1, r2, eb, go_sem, ↓reduceIte, Nat.reduceEqDiff, Nat.reduceSub, Nat.reduceLeDiff, Nat.reduceAdd, Int.reduceEq, Int.reduceLT, Int.reduceLE]
  by_cases r3 : (e.seq : Int) < 1
  · have eb := check_b (e := e) fun h => by have := h.2.2.1; omega
    (try simp only [brK_e, gdK_e, skK_e, gdA_e, skA_e, pkK_e]); simp (maxSteps := 10000000) (disch := omega) only [ir40, ld_ev0, ld_ev1, r1, r2, r3, eb, go_sem, ↓reduceIte, Nat.reduceEqDiff, Nat.reduceSub, Nat.reduceLeDiff, Nat.reduceAdd, Int.reduceEq, Int.reduceLT, Int.reduceLE]
  by_cases r4 : 1048576 < (e.seq : Int)
  · have eb := check_b (e := e) fun h => by have := h.2.2.2.1; omega
    (try simp only [brK_e, gdK_e, skK_e, gdA_e, skA_e, pkK_e]); simp (maxSteps := 10000000) (disch := omega) only [ir40, ld_ev0, ld_ev1, r1, r2, r3, r4, eb, go_sem, ↓reduceIte, Nat.reduceEqDiff, Nat.reduceSub, Nat.reduceLeDiff, Nat.reduceAdd, Int.reduceEq, Int.reduceLT, Int.reduceLE]
  obtain ⟨k, hk⟩ : ∃ k : Nat, e.rep = (k : Int) + 1 := ⟨(e.rep - 1).toNat, by omega⟩
  have hk8 : k < 8 := by omega
  have ek : ((k : Int) + 1 - 1) = (k : Int) := by omega
  have ekn : (e.rep - 1).toNat = k := by omega
  by_cases r5 : (e.dep k : Int) = (e.seq : Int) - 1
  rotate_left
  · have eb := check_b (e := e) fun h => by have := h.2.2.2.2.1; rw [ekn] at this; omega
    (try simp only [brK_e, gdK_e, skK_e, gdA_e, skA_e, pkK_e]); simp (maxSteps := 10000000) (disch := omega) only [ir40, ld_ev0, ld_ev1, ld_evDepAt, hk, ek, r3, r4, r5, eb, go_sem, ↓reduceIte, Nat.reduceEqDiff, Nat.reduceSub, Nat.reduceLeDiff, Nat.reduceAdd, Int.reduceEq, Int.reduceLT, Int.reduceLE]
  by_cases r6 : e.kind < 1
  · have eb := check_b (e := e) fun h => by have := h.2.2.2.2.2.1; omega
    (try simp only [brK_e, gdK_e, skK_e, gdA_e, skA_e, pkK_e]); simp (maxSteps := 10000000) (disch := omega) only [ir40, ld_ev0, ld_ev1, ld_ev10, ld_evDepAt, hk, ek, r3, r4, r5, r6, eb, go_sem, ↓reduceIte, Nat.reduceEqDiff, Nat.reduceSub, Nat.reduceLeDiff, Nat.reduceAdd, Int.reduceEq, Int.reduceLT, Int.reduceLE]
  by_cases r7 : 9 < e.kind
  · have eb := check_b (e := e) fun h => by have := h.2.2.2.2.2.2; omega
    (try simp only [brK_e, gdK_e, skK_e, gdA_e, skA_e, pkK_e]); simp (maxSteps := 10000000) (disch := omega) only [ir40, ld_ev0, ld_ev1, ld_ev10, ld_evDepAt, hk, ek, r3, r4, r5, r6, r7, eb, go_sem, ↓reduceIte, Nat.reduceEqDiff, Nat.reduceSub, Nat.reduceLeDiff, Nat.reduceAdd, Int.reduceEq, Int.reduceLT, Int.reduceLE]
  have hB : BaseP e := ⟨by omega, by omega, by omega, by omega, by rw [ekn]; omega, by omega, by omega⟩
  (try simp only [brK_e, gdK_e, skK_e, gdA_e, skA_e, pkK_e]); simp (maxSteps := 10000000) (disch := omega) only [ir40, ld_ev0, ld_ev1, ld_ev10, ld_evDep, ld_evDepAt, hk, ek, r3, r4, r5, r6, r7, go_sem, ↓reduceIte, Nat.reduceEqDiff, Nat.reduceSub, Nat.reduceLeDiff, Nat.reduceAdd, Int.reduceEq, Int.reduceLT, Int.reduceLE]
  refine loop_ok mixed (stChk e) (fun k => k ≤ 8 ∧ ∀ i, i < k → e.dep i ≤ 1048576) (fun k => 8 - k) 0 (by simp) (weak_mk ?_ ?_) fun j hj => ?_
  · (try simp only [brK_e, gdK_e, skK_e, gdA_e, skA_e, pkK_e]); simp (maxSteps := 10000000) (disch := omega) only [go_sem, ↓reduceIte, Nat.reduceEqDiff, Nat.reduceSub, Nat.reduceLeDiff, Nat.reduceAdd, Int.reduceEq, Int.reduceLT, Int.reduceLE]
  · (try simp only [brK_e, gdK_e, skK_e, gdA_e, skA_e, pkK_e]); simp (maxSteps := 10000000) (disch := omega) only [go_sem, ↓reduceIte, Nat.reduceEqDiff, Nat.reduceSub, Nat.reduceLeDiff, Nat.reduceAdd, Int.reduceEq, Int.reduceLT, Int.reduceLE]
  obtain ⟨hj1, hj2⟩ := hj
  by_cases hlt : j < 8
  · by_cases hd : 1048576 < (e.dep j : Int)
    · have eb := check_d (e := e) fun h => by have := h j hlt; omega
      (try simp only [brK_e, gdK_e, skK_e, gdA_e, skA_e, pkK_e]); simp (maxSteps := 10000000) (disch := omega) only [stChk, hd, eb, go_sem, ↓reduceIte, Nat.reduceEqDiff, Nat.reduceSub, Nat.reduceLeDiff, Nat.reduceAdd, Int.reduceEq, Int.reduceLT, Int.reduceLE]
    · (try simp only [brK_e, gdK_e, skK_e, gdA_e, skA_e, pkK_e]); simp (maxSteps := 10000000) (disch := omega) only [stChk, hd, go_sem, ↓reduceIte, Nat.reduceEqDiff, Nat.reduceSub, Nat.reduceLeDiff, Nat.reduceAdd, Int.reduceEq, Int.reduceLT, Int.reduceLE]
      refine loop_next (j + 1) _ _ rfl ⟨by omega, fun i hi => ?_⟩ (by omega) ?_ ?_
      · by_cases e : i = j
        · subst e; omega
        · exact hj2 i (by omega)
      · (try simp only [brK_e, gdK_e, skK_e, gdA_e, skA_e, pkK_e]); simp (maxSteps := 10000000) (disch := omega) only [go_sem, ↓reduceIte, Nat.reduceEqDiff, Nat.reduceSub, Nat.reduceLeDiff, Nat.reduceAdd, Int.reduceEq, Int.reduceLT, Int.reduceLE]
      · (try simp only [brK_e, gdK_e, skK_e, gdA_e, skA_e, pkK_e]); simp (maxSteps := 10000000) (disch := omega) only [go_sem, ↓reduceIte, Nat.reduceEqDiff, Nat.reduceSub, Nat.reduceLeDiff, Nat.reduceAdd, Int.reduceEq, Int.reduceLT, Int.reduceLE]
  obtain rfl : j = 8 := by omega
  have hD : DepP e := hj2
  (try simp only [brK_e, gdK_e, skK_e, gdA_e, skA_e, pkK_e]); simp (maxSteps := 10000000) (disch := omega) only [stChk, ld_ev, go_sem, ↓reduceIte, Nat.reduceEqDiff, Nat.reduceSub, Nat.reduceLeDiff, Nat.reduceAdd, Int.reduceEq, Int.reduceLT, Int.reduceLE]
  refine call_with (okBare e) ?_
  have cz := check_z (e := e)
  have ck := fun h3 => check_k (e := e) hB hD h3
  have hbl := evE_len (bareE e)
  generalize bareE e = b at *

  by_cases z1' : zeroB b.orep b.oseq = false
  · have eb := cz (by simp only [zerosB, z1', decide_true, decide_false, Bool.true_and, Bool.false_and, Bool.and_true, Bool.and_false, Bool.and_self])
    (try simp only [brK_e, gdK_e, skK_e, gdA_e, skA_e, pkK_e]); simp (maxSteps := 10000000) (disch := omega) only [fits_id, fits_id0, peq_zero, sp_all, hl, hbl, z1', eb, go_sem, ↓reduceIte, Nat.reduceEqDiff, Nat.reduceSub, Nat.reduceLeDiff, Nat.reduceAdd, Int.reduceEq, Int.reduceLT, Int.reduceLE]
  have z1 : zeroB b.orep b.oseq = true := by simpa using z1'
  by_cases z2' : zeroB b.drep b.dseq = false
  · have eb := cz (by simp only [zerosB, z1, z2', decide_true, decide_false, Bool.true_and, Bool.false_and, Bool.and_true, Bool.and_false, Bool.and_self])
    (try simp only [brK_e, gdK_e, skK_e, gdA_e, skA_e, pkK_e]); simp (maxSteps := 10000000) (disch := omega) only [fits_id, fits_id0, peq_zero, sp_all, hl, hbl, z1, z2', eb, go_sem, ↓reduceIte, Nat.reduceEqDiff, Nat.reduceSub, Nat.reduceLeDiff, Nat.reduceAdd, Int.reduceEq, Int.reduceLT, Int.reduceLE]
  have z2 : zeroB b.drep b.dseq = true := by simpa using z2'
  by_cases z3 : b.name = []
  rotate_left
  · have eb := cz (by simp only [zerosB, z1, z2, z3, decide_true, decide_false, Bool.true_and, Bool.false_and, Bool.and_true, Bool.and_false, Bool.and_self])
    (try simp only [brK_e, gdK_e, skK_e, gdA_e, skA_e, pkK_e]); simp (maxSteps := 10000000) (disch := omega) only [fits_id, fits_id0, peq_zero, sp_all, hl, hbl, z1, z2, z3, eb, go_sem, ↓reduceIte, Nat.reduceEqDiff, Nat.reduceSub, Nat.reduceLeDiff, Nat.reduceAdd, Int.reduceEq, Int.reduceLT, Int.reduceLE]
  by_cases z4 : (b.gone.l.length : Int) = 0
  rotate_left
  · have eb := cz (by simp only [zerosB, z1, z2, z3, z4, decide_true, decide_false, Bool.true_and, Bool.false_and, Bool.and_true, Bool.and_false, Bool.and_self])
    (try simp only [brK_e, gdK_e, skK_e, gdA_e, skA_e, pkK_e]); simp (maxSteps := 10000000) (disch := omega) only [fits_id, fits_id0, peq_zero, sp_all, hl, hbl, z1, z2, z3, z4, eb, go_sem, ↓reduceIte, Nat.reduceEqDiff, Nat.reduceSub, Nat.reduceLeDiff, Nat.reduceAdd, Int.reduceEq, Int.reduceLT, Int.reduceLE]
  by_cases z5 : (b.base.l.length : Int) = 0
  rotate_left
  · have eb := cz (by simp only [zerosB, z1, z2, z3, z4, z5, decide_true, decide_false, Bool.true_and, Bool.false_and, Bool.and_true, Bool.and_false, Bool.and_self])
    (try simp only [brK_e, gdK_e, skK_e, gdA_e, skA_e, pkK_e]); simp (maxSteps := 10000000) (disch := omega) only [fits_id, fits_id0, peq_zero, sp_all, hl, hbl, z1, z2, z3, z4, z5, eb, go_sem, ↓reduceIte, Nat.reduceEqDiff, Nat.reduceSub, Nat.reduceLeDiff, Nat.reduceAdd, Int.reduceEq, Int.reduceLT, Int.reduceLE]
  by_cases z6 : b.off = 0
  rotate_left
  · have eb := cz (by simp only [zerosB, z1, z2, z3, z4, z5, z6, decide_true, decide_false, Bool.true_and, Bool.false_and, Bool.and_true, Bool.and_false, Bool.and_self])
    (try simp only [brK_e, gdK_e, skK_e, gdA_e, skA_e, pkK_e]); simp (maxSteps := 10000000) (disch := omega) only [fits_id, fits_id0, peq_zero, sp_all, hl, hbl, z1, z2, z3, z4, z5, z6, eb, go_sem, ↓reduceIte, Nat.reduceEqDiff, Nat.reduceSub, Nat.reduceLeDiff, Nat.reduceAdd, Int.reduceEq, Int.reduceLT, Int.reduceLE]
  by_cases z7 : b.data = []
  rotate_left
  · have eb := cz (by simp only [zerosB, z1, z2, z3, z4, z5, z6, z7, decide_true, decide_false, Bool.true_and, Bool.false_and, Bool.and_true, Bool.and_false, Bool.and_self])
    (try simp only [brK_e, gdK_e, skK_e, gdA_e, skA_e, pkK_e]); simp (maxSteps := 10000000) (disch := omega) only [fits_id, fits_id0, peq_zero, sp_all, hl, hbl, z1, z2, z3, z4, z5, z6, z7, eb, go_sem, ↓reduceIte, Nat.reduceEqDiff, Nat.reduceSub, Nat.reduceLeDiff, Nat.reduceAdd, Int.reduceEq, Int.reduceLT, Int.reduceLE]
  by_cases z8 : b.ward = 0
  rotate_left
  · have eb := cz (by simp only [zerosB, z1, z2, z3, z4, z5, z6, z7, z8, decide_true, decide_false, Bool.true_and, Bool.false_and, Bool.and_true, Bool.and_false, Bool.and_self])
    (try simp only [brK_e, gdK_e, skK_e, gdA_e, skA_e, pkK_e]); simp (maxSteps := 10000000) (disch := omega) only [fits_id, fits_id0, peq_zero, sp_all, hl, hbl, z1, z2, z3, z4, z5, z6, z7, z8, eb, go_sem, ↓reduceIte, Nat.reduceEqDiff, Nat.reduceSub, Nat.reduceLeDiff, Nat.reduceAdd, Int.reduceEq, Int.reduceLT, Int.reduceLE]
  have ez := ck (by simp only [zerosB, z1, z2, z3, z4, z5, z6, z7, z8, decide_true, decide_false, Bool.true_and, Bool.false_and, Bool.and_true, Bool.and_false, Bool.and_self])
  have hkk : e.kind = 1 ∨ e.kind = 2 ∨ e.kind = 3 ∨ e.kind = 4 ∨ e.kind = 5 ∨ e.kind = 6 ∨ e.kind = 7 ∨ e.kind = 8 ∨ e.kind = 9 := by omega
  rcases hkk with hki | hki | hki | hki | hki | hki | hki | hki | hki
  · rw [kindK_1 hki] at ez
    (try simp only [brK_e, gdK_e, skK_e, gdA_e, skA_e, pkK_e]); simp (maxSteps := 10000000) (disch := omega) only [fits_id, fits_id0, peq_zero, sp_all, hl, hbl, z1, z2, z3, z4, z5, z6, z7, z8, hki, go_sem, ↓reduceIte, Nat.reduceEqDiff, Nat.reduceSub, Nat.reduceLeDiff, Nat.reduceAdd, Int.reduceEq, Int.reduceLT, Int.reduceLE]
    refine call_with (okPlace e) ?_
    by_cases s0' : placeB e = false
    · simp only [s0', decide_true, decide_false, Bool.true_and, Bool.false_and, Bool.and_true, Bool.and_false, Bool.and_self] at ez
      (try simp only [brK_e, gdK_e, skK_e, gdA_e, skA_e, pkK_e]); simp (maxSteps := 10000000) (disch := omega) only [fits_id, fits_id0, peq_zero, s0', ez, go_sem, ↓reduceIte, Nat.reduceEqDiff, Nat.reduceSub, Nat.reduceLeDiff, Nat.reduceAdd, Int.reduceEq, Int.reduceLT, Int.reduceLE]
    have s0 : placeB e = true := by simpa using s0'
    (try simp only [brK_e, gdK_e, skK_e, gdA_e, skA_e, pkK_e]); simp (maxSteps := 10000000) (disch := omega) only [fits_id, fits_id0, peq_zero, s0, go_sem, ↓reduceIte, Nat.reduceEqDiff, Nat.reduceSub, Nat.reduceLeDiff, Nat.reduceAdd, Int.reduceEq, Int.reduceLT, Int.reduceLE]
    refine call_with (okName _) ?_
    by_cases s1' : nameB e.name = false
    · simp only [s0, s1', decide_true, decide_false, Bool.true_and, Bool.false_and, Bool.and_true, Bool.and_false, Bool.and_self] at ez
      (try simp only [brK_e, gdK_e, skK_e, gdA_e, skA_e, pkK_e]); simp (maxSteps := 10000000) (disch := omega) only [fits_id, fits_id0, peq_zero, s0, s1', ez, go_sem, ↓reduceIte, Nat.reduceEqDiff, Nat.reduceSub, Nat.reduceLeDiff, Nat.reduceAdd, Int.reduceEq, Int.reduceLT, Int.reduceLE]
    have s1 : nameB e.name = true := by simpa using s1'
    simp only [s0, s1, decide_true, decide_false, Bool.true_and, Bool.false_and, Bool.and_true, Bool.and_false, Bool.and_self] at ez
    (try simp only [brK_e, gdK_e, skK_e, gdA_e, skA_e, pkK_e]); simp (maxSteps := 10000000) (disch := omega) only [fits_id, fits_id0, peq_zero, s0, s1, ez, go_sem, ↓reduceIte, Nat.reduceEqDiff, Nat.reduceSub, Nat.reduceLeDiff, Nat.reduceAdd, Int.reduceEq, Int.reduceLT, Int.reduceLE]
  · rw [kindK_2 hki] at ez
    (try simp only [brK_e, gdK_e, skK_e, gdA_e, skA_e, pkK_e]); simp (maxSteps := 10000000) (disch := omega) only [fits_id, fits_id0, peq_zero, sp_all, hl, hbl, z1, z2, z3, z4, z5, z6, z7, z8, hki, go_sem, ↓reduceIte, Nat.reduceEqDiff, Nat.reduceSub, Nat.reduceLeDiff, Nat.reduceAdd, Int.reduceEq, Int.reduceLT, Int.reduceLE]
    refine call_with (okPlace e) ?_
    by_cases s0' : placeB e = false
    · simp only [s0', decide_true, decide_false, Bool.true_and, Bool.false_and, Bool.and_true, Bool.and_false, Bool.and_self] at ez
      (try simp only [brK_e, gdK_e, skK_e, gdA_e, skA_e, pkK_e]); simp (maxSteps := 10000000) (disch := omega) only [fits_id, fits_id0, peq_zero, s0', ez, go_sem, ↓reduceIte, Nat.reduceEqDiff, Nat.reduceSub, Nat.reduceLeDiff, Nat.reduceAdd, Int.reduceEq, Int.reduceLT, Int.reduceLE]
    have s0 : placeB e = true := by simpa using s0'
    (try simp only [brK_e, gdK_e, skK_e, gdA_e, skA_e, pkK_e]); simp (maxSteps := 10000000) (disch := omega) only [fits_id, fits_id0, peq_zero, s0, go_sem, ↓reduceIte, Nat.reduceEqDiff, Nat.reduceSub, Nat.reduceLeDiff, Nat.reduceAdd, Int.reduceEq, Int.reduceLT, Int.reduceLE]
    refine call_with (okName _) ?_
    by_cases s1' : nameB e.name = false
    · simp only [s0, s1', decide_true, decide_false, Bool.true_and, Bool.false_and, Bool.and_true, Bool.and_false, Bool.and_self] at ez
      (try simp only [brK_e, gdK_e, skK_e, gdA_e, skA_e, pkK_e]); simp (maxSteps := 10000000) (disch := omega) only [fits_id, fits_id0, peq_zero, s0, s1', ez, go_sem, ↓reduceIte, Nat.reduceEqDiff, Nat.reduceSub, Nat.reduceLeDiff, Nat.reduceAdd, Int.reduceEq, Int.reduceLT, Int.reduceLE]
    have s1 : nameB e.name = true := by simpa using s1'
    simp only [s0, s1, decide_true, decide_false, Bool.true_and, Bool.false_and, Bool.and_true, Bool.and_false, Bool.and_self] at ez
    (try simp only [brK_e, gdK_e, skK_e, gdA_e, skA_e, pkK_e]); simp (maxSteps := 10000000) (disch := omega) only [fits_id, fits_id0, peq_zero, s0, s1, ez, go_sem, ↓reduceIte, Nat.reduceEqDiff, Nat.reduceSub, Nat.reduceLeDiff, Nat.reduceAdd, Int.reduceEq, Int.reduceLT, Int.reduceLE]
  · rw [kindK_3 hki] at ez
    (try simp only [brK_e, gdK_e, skK_e, gdA_e, skA_e, pkK_e]); simp (maxSteps := 10000000) (disch := omega) only [fits_id, fits_id0, peq_zero, sp_all, hl, hbl, z1, z2, z3, z4, z5, z6, z7, z8, hki, go_sem, ↓reduceIte, Nat.reduceEqDiff, Nat.reduceSub, Nat.reduceLeDiff, Nat.reduceAdd, Int.reduceEq, Int.reduceLT, Int.reduceLE]
    refine call_with (okHasV _ _ _) ?_
    by_cases s0' : hasB e.dep e.orep e.oseq = false
    · simp only [s0', decide_true, decide_false, Bool.true_and, Bool.false_and, Bool.and_true, Bool.and_false, Bool.and_self] at ez
      (try simp only [brK_e, gdK_e, skK_e, gdA_e, skA_e, pkK_e]); simp (maxSteps := 10000000) (disch := omega) only [fits_id, fits_id0, peq_zero, s0', ez, go_sem, ↓reduceIte, Nat.reduceEqDiff, Nat.reduceSub, Nat.reduceLeDiff, Nat.reduceAdd, Int.reduceEq, Int.reduceLT, Int.reduceLE]
    have s0 : hasB e.dep e.orep e.oseq = true := by simpa using s0'
    (try simp only [brK_e, gdK_e, skK_e, gdA_e, skA_e, pkK_e]); simp (maxSteps := 10000000) (disch := omega) only [fits_id, fits_id0, peq_zero, s0, go_sem, ↓reduceIte, Nat.reduceEqDiff, Nat.reduceSub, Nat.reduceLeDiff, Nat.reduceAdd, Int.reduceEq, Int.reduceLT, Int.reduceLE]
    refine call_with (okIds (l := e.base.l) (most := 1) hb hbn) ?_
    by_cases s1' : idsB e.base.l 1 e.dep = false
    · simp only [s0, s1', decide_true, decide_false, Bool.true_and, Bool.false_and, Bool.and_true, Bool.and_false, Bool.and_self] at ez
      (try simp only [brK_e, gdK_e, skK_e, gdA_e, skA_e, pkK_e]); simp (maxSteps := 10000000) (disch := omega) only [fits_id, fits_id0, peq_zero, s0, s1', ez, go_sem, ↓reduceIte, Nat.reduceEqDiff, Nat.reduceSub, Nat.reduceLeDiff, Nat.reduceAdd, Int.reduceEq, Int.reduceLT, Int.reduceLE]
    have s1 : idsB e.base.l 1 e.dep = true := by simpa using s1'
    (try simp only [brK_e, gdK_e, skK_e, gdA_e, skA_e, pkK_e]); simp (maxSteps := 10000000) (disch := omega) only [fits_id, fits_id0, peq_zero, s0, s1, go_sem, ↓reduceIte, Nat.reduceEqDiff, Nat.reduceSub, Nat.reduceLeDiff, Nat.reduceAdd, Int.reduceEq, Int.reduceLT, Int.reduceLE]
    refine call_with (okSize (e.off)) ?_
    by_cases s2' : sizeB (e.off) = false
    · simp only [s0, s1, s2', decide_true, decide_false, Bool.true_and, Bool.false_and, Bool.and_true, Bool.and_false, Bool.and_self] at ez
      (try simp only [brK_e, gdK_e, skK_e, gdA_e, skA_e, pkK_e]); simp (maxSteps := 10000000) (disch := omega) only [fits_id, fits_id0, peq_zero, s0, s1, s2', ez, go_sem, ↓reduceIte, Nat.reduceEqDiff, Nat.reduceSub, Nat.reduceLeDiff, Nat.reduceAdd, Int.reduceEq, Int.reduceLT, Int.reduceLE]
    have s2 : sizeB (e.off) = true := by simpa using s2'
    have s2b := of_decide_eq_true s2
    by_cases s3 : (1 : Int) ≤ (e.data.length : Int)
    rotate_left
    · simp only [s0, s1, s2, s3, decide_true, decide_false, Bool.true_and, Bool.false_and, Bool.and_true, Bool.and_false, Bool.and_self] at ez
      (try simp only [brK_e, gdK_e, skK_e, gdA_e, skA_e, pkK_e]); simp (maxSteps := 10000000) (disch := omega) only [fits_id, fits_id0, peq_zero, s0, s1, s2, s3, ez, go_sem, ↓reduceIte, Nat.reduceEqDiff, Nat.reduceSub, Nat.reduceLeDiff, Nat.reduceAdd, Int.reduceEq, Int.reduceLT, Int.reduceLE]
    (try simp only [brK_e, gdK_e, skK_e, gdA_e, skA_e, pkK_e]); simp (maxSteps := 10000000) (disch := omega) only [fits_id, fits_id0, peq_zero, s0, s1, s2, s3, go_sem, ↓reduceIte, Nat.reduceEqDiff, Nat.reduceSub, Nat.reduceLeDiff, Nat.reduceAdd, Int.reduceEq, Int.reduceLT, Int.reduceLE]
    refine call_with (okSize ((e.data.length : Int))) ?_
    by_cases s4' : sizeB ((e.data.length : Int)) = false
    · simp only [s0, s1, s2, s3, s4', decide_true, decide_false, Bool.true_and, Bool.false_and, Bool.and_true, Bool.and_false, Bool.and_self] at ez
      (try simp only [brK_e, gdK_e, skK_e, gdA_e, skA_e, pkK_e]); simp (maxSteps := 10000000) (disch := omega) only [fits_id, fits_id0, peq_zero, s0, s1, s2, s3, s4', ez, go_sem, ↓reduceIte, Nat.reduceEqDiff, Nat.reduceSub, Nat.reduceLeDiff, Nat.reduceAdd, Int.reduceEq, Int.reduceLT, Int.reduceLE]
    have s4 : sizeB ((e.data.length : Int)) = true := by simpa using s4'
    have s4b := of_decide_eq_true s4
    (try simp only [brK_e, gdK_e, skK_e, gdA_e, skA_e, pkK_e]); simp (maxSteps := 10000000) (disch := omega) only [fits_id, fits_id0, peq_zero, s0, s1, s2, s3, s4, go_sem, ↓reduceIte, Nat.reduceEqDiff, Nat.reduceSub, Nat.reduceLeDiff, Nat.reduceAdd, Int.reduceEq, Int.reduceLT, Int.reduceLE]
    refine call_with (okSize (e.off + (e.data.length : Int))) ?_
    by_cases s5' : sizeB (e.off + (e.data.length : Int)) = false
    · simp only [s0, s1, s2, s3, s4, s5', decide_true, decide_false, Bool.true_and, Bool.false_and, Bool.and_true, Bool.and_false, Bool.and_self] at ez
      (try simp only [brK_e, gdK_e, skK_e, gdA_e, skA_e, pkK_e]); simp (maxSteps := 10000000) (disch := omega) only [fits_id, fits_id0, peq_zero, s0, s1, s2, s3, s4, s5', ez, go_sem, ↓reduceIte, Nat.reduceEqDiff, Nat.reduceSub, Nat.reduceLeDiff, Nat.reduceAdd, Int.reduceEq, Int.reduceLT, Int.reduceLE]
    have s5 : sizeB (e.off + (e.data.length : Int)) = true := by simpa using s5'
    have s5b := of_decide_eq_true s5
    simp only [s0, s1, s2, s3, s4, s5, decide_true, decide_false, Bool.true_and, Bool.false_and, Bool.and_true, Bool.and_false, Bool.and_self] at ez
    (try simp only [brK_e, gdK_e, skK_e, gdA_e, skA_e, pkK_e]); simp (maxSteps := 10000000) (disch := omega) only [fits_id, fits_id0, peq_zero, s0, s1, s2, s3, s4, s5, ez, go_sem, ↓reduceIte, Nat.reduceEqDiff, Nat.reduceSub, Nat.reduceLeDiff, Nat.reduceAdd, Int.reduceEq, Int.reduceLT, Int.reduceLE]
  · rw [kindK_4 hki] at ez
    (try simp only [brK_e, gdK_e, skK_e, gdA_e, skA_e, pkK_e]); simp (maxSteps := 10000000) (disch := omega) only [fits_id, fits_id0, peq_zero, sp_all, hl, hbl, z1, z2, z3, z4, z5, z6, z7, z8, hki, go_sem, ↓reduceIte, Nat.reduceEqDiff, Nat.reduceSub, Nat.reduceLeDiff, Nat.reduceAdd, Int.reduceEq, Int.reduceLT, Int.reduceLE]
    refine call_with (okHasV _ _ _) ?_
    by_cases s0' : hasB e.dep e.orep e.oseq = false
    · simp only [s0', decide_true, decide_false, Bool.true_and, Bool.false_and, Bool.and_true, Bool.and_false, Bool.and_self] at ez
      (try simp only [brK_e, gdK_e, skK_e, gdA_e, skA_e, pkK_e]); simp (maxSteps := 10000000) (disch := omega) only [fits_id, fits_id0, peq_zero, s0', ez, go_sem, ↓reduceIte, Nat.reduceEqDiff, Nat.reduceSub, Nat.reduceLeDiff, Nat.reduceAdd, Int.reduceEq, Int.reduceLT, Int.reduceLE]
    have s0 : hasB e.dep e.orep e.oseq = true := by simpa using s0'
    (try simp only [brK_e, gdK_e, skK_e, gdA_e, skA_e, pkK_e]); simp (maxSteps := 10000000) (disch := omega) only [fits_id, fits_id0, peq_zero, s0, go_sem, ↓reduceIte, Nat.reduceEqDiff, Nat.reduceSub, Nat.reduceLeDiff, Nat.reduceAdd, Int.reduceEq, Int.reduceLT, Int.reduceLE]
    refine call_with (okIds (l := e.base.l) (most := 1) hb hbn) ?_
    by_cases s1' : idsB e.base.l 1 e.dep = false
    · simp only [s0, s1', decide_true, decide_false, Bool.true_and, Bool.false_and, Bool.and_true, Bool.and_false, Bool.and_self] at ez
      (try simp only [brK_e, gdK_e, skK_e, gdA_e, skA_e, pkK_e]); simp (maxSteps := 10000000) (disch := omega) only [fits_id, fits_id0, peq_zero, s0, s1', ez, go_sem, ↓reduceIte, Nat.reduceEqDiff, Nat.reduceSub, Nat.reduceLeDiff, Nat.reduceAdd, Int.reduceEq, Int.reduceLT, Int.reduceLE]
    have s1 : idsB e.base.l 1 e.dep = true := by simpa using s1'
    (try simp only [brK_e, gdK_e, skK_e, gdA_e, skA_e, pkK_e]); simp (maxSteps := 10000000) (disch := omega) only [fits_id, fits_id0, peq_zero, s0, s1, go_sem, ↓reduceIte, Nat.reduceEqDiff, Nat.reduceSub, Nat.reduceLeDiff, Nat.reduceAdd, Int.reduceEq, Int.reduceLT, Int.reduceLE]
    refine call_with (okSize (e.off)) ?_
    by_cases s2' : sizeB (e.off) = false
    · simp only [s0, s1, s2', decide_true, decide_false, Bool.true_and, Bool.false_and, Bool.and_true, Bool.and_false, Bool.and_self] at ez
      (try simp only [brK_e, gdK_e, skK_e, gdA_e, skA_e, pkK_e]); simp (maxSteps := 10000000) (disch := omega) only [fits_id, fits_id0, peq_zero, s0, s1, s2', ez, go_sem, ↓reduceIte, Nat.reduceEqDiff, Nat.reduceSub, Nat.reduceLeDiff, Nat.reduceAdd, Int.reduceEq, Int.reduceLT, Int.reduceLE]
    have s2 : sizeB (e.off) = true := by simpa using s2'
    have s2b := of_decide_eq_true s2
    simp only [s0, s1, s2, decide_true, decide_false, Bool.true_and, Bool.false_and, Bool.and_true, Bool.and_false, Bool.and_self] at ez
    (try simp only [brK_e, gdK_e, skK_e, gdA_e, skA_e, pkK_e]); simp (maxSteps := 10000000) (disch := omega) only [fits_id, fits_id0, peq_zero, s0, s1, s2, ez, go_sem, ↓reduceIte, Nat.reduceEqDiff, Nat.reduceSub, Nat.reduceLeDiff, Nat.reduceAdd, Int.reduceEq, Int.reduceLT, Int.reduceLE]
  · rw [kindK_5 hki] at ez
    (try simp only [brK_e, gdK_e, skK_e, gdA_e, skA_e, pkK_e]); simp (maxSteps := 10000000) (disch := omega) only [fits_id, fits_id0, peq_zero, sp_all, hl, hbl, z1, z2, z3, z4, z5, z6, z7, z8, hki, go_sem, ↓reduceIte, Nat.reduceEqDiff, Nat.reduceSub, Nat.reduceLeDiff, Nat.reduceAdd, Int.reduceEq, Int.reduceLT, Int.reduceLE]
    refine call_with (okHasV _ _ _) ?_
    by_cases s0' : hasB e.dep e.orep e.oseq = false
    · simp only [s0', decide_true, decide_false, Bool.true_and, Bool.false_and, Bool.and_true, Bool.and_false, Bool.and_self] at ez
      (try simp only [brK_e, gdK_e, skK_e, gdA_e, skA_e, pkK_e]); simp (maxSteps := 10000000) (disch := omega) only [fits_id, fits_id0, peq_zero, s0', ez, go_sem, ↓reduceIte, Nat.reduceEqDiff, Nat.reduceSub, Nat.reduceLeDiff, Nat.reduceAdd, Int.reduceEq, Int.reduceLT, Int.reduceLE]
    have s0 : hasB e.dep e.orep e.oseq = true := by simpa using s0'
    (try simp only [brK_e, gdK_e, skK_e, gdA_e, skA_e, pkK_e]); simp (maxSteps := 10000000) (disch := omega) only [fits_id, fits_id0, peq_zero, s0, go_sem, ↓reduceIte, Nat.reduceEqDiff, Nat.reduceSub, Nat.reduceLeDiff, Nat.reduceAdd, Int.reduceEq, Int.reduceLT, Int.reduceLE]
    refine call_with (okIds (l := e.base.l) (most := 8) hb hbn) ?_
    by_cases s1' : idsB e.base.l 8 e.dep = false
    · simp only [s0, s1', decide_true, decide_false, Bool.true_and, Bool.false_and, Bool.and_true, Bool.and_false, Bool.and_self] at ez
      (try simp only [brK_e, gdK_e, skK_e, gdA_e, skA_e, pkK_e]); simp (maxSteps := 10000000) (disch := omega) only [fits_id, fits_id0, peq_zero, s0, s1', ez, go_sem, ↓reduceIte, Nat.reduceEqDiff, Nat.reduceSub, Nat.reduceLeDiff, Nat.reduceAdd, Int.reduceEq, Int.reduceLT, Int.reduceLE]
    have s1 : idsB e.base.l 8 e.dep = true := by simpa using s1'
    by_cases s2 : (2 : Int) ≤ (e.base.l.length : Int)
    rotate_left
    · simp only [s0, s1, s2, decide_true, decide_false, Bool.true_and, Bool.false_and, Bool.and_true, Bool.and_false, Bool.and_self] at ez
      (try simp only [brK_e, gdK_e, skK_e, gdA_e, skA_e, pkK_e]); simp (maxSteps := 10000000) (disch := omega) only [fits_id, fits_id0, peq_zero, s0, s1, s2, ez, go_sem, ↓reduceIte, Nat.reduceEqDiff, Nat.reduceSub, Nat.reduceLeDiff, Nat.reduceAdd, Int.reduceEq, Int.reduceLT, Int.reduceLE]
    (try simp only [brK_e, gdK_e, skK_e, gdA_e, skA_e, pkK_e]); simp (maxSteps := 10000000) (disch := omega) only [fits_id, fits_id0, peq_zero, s0, s1, s2, go_sem, ↓reduceIte, Nat.reduceEqDiff, Nat.reduceSub, Nat.reduceLeDiff, Nat.reduceAdd, Int.reduceEq, Int.reduceLT, Int.reduceLE]
    refine call_with (okSize ((e.data.length : Int))) ?_
    by_cases s3' : sizeB ((e.data.length : Int)) = false
    · simp only [s0, s1, s2, s3', decide_true, decide_false, Bool.true_and, Bool.false_and, Bool.and_true, Bool.and_false, Bool.and_self] at ez
      (try simp only [brK_e, gdK_e, skK_e, gdA_e, skA_e, pkK_e]); simp (maxSteps := 10000000) (disch := omega) only [fits_id, fits_id0, peq_zero, s0, s1, s2, s3', ez, go_sem, ↓reduceIte, Nat.reduceEqDiff, Nat.reduceSub, Nat.reduceLeDiff, Nat.reduceAdd, Int.reduceEq, Int.reduceLT, Int.reduceLE]
    have s3 : sizeB ((e.data.length : Int)) = true := by simpa using s3'
    have s3b := of_decide_eq_true s3
    simp only [s0, s1, s2, s3, decide_true, decide_false, Bool.true_and, Bool.false_and, Bool.and_true, Bool.and_false, Bool.and_self] at ez
    (try simp only [brK_e, gdK_e, skK_e, gdA_e, skA_e, pkK_e]); simp (maxSteps := 10000000) (disch := omega) only [fits_id, fits_id0, peq_zero, s0, s1, s2, s3, ez, go_sem, ↓reduceIte, Nat.reduceEqDiff, Nat.reduceSub, Nat.reduceLeDiff, Nat.reduceAdd, Int.reduceEq, Int.reduceLT, Int.reduceLE]
  · rw [kindK_6 hki] at ez
    (try simp only [brK_e, gdK_e, skK_e, gdA_e, skA_e, pkK_e]); simp (maxSteps := 10000000) (disch := omega) only [fits_id, fits_id0, peq_zero, sp_all, hl, hbl, z1, z2, z3, z4, z5, z6, z7, z8, hki, go_sem, ↓reduceIte, Nat.reduceEqDiff, Nat.reduceSub, Nat.reduceLeDiff, Nat.reduceAdd, Int.reduceEq, Int.reduceLT, Int.reduceLE]
    refine call_with (okHasV _ _ _) ?_
    by_cases s0' : hasB e.dep e.orep e.oseq = false
    · simp only [s0', decide_true, decide_false, Bool.true_and, Bool.false_and, Bool.and_true, Bool.and_false, Bool.and_self] at ez
      (try simp only [brK_e, gdK_e, skK_e, gdA_e, skA_e, pkK_e]); simp (maxSteps := 10000000) (disch := omega) only [fits_id, fits_id0, peq_zero, s0', ez, go_sem, ↓reduceIte, Nat.reduceEqDiff, Nat.reduceSub, Nat.reduceLeDiff, Nat.reduceAdd, Int.reduceEq, Int.reduceLT, Int.reduceLE]
    have s0 : hasB e.dep e.orep e.oseq = true := by simpa using s0'
    (try simp only [brK_e, gdK_e, skK_e, gdA_e, skA_e, pkK_e]); simp (maxSteps := 10000000) (disch := omega) only [fits_id, fits_id0, peq_zero, s0, go_sem, ↓reduceIte, Nat.reduceEqDiff, Nat.reduceSub, Nat.reduceLeDiff, Nat.reduceAdd, Int.reduceEq, Int.reduceLT, Int.reduceLE]
    refine call_with (okIds (l := e.gone.l) (most := 8) hg hgn) ?_
    by_cases s1' : idsB e.gone.l 8 e.dep = false
    · simp only [s0, s1', decide_true, decide_false, Bool.true_and, Bool.false_and, Bool.and_true, Bool.and_false, Bool.and_self] at ez
      (try simp only [brK_e, gdK_e, skK_e, gdA_e, skA_e, pkK_e]); simp (maxSteps := 10000000) (disch := omega) only [fits_id, fits_id0, peq_zero, s0, s1', ez, go_sem, ↓reduceIte, Nat.reduceEqDiff, Nat.reduceSub, Nat.reduceLeDiff, Nat.reduceAdd, Int.reduceEq, Int.reduceLT, Int.reduceLE]
    have s1 : idsB e.gone.l 8 e.dep = true := by simpa using s1'
    simp only [s0, s1, decide_true, decide_false, Bool.true_and, Bool.false_and, Bool.and_true, Bool.and_false, Bool.and_self] at ez
    (try simp only [brK_e, gdK_e, skK_e, gdA_e, skA_e, pkK_e]); simp (maxSteps := 10000000) (disch := omega) only [fits_id, fits_id0, peq_zero, s0, s1, ez, go_sem, ↓reduceIte, Nat.reduceEqDiff, Nat.reduceSub, Nat.reduceLeDiff, Nat.reduceAdd, Int.reduceEq, Int.reduceLT, Int.reduceLE]
  · rw [kindK_7 hki] at ez
    (try simp only [brK_e, gdK_e, skK_e, gdA_e, skA_e, pkK_e]); simp (maxSteps := 10000000) (disch := omega) only [fits_id, fits_id0, peq_zero, sp_all, hl, hbl, z1, z2, z3, z4, z5, z6, z7, z8, hki, go_sem, ↓reduceIte, Nat.reduceEqDiff, Nat.reduceSub, Nat.reduceLeDiff, Nat.reduceAdd, Int.reduceEq, Int.reduceLT, Int.reduceLE]
    refine call_with (okHasV _ _ _) ?_
    by_cases s0' : hasB e.dep e.orep e.oseq = false
    · simp only [s0', decide_true, decide_false, Bool.true_and, Bool.false_and, Bool.and_true, Bool.and_false, Bool.and_self] at ez
      (try simp only [brK_e, gdK_e, skK_e, gdA_e, skA_e, pkK_e]); simp (maxSteps := 10000000) (disch := omega) only [fits_id, fits_id0, peq_zero, s0', ez, go_sem, ↓reduceIte, Nat.reduceEqDiff, Nat.reduceSub, Nat.reduceLeDiff, Nat.reduceAdd, Int.reduceEq, Int.reduceLT, Int.reduceLE]
    have s0 : hasB e.dep e.orep e.oseq = true := by simpa using s0'
    (try simp only [brK_e, gdK_e, skK_e, gdA_e, skA_e, pkK_e]); simp (maxSteps := 10000000) (disch := omega) only [fits_id, fits_id0, peq_zero, s0, go_sem, ↓reduceIte, Nat.reduceEqDiff, Nat.reduceSub, Nat.reduceLeDiff, Nat.reduceAdd, Int.reduceEq, Int.reduceLT, Int.reduceLE]
    refine call_with (okIds (l := e.gone.l) (most := 8) hg hgn) ?_
    by_cases s1' : idsB e.gone.l 8 e.dep = false
    · simp only [s0, s1', decide_true, decide_false, Bool.true_and, Bool.false_and, Bool.and_true, Bool.and_false, Bool.and_self] at ez
      (try simp only [brK_e, gdK_e, skK_e, gdA_e, skA_e, pkK_e]); simp (maxSteps := 10000000) (disch := omega) only [fits_id, fits_id0, peq_zero, s0, s1', ez, go_sem, ↓reduceIte, Nat.reduceEqDiff, Nat.reduceSub, Nat.reduceLeDiff, Nat.reduceAdd, Int.reduceEq, Int.reduceLT, Int.reduceLE]
    have s1 : idsB e.gone.l 8 e.dep = true := by simpa using s1'
    (try simp only [brK_e, gdK_e, skK_e, gdA_e, skA_e, pkK_e]); simp (maxSteps := 10000000) (disch := omega) only [fits_id, fits_id0, peq_zero, s0, s1, go_sem, ↓reduceIte, Nat.reduceEqDiff, Nat.reduceSub, Nat.reduceLeDiff, Nat.reduceAdd, Int.reduceEq, Int.reduceLT, Int.reduceLE]
    refine call_with (okPlace e) ?_
    by_cases s2' : placeB e = false
    · simp only [s0, s1, s2', decide_true, decide_false, Bool.true_and, Bool.false_and, Bool.and_true, Bool.and_false, Bool.and_self] at ez
      (try simp only [brK_e, gdK_e, skK_e, gdA_e, skA_e, pkK_e]); simp (maxSteps := 10000000) (disch := omega) only [fits_id, fits_id0, peq_zero, s0, s1, s2', ez, go_sem, ↓reduceIte, Nat.reduceEqDiff, Nat.reduceSub, Nat.reduceLeDiff, Nat.reduceAdd, Int.reduceEq, Int.reduceLT, Int.reduceLE]
    have s2 : placeB e = true := by simpa using s2'
    (try simp only [brK_e, gdK_e, skK_e, gdA_e, skA_e, pkK_e]); simp (maxSteps := 10000000) (disch := omega) only [fits_id, fits_id0, peq_zero, s0, s1, s2, go_sem, ↓reduceIte, Nat.reduceEqDiff, Nat.reduceSub, Nat.reduceLeDiff, Nat.reduceAdd, Int.reduceEq, Int.reduceLT, Int.reduceLE]
    refine call_with (okName _) ?_
    by_cases s3' : nameB e.name = false
    · simp only [s0, s1, s2, s3', decide_true, decide_false, Bool.true_and, Bool.false_and, Bool.and_true, Bool.and_false, Bool.and_self] at ez
      (try simp only [brK_e, gdK_e, skK_e, gdA_e, skA_e, pkK_e]); simp (maxSteps := 10000000) (disch := omega) only [fits_id, fits_id0, peq_zero, s0, s1, s2, s3', ez, go_sem, ↓reduceIte, Nat.reduceEqDiff, Nat.reduceSub, Nat.reduceLeDiff, Nat.reduceAdd, Int.reduceEq, Int.reduceLT, Int.reduceLE]
    have s3 : nameB e.name = true := by simpa using s3'
    simp only [s0, s1, s2, s3, decide_true, decide_false, Bool.true_and, Bool.false_and, Bool.and_true, Bool.and_false, Bool.and_self] at ez
    (try simp only [brK_e, gdK_e, skK_e, gdA_e, skA_e, pkK_e]); simp (maxSteps := 10000000) (disch := omega) only [fits_id, fits_id0, peq_zero, s0, s1, s2, s3, ez, go_sem, ↓reduceIte, Nat.reduceEqDiff, Nat.reduceSub, Nat.reduceLeDiff, Nat.reduceAdd, Int.reduceEq, Int.reduceLT, Int.reduceLE]
  · rw [kindK_8 hki] at ez
    by_cases s0 : 1 ≤ e.ward
    rotate_left
    · simp only [s0, decide_true, decide_false, Bool.true_and, Bool.false_and, Bool.and_true, Bool.and_false, Bool.and_self] at ez
      (try simp only [brK_e, gdK_e, skK_e, gdA_e, skA_e, pkK_e]); simp (maxSteps := 10000000) (disch := omega) only [fits_id, fits_id0, peq_zero, sp_all, hl, hbl, z1, z2, z3, z4, z5, z6, z7, z8, hki, s0, ez, go_sem, ↓reduceIte, Nat.reduceEqDiff, Nat.reduceSub, Nat.reduceLeDiff, Nat.reduceAdd, Int.reduceEq, Int.reduceLT, Int.reduceLE]
    by_cases s1 : e.ward ≤ 4
    rotate_left
    · simp only [s0, s1, decide_true, decide_false, Bool.true_and, Bool.false_and, Bool.and_true, Bool.and_false, Bool.and_self] at ez
      (try simp only [brK_e, gdK_e, skK_e, gdA_e, skA_e, pkK_e]); simp (maxSteps := 10000000) (disch := omega) only [fits_id, fits_id0, peq_zero, sp_all, hl, hbl, z1, z2, z3, z4, z5, z6, z7, z8, hki, s0, s1, ez, go_sem, ↓reduceIte, Nat.reduceEqDiff, Nat.reduceSub, Nat.reduceLeDiff, Nat.reduceAdd, Int.reduceEq, Int.reduceLT, Int.reduceLE]
    simp only [s0, s1, decide_true, decide_false, Bool.true_and, Bool.false_and, Bool.and_true, Bool.and_false, Bool.and_self] at ez
    (try simp only [brK_e, gdK_e, skK_e, gdA_e, skA_e, pkK_e]); simp (maxSteps := 10000000) (disch := omega) only [fits_id, fits_id0, peq_zero, sp_all, hl, hbl, z1, z2, z3, z4, z5, z6, z7, z8, hki, s0, s1, ez, go_sem, ↓reduceIte, Nat.reduceEqDiff, Nat.reduceSub, Nat.reduceLeDiff, Nat.reduceAdd, Int.reduceEq, Int.reduceLT, Int.reduceLE]
  · rw [kindK_9 hki] at ez
    (try simp only [brK_e, gdK_e, skK_e, gdA_e, skA_e, pkK_e]); simp (maxSteps := 10000000) (disch := omega) only [fits_id, fits_id0, peq_zero, sp_all, hl, hbl, z1, z2, z3, z4, z5, z6, z7, z8, hki, ez, go_sem, ↓reduceIte, Nat.reduceEqDiff, Nat.reduceSub, Nat.reduceLeDiff, Nat.reduceAdd, Int.reduceEq, Int.reduceLT, Int.reduceLE]
end Go.Proofs.Ytmeecblciegkkaa.Fw
namespace Go.Proofs.Ytmeecblciegkkaa.Fw
open Go.RowKit Go.Proofs
theorem check_zk {e : Evt} (h1 : BaseP e) (h2 : DepP e) : checkB e = (zerosB (bareE e) && kindK e) := by simp [checkB, h1, h2]
theorem zero00 : zeroB 0 0 = true := rfl
theorem ids_e (l : List Idn) (n : Int) (a : Vc) : idsB l n a = (riseB a l && decide ((l.length : Int) ≤ n)) := by unfold idsB; rw [Bool.and_comm]
theorem k3_eq (f : Int) (s : List UInt8) : (sizeB f && (decide ((1 : Int) ≤ (s.length : Int)) && (sizeB (s.length : Int) && sizeB (f + (s.length : Int))))) = (sizeB f && (!decide (s = []) && decide ((s.length : Int) ≤ 200 - f))) := by
  have e1 : decide ((1 : Int) ≤ (s.length : Int)) = !decide (s = []) := by
    cases s with
    | nil => rfl
    | cons a s => simp; omega
  rw [e1]
  unfold sizeB
  by_cases h1 : 0 ≤ f ∧ f ≤ 200
  · rw [decide_eq_true h1, Bool.true_and, Bool.true_and]
    congr 1
    rw [← Bool.decide_and]
    exact decide_eq_decide.2 (by omega)
  · rw [decide_eq_false h1, Bool.false_and, Bool.false_and]
theorem k8_eq (n : Int) : decide (n ≤ 8) = decide (n ≤ 8) := rfl
theorem size_len (s : List UInt8) : sizeB (s.length : Int) = decide ((s.length : Int) ≤ 200) := decide_eq_decide.2 (by omega)
theorem zb_1 {e : Evt} (h : e.kind = 1) : zerosB (bareE e) = madeB e false true false false false false false := by simp [zerosB, bareE, madeB, h, zero00, SlI.nil, Bool.and_assoc]
theorem check_1 {e : Evt} (h1 : BaseP e) (h2 : DepP e) (h : e.kind = 1) : checkB e = (madeB e false true false false false false false && (placeB e && (nameB e.name))) := by rw [check_zk h1 h2, zb_1 h, kindK_1 h]
theorem zb_2 {e : Evt} (h : e.kind = 2) : zerosB (bareE e) = madeB e false true false false false false false := by simp [zerosB, bareE, madeB, h, zero00, SlI.nil, Bool.and_assoc]
theorem check_2 {e : Evt} (h1 : BaseP e) (h2 : DepP e) (h : e.kind = 2) : checkB e = (madeB e false true false false false false false && (placeB e && (nameB e.name))) := by rw [check_zk h1 h2, zb_2 h, kindK_2 h]
theorem zb_3 {e : Evt} (h : e.kind = 3) : zerosB (bareE e) = madeB e true false false true true true false := by simp [zerosB, bareE, madeB, h, zero00, SlI.nil, Bool.and_assoc]
theorem check_3 {e : Evt} (h1 : BaseP e) (h2 : DepP e) (h : e.kind = 3) : checkB e = (madeB e true false false true true true false && (hasB e.dep e.orep e.oseq && (riseB e.dep e.base.l && (decide ((e.base.l.length : Int) ≤ 1) && (sizeB e.off && (!decide (e.data = []) && (decide ((e.data.length : Int) ≤ 200 - e.off)))))))) := by rw [check_zk h1 h2, zb_3 h, kindK_3 h]; simp only [ids_e, k3_eq, Bool.and_assoc]
theorem zb_4 {e : Evt} (h : e.kind = 4) : zerosB (bareE e) = madeB e true false false true true false false := by simp [zerosB, bareE, madeB, h, zero00, SlI.nil, Bool.and_assoc]
theorem check_4 {e : Evt} (h1 : BaseP e) (h2 : DepP e) (h : e.kind = 4) : checkB e = (madeB e true false false true true false false && (hasB e.dep e.orep e.oseq && (riseB e.dep e.base.l && (decide ((e.base.l.length : Int) ≤ 1) && (sizeB e.off))))) := by rw [check_zk h1 h2, zb_4 h, kindK_4 h]; simp only [ids_e, k3_eq, Bool.and_assoc]
theorem zb_5 {e : Evt} (h : e.kind = 5) : zerosB (bareE e) = madeB e true false false true false true false := by simp [zerosB, bareE, madeB, h, zero00, SlI.nil, Bool.and_assoc]
theorem check_5 {e : Evt} (h1 : BaseP e) (h2 : DepP e) (h : e.kind = 5) : checkB e = (madeB e true false false true false true false && (hasB e.dep e.orep e.oseq && (riseB e.dep e.base.l && (decide ((2 : Int) ≤ (e.base.l.length : Int)) && (decide ((e.base.l.length : Int) ≤ 8) && (decide ((e.data.length : Int) ≤ 200))))))) := by rw [check_zk h1 h2, zb_5 h, kindK_5 h]; simp only [ids_e, size_len, Bool.and_assoc]; congr 3; cases decide ((e.base.l.length : Int) ≤ 8) <;> cases decide ((2 : Int) ≤ (e.base.l.length : Int)) <;> rfl
theorem zb_6 {e : Evt} (h : e.kind = 6) : zerosB (bareE e) = madeB e true false true false false false false := by simp [zerosB, bareE, madeB, h, zero00, SlI.nil, Bool.and_assoc]
theorem check_6 {e : Evt} (h1 : BaseP e) (h2 : DepP e) (h : e.kind = 6) : checkB e = (madeB e true false true false false false false && (hasB e.dep e.orep e.oseq && (idsB e.gone.l 8 e.dep))) := by rw [check_zk h1 h2, zb_6 h, kindK_6 h]
theorem zb_7 {e : Evt} (h : e.kind = 7) : zerosB (bareE e) = madeB e true true true false false false false := by simp [zerosB, bareE, madeB, h, zero00, SlI.nil, Bool.and_assoc]
theorem check_7 {e : Evt} (h1 : BaseP e) (h2 : DepP e) (h : e.kind = 7) : checkB e = (madeB e true true true false false false false && (hasB e.dep e.orep e.oseq && (idsB e.gone.l 8 e.dep && (placeB e && (nameB e.name))))) := by rw [check_zk h1 h2, zb_7 h, kindK_7 h]
theorem zb_8 {e : Evt} (h : e.kind = 8) : zerosB (bareE e) = madeB e false false false false false false true := by simp [zerosB, bareE, madeB, h, zero00, SlI.nil, Bool.and_assoc]
theorem check_8 {e : Evt} (h1 : BaseP e) (h2 : DepP e) (h : e.kind = 8) : checkB e = (madeB e false false false false false false true && (decide (1 ≤ e.ward) && (decide (e.ward ≤ 4)))) := by rw [check_zk h1 h2, zb_8 h, kindK_8 h]
theorem zb_9 {e : Evt} (h : e.kind = 9) : zerosB (bareE e) = madeB e false false false false false false false := by simp [zerosB, bareE, madeB, h, zero00, SlI.nil, Bool.and_assoc]
theorem check_9 {e : Evt} (h1 : BaseP e) (h2 : DepP e) (h : e.kind = 9) : checkB e = (madeB e false false false false false false false && (true)) := by rw [check_zk h1 h2, zb_9 h, kindK_9 h]
end Go.Proofs.Ytmeecblciegkkaa.Fw
namespace Go.Proofs.Ytmeecblciegkkaa.Fw
open Go.RowKit Go.Proofs
/-! What a right event is like. -/
structure Good (e : Evt) : Prop where
  base : BaseP e
  dep : DepP e
  obj : idOk (e.orep, e.oseq)
  dir : idOk (e.drep, e.dseq)
  gone : (∀ x ∈ e.gone.l, idOk x) ∧ e.gone.l.length ≤ 8
  basel : (∀ x ∈ e.base.l, idOk x) ∧ e.base.l.length ≤ 8
  name : e.name.length ≤ 12
  off : 0 ≤ e.off ∧ e.off ≤ 200
  data : e.data.length ≤ 200
  ward : 0 ≤ e.ward ∧ e.ward ≤ 4
theorem has_ok {a : Vc} {r : Int} {q : Nat} (hd : ∀ i, i < 8 → a i ≤ 1048576) (h : hasB a r q = true) : idOk (r, q) := by
  have h := of_decide_eq_true h
  unfold getV at h
  split at h
  · rename_i hr
    have := hd (r - 1).toNat (by omega)
    exact ⟨by simp only; omega, by simp only; omega, by simp only; omega⟩
  · omega
theorem zero_ok {r : Int} {q : Nat} (h : zeroB r q = true) : idOk (r, q) := by
  obtain ⟨rfl, rfl⟩ := of_decide_eq_true h
  exact ⟨by decide, by decide, by decide⟩
theorem rise_all {a : Vc} {l : List Idn} (hd : ∀ i, i < 8 → a i ≤ 1048576) (h : riseB a l = true) : ∀ x ∈ l, idOk x := by
  have hr : RiseP a l := by simpa [riseB] using h
  intro x hx
  obtain ⟨j, hj, rfl⟩ := List.getElem_of_mem hx
  exact has_ok hd (hr j hj).1
theorem nil_all {l : List Idn} (h : (l.length : Int) = 0) : (∀ x ∈ l, idOk x) ∧ l.length ≤ 8 := by
  have : l = [] := List.length_eq_zero_iff.1 (by omega)
  subst this; simp
theorem name_len {s : List UInt8} (h : nameB s = true) : s.length ≤ 12 := by
  unfold nameB at h
  simp only [Bool.and_eq_true, decide_eq_true_eq] at h
  exact h.1.2.1
theorem size_ok {n : Int} (h : sizeB n = true) : 0 ≤ n ∧ n ≤ 200 := of_decide_eq_true h
theorem ids_ok {a : Vc} {l : List Idn} {n : Int} (hd : ∀ i, i < 8 → a i ≤ 1048576) (hn : n ≤ 8) (h : idsB l n a = true) : (∀ x ∈ l, idOk x) ∧ l.length ≤ 8 := by
  unfold idsB at h
  simp only [Bool.and_eq_true, decide_eq_true_eq] at h
  exact ⟨rise_all hd h.2, by omega⟩
theorem nil_len {s : List UInt8} {n : Nat} (h : s = []) : s.length ≤ n := by subst h; simp
theorem place_ok {e : Evt} (hd : ∀ i, i < 8 → e.dep i ≤ 1048576) (h : placeB e = true) : idOk (e.drep, e.dseq) := by
  unfold placeB at h
  rcases Bool.or_eq_true_iff.1 h with h | h
  · exact zero_ok h
  · exact has_ok hd h
theorem good_of_check {e : Evt} (h : checkB e = true) : Good e := by
  have hB : BaseP e := Classical.byContradiction fun hn => by rw [check_b hn] at h; cases h
  have hD : DepP e := Classical.byContradiction fun hn => by rw [check_d hn] at h; cases h
  rw [check_zk hB hD] at h
  have hk : e.kind = 1 ∨ e.kind = 2 ∨ e.kind = 3 ∨ e.kind = 4 ∨ e.kind = 5 ∨ e.kind = 6 ∨ e.kind = 7 ∨ e.kind = 8 ∨ e.kind = 9 := by have := hB.2.2.2.2.2; omega
  have w0 : ∀ {n : Int}, n = 0 → 0 ≤ n ∧ n ≤ 4 := fun h => by omega
  have o0 : ∀ {n : Int}, n = 0 → 0 ≤ n ∧ n ≤ 200 := fun h => by omega
  rcases hk with k | k | k | k | k | k | k | k | k
  ·
    rw [zb_1 k, kindK_1 k] at h
    simp only [madeB, Bool.and_eq_true, Bool.or_eq_true, decide_eq_true_eq, true_or, false_or, true_and, Bool.false_eq_true, reduceCtorEq, and_true] at h
    obtain ⟨⟨m1, m3, m4, m5, m6, m7⟩, k1, k2⟩ := h
    exact ⟨hB, hD, zero_ok m1, place_ok hD k1, nil_all m3, nil_all m4, name_len k2, o0 m5, nil_len m6, w0 m7⟩
  ·
    rw [zb_2 k, kindK_2 k] at h
    simp only [madeB, Bool.and_eq_true, Bool.or_eq_true, decide_eq_true_eq, true_or, false_or, true_and, Bool.false_eq_true, reduceCtorEq, and_true] at h
    obtain ⟨⟨m1, m3, m4, m5, m6, m7⟩, k1, k2⟩ := h
    exact ⟨hB, hD, zero_ok m1, place_ok hD k1, nil_all m3, nil_all m4, name_len k2, o0 m5, nil_len m6, w0 m7⟩
  ·
    rw [zb_3 k, kindK_3 k] at h
    simp only [madeB, Bool.and_eq_true, Bool.or_eq_true, decide_eq_true_eq, true_or, false_or, true_and, Bool.false_eq_true, reduceCtorEq, and_true] at h
    obtain ⟨⟨⟨m2, mn⟩, m3, m7⟩, k1, k2, k3, k4, k5, k6⟩ := h
    exact ⟨hB, hD, has_ok hD k1, zero_ok m2, nil_all m3, ids_ok hD (by decide) k2, nil_len mn, size_ok k3, by have := size_ok k5; omega, w0 m7⟩
  ·
    rw [zb_4 k, kindK_4 k] at h
    simp only [madeB, Bool.and_eq_true, Bool.or_eq_true, decide_eq_true_eq, true_or, false_or, true_and, Bool.false_eq_true, reduceCtorEq, and_true] at h
    obtain ⟨⟨⟨m2, mn⟩, m3, m6, m7⟩, k1, k2, k3⟩ := h
    exact ⟨hB, hD, has_ok hD k1, zero_ok m2, nil_all m3, ids_ok hD (by decide) k2, nil_len mn, size_ok k3, nil_len m6, w0 m7⟩
  ·
    rw [zb_5 k, kindK_5 k] at h
    simp only [madeB, Bool.and_eq_true, Bool.or_eq_true, decide_eq_true_eq, true_or, false_or, true_and, Bool.false_eq_true, reduceCtorEq, and_true] at h
    obtain ⟨⟨⟨m2, mn⟩, m3, m5, m7⟩, k1, k2, k3, k4⟩ := h
    exact ⟨hB, hD, has_ok hD k1, zero_ok m2, nil_all m3, ids_ok hD (by decide) k2, nil_len mn, o0 m5, by have := size_ok k4; omega, w0 m7⟩
  ·
    rw [zb_6 k, kindK_6 k] at h
    simp only [madeB, Bool.and_eq_true, Bool.or_eq_true, decide_eq_true_eq, true_or, false_or, true_and, Bool.false_eq_true, reduceCtorEq, and_true] at h
    obtain ⟨⟨⟨m2, mn⟩, m4, m5, m6, m7⟩, k1, k2⟩ := h
    exact ⟨hB, hD, has_ok hD k1, zero_ok m2, ids_ok hD (by decide) k2, nil_all m4, nil_len mn, o0 m5, nil_len m6, w0 m7⟩
  ·
    rw [zb_7 k, kindK_7 k] at h
    simp only [madeB, Bool.and_eq_true, Bool.or_eq_true, decide_eq_true_eq, true_or, false_or, true_and, Bool.false_eq_true, reduceCtorEq, and_true] at h
    obtain ⟨⟨m4, m5, m6, m7⟩, k1, k2, k3, k4⟩ := h
    exact ⟨hB, hD, has_ok hD k1, place_ok hD k3, ids_ok hD (by decide) k2, nil_all m4, name_len k4, o0 m5, nil_len m6, w0 m7⟩
  ·
    rw [zb_8 k, kindK_8 k] at h
    simp only [madeB, Bool.and_eq_true, Bool.or_eq_true, decide_eq_true_eq, true_or, false_or, true_and, Bool.false_eq_true, reduceCtorEq, and_true] at h
    obtain ⟨⟨m1, ⟨m2, mn⟩, m3, m4, m5, m6⟩, k1, k2⟩ := h
    exact ⟨hB, hD, zero_ok m1, zero_ok m2, nil_all m3, nil_all m4, nil_len mn, o0 m5, nil_len m6, by omega⟩
  ·
    rw [zb_9 k, kindK_9 k] at h
    simp only [madeB, Bool.and_eq_true, Bool.or_eq_true, decide_eq_true_eq, true_or, false_or, true_and, Bool.false_eq_true, reduceCtorEq, and_true] at h
    obtain ⟨m1, ⟨m2, mn⟩, m3, m4, m5, m6, m7⟩ := h
    exact ⟨hB, hD, zero_ok m1, zero_ok m2, nil_all m3, nil_all m4, nil_len mn, o0 m5, nil_len m6, w0 m7⟩
end Go.Proofs.Ytmeecblciegkkaa.Fw
namespace Go.Proofs.Ytmeecblciegkkaa.Fw
open Go.RowKit Go.Proofs
def fieldsE (e : Evt) : List (List UInt8) := [numB e.rep.toNat, numB e.seq, shrinkB e.dep (fun _ => 0), numB e.kind.toNat, idB (e.orep, e.oseq), idB (e.drep, e.dseq), e.name, idsW e.gone.l, idsW e.base.l, numB e.off.toNat, e.data, numB e.ward.toNat]
def evB (e : Evt) : List UInt8 := packB (fieldsE e)
theorem okWrite_bad (e : Evt) (he : ev e) (hc : checkB e = false) {h d} : FunOk Try.prog 44 [.vec 21 (evE e)] h d (.tup [.pv (.sl true 0 []), .pv (.i .i64 7)]) [] := by
  refine fun_pure mixed fn44 (by simp) rfl rfl fun F => ?_
  (try simp only [brK_e, gdK_e, skK_e, gdA_e, skA_e, pkK_e]); simp (maxSteps := 10000000) (disch := omega) only [ir44, go_sem, ↓reduceIte, Nat.reduceEqDiff, Nat.reduceSub, Nat.reduceLeDiff, Nat.reduceAdd, Int.reduceEq, Int.reduceLT, Int.reduceLE]
  refine call_with (okCheck e he) ?_
  (try simp only [brK_e, gdK_e, skK_e, gdA_e, skA_e, pkK_e]); simp (maxSteps := 10000000) (disch := omega) only [hc, go_sem, ↓reduceIte, Nat.reduceEqDiff, Nat.reduceSub, Nat.reduceLeDiff, Nat.reduceAdd, Int.reduceEq, Int.reduceLT, Int.reduceLE]
theorem u64_nat {n : Int} (h : 0 ≤ n ∧ n < 9223372036854775808) : IntKind.u64.wrap n = ((n.toNat : Nat) : Int) := by
  rw [wrap_u64 (by omega)]; omega
theorem num_len9 {n : Nat} (h : n < 18446744073709551616) : (numB n).length ≤ 8 := numB_len 8 n (by omega)
theorem fields_len {e : Evt} (g : Good e) : ∀ b ∈ fieldsE e, b.length ≤ 300 := by
  obtain ⟨b1, b2, b3, b4, b5, b6, b7⟩ := g.base
  have h0 := num_len9 (n := e.rep.toNat) (by omega)
  have h1 := num_len9 (n := e.seq) (by omega)
  have h3 := num_len9 (n := e.kind.toNat) (by omega)
  have h9 := num_len9 (n := e.off.toNat) (by have := g.off; omega)
  have h11 := num_len9 (n := e.ward.toNat) (by have := g.ward; omega)
  have h4 := idB_len _ g.obj
  have h5 := idB_len _ g.dir
  have h7 := idsW_len g.gone.1
  have h8 := idsW_len g.basel.1
  have h7' := g.gone.2
  have h8' := g.basel.2
  have hn := g.name
  have hd := g.data
  have h2 : (shrinkB e.dep (fun _ => 0)).length ≤ 300 := by
    have := byTo_len e.dep (fun _ => 0) (fun i hi => by have := g.dep i hi; omega) (by simp) 8 (by omega)
    simp only [shrinkB, List.length_cons]; omega
  intro b hb
  simp only [fieldsE, List.mem_cons, List.not_mem_nil, or_false] at hb
  rcases hb with rfl | rfl | rfl | rfl | rfl | rfl | rfl | rfl | rfl | rfl | rfl | rfl <;> omega
theorem fields_pack {e : Evt} (g : Good e) : packLen (fieldsE e) ≤ 3636 := by
  have h := fields_len g
  have key : ∀ L : List (List UInt8), (∀ b ∈ L, b.length ≤ 300) → packLen L ≤ 303 * L.length := by
    intro L
    induction L with
    | nil => intro _; simp [packLen]
    | cons b L ih =>
      intro hb
      have h1 := hb b List.mem_cons_self
      have h2 := ih fun c hc => hb c (List.mem_cons_of_mem _ hc)
      simp only [packLen, List.length_cons]; omega
  have := key _ h
  simpa [fieldsE] using this
set_option maxHeartbeats 400000 in
theorem okWrite (e : Evt) (he : ev e) (hc : checkB e = true) {h d} : FunOk Try.prog 44 [.vec 21 (evE e)] h d (.tup [.os d, .pv (.i .i64 0)]) [.new d (.row 1 (bytesE (evB e)))] := by
  refine fun_row2 mixed fn44 (by simp) rfl (.inr (bytesE_all _)) rfl fun F => ?_
  have g := good_of_check hc
  obtain ⟨b1, b2, b3, b4, b5, b6, b7⟩ := g.base
  have hdep := g.dep
  have w0 := u64_nat (n := e.rep) (by omega)
  have w1 : IntKind.u64.wrap (e.seq : Int) = (e.seq : Int) := wrap_u64 (by omega)
  have w3 := u64_nat (n := e.kind) (by omega)
  have w9 := u64_nat (n := e.off) (by have := g.off; omega)
  have w11 := u64_nat (n := e.ward) (by have := g.ward; omega)
  obtain ⟨hg1, hg2, hg3, hg4, hg5⟩ := he
  (try simp only [brK_e, gdK_e, skK_e, gdA_e, skA_e, pkK_e]); simp (maxSteps := 10000000) (disch := omega) only [ir44, go_sem, ↓reduceIte, Nat.reduceEqDiff, Nat.reduceSub, Nat.reduceLeDiff, Nat.reduceAdd, Int.reduceEq, Int.reduceLT, Int.reduceLE]
  refine call_with (okCheck e ⟨hg1, hg2, hg3, hg4, hg5⟩) ?_
  (try simp only [brK_e, gdK_e, skK_e, gdA_e, skA_e, pkK_e]); simp (maxSteps := 10000000) (disch := omega) only [hc, w0, w1, w3, w9, w11, go_sem, ↓reduceIte, Nat.reduceEqDiff, Nat.reduceSub, Nat.reduceLeDiff, Nat.reduceAdd, Int.reduceEq, Int.reduceLT, Int.reduceLE]
  refine call_with (okNum e.rep.toNat (by omega)) ?_
  (try simp only [brK_e, gdK_e, skK_e, gdA_e, skA_e, pkK_e]); simp (maxSteps := 10000000) (disch := omega) only [hc, w0, w1, w3, w9, w11, go_sem, ↓reduceIte, Nat.reduceEqDiff, Nat.reduceSub, Nat.reduceLeDiff, Nat.reduceAdd, Int.reduceEq, Int.reduceLT, Int.reduceLE]
  refine call_with (okNum e.seq (by omega)) ?_
  (try simp only [brK_e, gdK_e, skK_e, gdA_e, skA_e, pkK_e]); simp (maxSteps := 10000000) (disch := omega) only [hc, w0, w1, w3, w9, w11, zero_vE, go_sem, ↓reduceIte, Nat.reduceEqDiff, Nat.reduceSub, Nat.reduceLeDiff, Nat.reduceAdd, Int.reduceEq, Int.reduceLT, Int.reduceLE]
  refine call_with (okShrink e.dep (fun _ => 0) (fun i hi => by have := hdep i hi; omega) (by simp)) ?_
  (try simp only [brK_e, gdK_e, skK_e, gdA_e, skA_e, pkK_e]); simp (maxSteps := 10000000) (disch := omega) only [hc, w0, w1, w3, w9, w11, go_sem, ↓reduceIte, Nat.reduceEqDiff, Nat.reduceSub, Nat.reduceLeDiff, Nat.reduceAdd, Int.reduceEq, Int.reduceLT, Int.reduceLE]
  refine call_with (okNum e.kind.toNat (by omega)) ?_
  (try simp only [brK_e, gdK_e, skK_e, gdA_e, skA_e, pkK_e]); simp (maxSteps := 10000000) (disch := omega) only [hc, w0, w1, w3, w9, w11, go_sem, ↓reduceIte, Nat.reduceEqDiff, Nat.reduceSub, Nat.reduceLeDiff, Nat.reduceAdd, Int.reduceEq, Int.reduceLT, Int.reduceLE]
  refine call_with (okWriteID (e.orep, e.oseq) g.obj) ?_
  (try simp only [brK_e, gdK_e, skK_e, gdA_e, skA_e, pkK_e]); simp (maxSteps := 10000000) (disch := omega) only [hc, w0, w1, w3, w9, w11, go_sem, ↓reduceIte, Nat.reduceEqDiff, Nat.reduceSub, Nat.reduceLeDiff, Nat.reduceAdd, Int.reduceEq, Int.reduceLT, Int.reduceLE]
  refine call_with (okWriteID (e.drep, e.dseq) g.dir) ?_
  (try simp only [brK_e, gdK_e, skK_e, gdA_e, skA_e, pkK_e]); simp (maxSteps := 10000000) (disch := omega) only [hc, w0, w1, w3, w9, w11, go_sem, ↓reduceIte, Nat.reduceEqDiff, Nat.reduceSub, Nat.reduceLeDiff, Nat.reduceAdd, Int.reduceEq, Int.reduceLT, Int.reduceLE]
  refine call_with (okWriteIDs (l := e.gone.l) rfl rfl hg1 hg3 g.gone.1) ?_
  (try simp only [brK_e, gdK_e, skK_e, gdA_e, skA_e, pkK_e]); simp (maxSteps := 10000000) (disch := omega) only [hc, w0, w1, w3, w9, w11, go_sem, ↓reduceIte, Nat.reduceEqDiff, Nat.reduceSub, Nat.reduceLeDiff, Nat.reduceAdd, Int.reduceEq, Int.reduceLT, Int.reduceLE]
  refine call_with (okWriteIDs (l := e.base.l) rfl rfl hg2 hg4 g.basel.1) ?_
  (try simp only [brK_e, gdK_e, skK_e, gdA_e, skA_e, pkK_e]); simp (maxSteps := 10000000) (disch := omega) only [hc, w0, w1, w3, w9, w11, go_sem, ↓reduceIte, Nat.reduceEqDiff, Nat.reduceSub, Nat.reduceLeDiff, Nat.reduceAdd, Int.reduceEq, Int.reduceLT, Int.reduceLE]
  refine call_with (okNum e.off.toNat (by have := g.off; omega)) ?_
  (try simp only [brK_e, gdK_e, skK_e, gdA_e, skA_e, pkK_e]); simp (maxSteps := 10000000) (disch := omega) only [hc, w0, w1, w3, w9, w11, go_sem, ↓reduceIte, Nat.reduceEqDiff, Nat.reduceSub, Nat.reduceLeDiff, Nat.reduceAdd, Int.reduceEq, Int.reduceLT, Int.reduceLE]
  refine call_with (okNum e.ward.toNat (by have := g.ward; omega)) ?_
  (try simp only [brK_e, gdK_e, skK_e, gdA_e, skA_e, pkK_e]); simp (maxSteps := 10000000) (disch := omega) only [hc, w0, w1, w3, w9, w11, go_sem, ↓reduceIte, Nat.reduceEqDiff, Nat.reduceSub, Nat.reduceLeDiff, Nat.reduceAdd, Int.reduceEq, Int.reduceLT, Int.reduceLE]
  refine call_with (okPack (f := false) (z := 1) (es := (fieldsE e).map bE) (L := fieldsE e) rfl rfl (bsEq_map _) (.inr rfl) (by have := fields_pack g; omega) (fun b hb => by have := fields_len g b hb; omega)) ?_
  have hW : evB e = packB (fieldsE e) := rfl
  rw [hW]
  generalize packB (fieldsE e) = W
  generalize hR : (fun (y : SV) (g : Nat → Option Blk) => ∃ n, y = SV.tup [SV.os n, SV.pv (PV.i .i64 0)] ∧ g n = some (Blk.row 1 (bytesE W))) = R
  (try simp only [brK_e, gdK_e, skK_e, gdA_e, skA_e, pkK_e]); simp (maxSteps := 10000000) (disch := omega) only [go_sem, ↓reduceIte, Nat.reduceEqDiff, Nat.reduceSub, Nat.reduceLeDiff, Nat.reduceAdd, Int.reduceEq, Int.reduceLT, Int.reduceLE]
  rw [← hR]
  exact ⟨52, rfl, rfl⟩
end Go.Proofs.Ytmeecblciegkkaa.Fw
namespace Go.Proofs.Ytmeecblciegkkaa.Fw
open Go.RowKit Go.Proofs
/-! Reading of what a right event was written as. -/
theorem id_back {x : Idn} (h : idOk x) : rdID (idB x) = x := by
  obtain ⟨h1, h2, h3⟩ := h
  obtain ⟨r, q⟩ := x
  simp only at h1 h2 h3
  by_cases hz : r = 0 ∧ q = 0
  · obtain ⟨rfl, rfl⟩ := hz; rfl
  · have e : idB (r, q) = UInt8.ofNat r.toNat :: numB q := if_neg hz
    rw [e]
    unfold rdID
    have ea : asNum (numB q) = (q, 0) := asNum_numB (by omega)
    rw [List.drop_succ_cons, List.drop_zero, ea, if_pos ⟨by simp, rfl, h3⟩]
    simp only [List.getD_cons_zero]
    rw [UInt8.toNat_ofNat']
    exact Prod.ext (by simp only; omega) rfl
theorem ids_back {l : List Idn} (h : ∀ x ∈ l, idOk x) : (l.map idB).map rdID = l := by
  rw [List.map_map]
  conv => rhs; rw [← List.map_id l]
  exact List.map_congr_left fun x hx => id_back (h x hx)
theorem small_back {n : Nat} (h : n ≤ 1073741824) : smallB (numB n) = n := by
  unfold smallB
  rw [asNum_numB (by omega), if_pos ⟨rfl, h⟩]
def stRdIDs (l : List Idn) (k : Nat) : FS := mk [(22, .pv (.i .i64 k)), (21, .pv (.i .i64 l.length)), (20, .os 14), (8, .os 40), (0, .pv (.sl false 1 (bytesE (idsW l))))] [(40, some (.row 2 ((l.take k).map idE))), (14, some (.row 1 ((l.map idB).map bE)))]
set_option maxHeartbeats 2000000 in
theorem okReadIDs_ok {l : List Idn} (hn : l.length ≤ 8) (hok : ∀ y ∈ l, idOk y) {h d} :
    FunOk Try.prog 95 [.pv (.sl false 1 (bytesE (idsW l))), .pv (.i .i64 8)] h d (.tup [.pv (.sl false 2 (l.map idE)), .pv (.i .i64 0)]) [] := by
  refine fun_pureW mixed fn95 (by simp) rfl rfl fun F => ?_
  have hw := idsW_len hok
  have hu : unpackG (idsW l) [] 8 = (l.map idB, 0) := unpack_all (l.map idB) 8 (fun b hb => by
    obtain ⟨y, hy, rfl⟩ := List.mem_map.1 hb
    have := idB_len y (hok y hy); omega) (by simp; omega)
  (try simp only [brK_e, gdK_e, skK_e, gdA_e, skA_e, pkK_e]); simp (maxSteps := 10000000) (disch := omega) only [ir95, go_sem, ↓reduceIte, Nat.reduceEqDiff, Nat.reduceSub, Nat.reduceLeDiff, Nat.reduceAdd, Int.reduceEq, Int.reduceLT, Int.reduceLE]
  refine call_with (okUnpack (f := false) (z := 1) (b := idsW l) (most := 8) (.inr rfl) (by omega)) ?_
  rw [hu]
  (try simp only [brK_e, gdK_e, skK_e, gdA_e, skA_e, pkK_e]); simp (maxSteps := 10000000) (disch := omega) only [go_sem, ↓reduceIte, Nat.reduceEqDiff, Nat.reduceSub, Nat.reduceLeDiff, Nat.reduceAdd, Int.reduceEq, Int.reduceLT, Int.reduceLE]
  refine loop_ok mixed (stRdIDs l) (fun k => k ≤ l.length) (fun k => l.length - k) 0 (by simp) (wk_nil 8 40 2 rfl (by omega) (weak_mk ?_ ?_)) fun k hk => ?_
  · (try simp only [brK_e, gdK_e, skK_e, gdA_e, skA_e, pkK_e]); simp (maxSteps := 10000000) (disch := omega) only [go_sem, ↓reduceIte, Nat.reduceEqDiff, Nat.reduceSub, Nat.reduceLeDiff, Nat.reduceAdd, Int.reduceEq, Int.reduceLT, Int.reduceLE]
  · (try simp only [brK_e, gdK_e, skK_e, gdA_e, skA_e, pkK_e]); simp (maxSteps := 10000000) (disch := omega) only [go_sem, ↓reduceIte, Nat.reduceEqDiff, Nat.reduceSub, Nat.reduceLeDiff, Nat.reduceAdd, Int.reduceEq, Int.reduceLT, Int.reduceLE]
    rfl
  by_cases hlt : k < l.length
  · have he : ((l.map idB).map bE)[k]? = some (bE (idB l[k])) := by simp [hlt]
    have ht : l.take (k + 1) = l.take k ++ [l[k]] := by rw [List.take_add_one, List.getElem?_eq_getElem hlt]; rfl
    have hm := hok l[k] (List.getElem_mem hlt)
    generalize l[k] = y at *
    have hil := idB_len y hm
    have hib := id_back hm
    have hkl : (l.take k).length ≤ 8 := by simp; omega
    (try simp only [brK_e, gdK_e, skK_e, gdA_e, skA_e, pkK_e]); simp (maxSteps := 10000000) (disch := omega) only [stRdIDs, he, bE, ld_sl, go_sem, ↓reduceIte, Nat.reduceEqDiff, Nat.reduceSub, Nat.reduceLeDiff, Nat.reduceAdd, Int.reduceEq, Int.reduceLT, Int.reduceLE]
    refine call_with (okReadID (f := false) (z := 1) (b := idB y) (.inr rfl) (by omega)) ?_
    (try simp only [brK_e, gdK_e, skK_e, gdA_e, skA_e, pkK_e]); simp (maxSteps := 10000000) (disch := omega) only [hib, go_sem, ↓reduceIte, Nat.reduceEqDiff, Nat.reduceSub, Nat.reduceLeDiff, Nat.reduceAdd, Int.reduceEq, Int.reduceLT, Int.reduceLE]
    refine ⟨k + 1, by omega, by omega, wk_ren 30 40 (by decide) rfl (weak_mk ?_ ?_)⟩
    · (try simp only [brK_e, gdK_e, skK_e, gdA_e, skA_e, pkK_e]); simp (maxSteps := 10000000) (disch := omega) only [go_sem, ↓reduceIte, Nat.reduceEqDiff, Nat.reduceSub, Nat.reduceLeDiff, Nat.reduceAdd, Int.reduceEq, Int.reduceLT, Int.reduceLE]
    · (try simp only [brK_e, gdK_e, skK_e, gdA_e, skA_e, pkK_e]); simp (maxSteps := 10000000) (disch := omega) only [ht, List.map_append, List.map_cons, List.map_nil, idE, bE, go_sem, ↓reduceIte, Nat.reduceEqDiff, Nat.reduceSub, Nat.reduceLeDiff, Nat.reduceAdd, Int.reduceEq, Int.reduceLT, Int.reduceLE]
  · obtain rfl : k = l.length := by omega
    have e := List.take_length (l := l)
    have hself : decide (idsW l = idsW l) = true := by simp
    (try simp only [brK_e, gdK_e, skK_e, gdA_e, skA_e, pkK_e]); simp (maxSteps := 10000000) (disch := omega) only [stRdIDs, e, go_sem, ↓reduceIte, Nat.reduceEqDiff, Nat.reduceSub, Nat.reduceLeDiff, Nat.reduceAdd, Int.reduceEq, Int.reduceLT, Int.reduceLE]
    refine call_with (okWriteIDs (f := false) (z := 2) (l := l) rfl rfl (.inr rfl) (by omega) hok) ?_
    (try simp only [brK_e, gdK_e, skK_e, gdA_e, skA_e, pkK_e]); simp (maxSteps := 10000000) (disch := omega) only [go_sem, ↓reduceIte, Nat.reduceEqDiff, Nat.reduceSub, Nat.reduceLeDiff, Nat.reduceAdd, Int.reduceEq, Int.reduceLT, Int.reduceLE]
    refine call_with (okEqB (f := false) (g := false) (y := 1) (z := 1) (a := idsW l) (b := idsW l) rfl rfl (.inr rfl) (.inr rfl) (by omega) (by omega)) ?_
    (try simp only [brK_e, gdK_e, skK_e, gdA_e, skA_e, pkK_e]); simp (maxSteps := 10000000) (disch := omega) only [hself, go_sem, ↓reduceIte, Nat.reduceEqDiff, Nat.reduceSub, Nat.reduceLeDiff, Nat.reduceAdd, Int.reduceEq, Int.reduceLT, Int.reduceLE]
    refine ⟨_, wk_frz 40 rfl (.same _), ?_⟩
    (try simp only [brK_e, gdK_e, skK_e, gdA_e, skA_e, pkK_e]); simp (maxSteps := 10000000) (disch := omega) only [go_sem, ↓reduceIte, Nat.reduceEqDiff, Nat.reduceSub, Nat.reduceLeDiff, Nat.reduceAdd, Int.reduceEq, Int.reduceLT, Int.reduceLE]
end Go.Proofs.Ytmeecblciegkkaa.Fw
namespace Go.Proofs.Ytmeecblciegkkaa.Fw
open Go.RowKit Go.Proofs
def canon (e : Evt) : Evt := { e with gone := ⟨false, 2, e.gone.l⟩, base := ⟨false, 2, e.base.l⟩ }
theorem check_canon (e : Evt) : checkB (canon e) = checkB e := by
  by_cases hB : BaseP e
  · by_cases hD : DepP e
    · have hB' : BaseP (canon e) := hB
      have hD' : DepP (canon e) := hD
      have hk : e.kind = 1 ∨ e.kind = 2 ∨ e.kind = 3 ∨ e.kind = 4 ∨ e.kind = 5 ∨ e.kind = 6 ∨ e.kind = 7 ∨ e.kind = 8 ∨ e.kind = 9 := by have := hB.2.2.2.2.2; omega
      rcases hk with k | k | k | k | k | k | k | k | k
      · rw [check_1 hB hD k, check_1 hB' hD' k]; rfl
      · rw [check_2 hB hD k, check_2 hB' hD' k]; rfl
      · rw [check_3 hB hD k, check_3 hB' hD' k]; rfl
      · rw [check_4 hB hD k, check_4 hB' hD' k]; rfl
      · rw [check_5 hB hD k, check_5 hB' hD' k]; rfl
      · rw [check_6 hB hD k, check_6 hB' hD' k]; rfl
      · rw [check_7 hB hD k, check_7 hB' hD' k]; rfl
      · rw [check_8 hB hD k, check_8 hB' hD' k]; rfl
      · rw [check_9 hB hD k, check_9 hB' hD' k]; rfl
    · rw [check_d hD, check_d (e := canon e) hD]
  · rw [check_b hB, check_b (e := canon e) hB]
def segE (e : Evt) : List SV := [.pv (.i .i64 e.rep), .pv (.i .u32 e.seq), .vec 8 (vE e.dep), .pv (.i .i64 e.kind), .pv (.i .i64 e.orep), .pv (.i .u32 e.oseq), .pv (.i .i64 e.drep), .pv (.i .u32 e.dseq), .pv (.s e.name), .pv e.gone.pv, .pv e.base.pv, .pv (.i .i64 e.off), .pv (.s e.data), .pv (.i .i64 e.ward)]
theorem seg_cells (e : Evt) : SV.cellsL? (segE e) = some (evE e) := rfl
set_option maxHeartbeats 8000000 in
theorem okRead_ok (e : Evt) (hc : checkB e = true) (he : ev e) {h d} : FunOk Try.prog 45 [.pv (.sl false 1 (bytesE (evB e)))] h d (.tup [.agg (segE (canon e)), .pv (.i .i64 0)]) [] := by
  refine fun_pure mixed fn45 (by simp) rfl rfl fun F => ?_
  have g := good_of_check hc
  obtain ⟨b1, b2, b3, b4, b5, b6, b7⟩ := g.base
  have hpk := fields_pack g
  have hlen := packB_len (fieldsE e)
  have hfl := fields_len g
  have hu : unpackG (evB e) [] 12 = (fieldsE e, 0) := unpack_all (fieldsE e) 12 (fun b hb => by have := hfl b hb; omega) (by simp [fieldsE])
  have hel : (evB e).length ≤ 3636 := by unfold evB; omega
  have hl12 : ((fieldsE e).map bE).length = 12 := rfl
  have f0 : ((fieldsE e).map bE)[0]? = some [.sl false 1 (bytesE (numB e.rep.toNat))] := rfl
  have f1 : ((fieldsE e).map bE)[Int.toNat 1]? = some [.sl false 1 (bytesE (numB e.seq))] := rfl
  have f2 : ((fieldsE e).map bE)[Int.toNat 2]? = some [.sl false 1 (bytesE (shrinkB e.dep (fun _ => 0)))] := rfl
  have f3 : ((fieldsE e).map bE)[Int.toNat 3]? = some [.sl false 1 (bytesE (numB e.kind.toNat))] := rfl
  have f4 : ((fieldsE e).map bE)[Int.toNat 4]? = some [.sl false 1 (bytesE (idB (e.orep, e.oseq)))] := rfl
  have f5 : ((fieldsE e).map bE)[Int.toNat 5]? = some [.sl false 1 (bytesE (idB (e.drep, e.dseq)))] := rfl
  have f6 : ((fieldsE e).map bE)[Int.toNat 6]? = some [.sl false 1 (bytesE e.name)] := rfl
  have f7 : ((fieldsE e).map bE)[Int.toNat 7]? = some [.sl false 1 (bytesE (idsW e.gone.l))] := rfl
  have f8 : ((fieldsE e).map bE)[Int.toNat 8]? = some [.sl false 1 (bytesE (idsW e.base.l))] := rfl
  have f9 : ((fieldsE e).map bE)[Int.toNat 9]? = some [.sl false 1 (bytesE (numB e.off.toNat))] := rfl
  have f10 : ((fieldsE e).map bE)[Int.toNat 10]? = some [.sl false 1 (bytesE e.data)] := rfl
  have f11 : ((fieldsE e).map bE)[Int.toNat 11]? = some [.sl false 1 (bytesE (numB e.ward.toNat))] := rfl
  have q3 := hfl (numB e.kind.toNat) (by simp [fieldsE])
  have q9 := hfl (numB e.off.toNat) (by simp [fieldsE])
  have q11 := hfl (numB e.ward.toNat) (by simp [fieldsE])
  have q0 := hfl (numB e.rep.toNat) (by simp [fieldsE])
  have q1 := hfl (numB e.seq) (by simp [fieldsE])
  have q4 := idB_len _ g.obj
  have q5 := idB_len _ g.dir
  have s3 : smallB (numB e.kind.toNat) = e.kind := by rw [small_back (by omega)]; omega
  have s9 : smallB (numB e.off.toNat) = e.off := by have := g.off; rw [small_back (by omega)]; omega
  have s11 : smallB (numB e.ward.toNat) = e.ward := by have := g.ward; rw [small_back (by omega)]; omega
  have s0 : smallB (numB e.rep.toNat) = e.rep := by rw [small_back (by omega)]; omega
  have s1 : smallB (numB e.seq) = (e.seq : Int) := small_back (by omega)
  have i4 : rdID (idB (e.orep, e.oseq)) = (e.orep, e.oseq) := id_back g.obj
  have i5 : rdID (idB (e.drep, e.dseq)) = (e.drep, e.dseq) := id_back g.dir
  (try simp only [brK_e, gdK_e, skK_e, gdA_e, skA_e, pkK_e]); simp (maxSteps := 10000000) (disch := omega) only [ir45, go_sem, ↓reduceIte, Nat.reduceEqDiff, Nat.reduceSub, Nat.reduceLeDiff, Nat.reduceAdd, Int.reduceEq, Int.reduceLT, Int.reduceLE]
  refine call_with (okUnpack (f := false) (z := 1) (b := evB e) (most := 12) (.inr rfl) (by omega)) ?_
  rw [hu]
  generalize hE : (fieldsE e).map bE = E at *
  (try simp only [brK_e, gdK_e, skK_e, gdA_e, skA_e, pkK_e]); simp (maxSteps := 10000000) (disch := omega) only [hl12, f3, f4, f5, f6, f9, f10, f11, load_c0, go_sem, ↓reduceIte, Nat.reduceEqDiff, Nat.reduceSub, Nat.reduceLeDiff, Nat.reduceAdd, Int.reduceEq, Int.reduceLT, Int.reduceLE]
  refine call_with (okSmall (f := false) (z := 1) (b := numB e.kind.toNat) (.inr rfl) (by omega)) ?_
  (try simp only [brK_e, gdK_e, skK_e, gdA_e, skA_e, pkK_e]); simp (maxSteps := 10000000) (disch := omega) only [hl12, f3, f4, f5, f6, f9, f10, f11, load_c0, s3, go_sem, ↓reduceIte, Nat.reduceEqDiff, Nat.reduceSub, Nat.reduceLeDiff, Nat.reduceAdd, Int.reduceEq, Int.reduceLT, Int.reduceLE]
  refine call_with (okReadID (f := false) (z := 1) (b := idB (e.orep, e.oseq)) (.inr rfl) (by omega)) ?_
  (try simp only [brK_e, gdK_e, skK_e, gdA_e, skA_e, pkK_e]); simp (maxSteps := 10000000) (disch := omega) only [hl12, f3, f4, f5, f6, f9, f10, f11, load_c0, i4, go_sem, ↓reduceIte, Nat.reduceEqDiff, Nat.reduceSub, Nat.reduceLeDiff, Nat.reduceAdd, Int.reduceEq, Int.reduceLT, Int.reduceLE]
  refine call_with (okReadID (f := false) (z := 1) (b := idB (e.drep, e.dseq)) (.inr rfl) (by omega)) ?_
  (try simp only [brK_e, gdK_e, skK_e, gdA_e, skA_e, pkK_e]); simp (maxSteps := 10000000) (disch := omega) only [hl12, f3, f4, f5, f6, f9, f10, f11, load_c0, i5, go_sem, ↓reduceIte, Nat.reduceEqDiff, Nat.reduceSub, Nat.reduceLeDiff, Nat.reduceAdd, Int.reduceEq, Int.reduceLT, Int.reduceLE]
  refine call_with (okSmall (f := false) (z := 1) (b := numB e.off.toNat) (.inr rfl) (by omega)) ?_
  (try simp only [brK_e, gdK_e, skK_e, gdA_e, skA_e, pkK_e]); simp (maxSteps := 10000000) (disch := omega) only [hl12, f3, f4, f5, f6, f9, f10, f11, load_c0, s9, go_sem, ↓reduceIte, Nat.reduceEqDiff, Nat.reduceSub, Nat.reduceLeDiff, Nat.reduceAdd, Int.reduceEq, Int.reduceLT, Int.reduceLE]
  refine call_with (okSmall (f := false) (z := 1) (b := numB e.ward.toNat) (.inr rfl) (by omega)) ?_
  (try simp only [brK_e, gdK_e, skK_e, gdA_e, skA_e, pkK_e]); simp (maxSteps := 10000000) (disch := omega) only [hl12, f0, f1, f2, f7, f8, load_c0, s11, go_sem, ↓reduceIte, Nat.reduceEqDiff, Nat.reduceSub, Nat.reduceLeDiff, Nat.reduceAdd, Int.reduceEq, Int.reduceLT, Int.reduceLE]
  refine call_with (okSmall (f := false) (z := 1) (b := numB e.rep.toNat) (.inr rfl) (by omega)) ?_
  (try simp only [brK_e, gdK_e, skK_e, gdA_e, skA_e, pkK_e]); simp (maxSteps := 10000000) (disch := omega) only [hl12, f0, f1, f2, f7, f8, load_c0, s0, go_sem, ↓reduceIte, Nat.reduceEqDiff, Nat.reduceSub, Nat.reduceLeDiff, Nat.reduceAdd, Int.reduceEq, Int.reduceLT, Int.reduceLE]
  refine call_with (okSmall (f := false) (z := 1) (b := numB e.seq) (.inr rfl) (by omega)) ?_
  (try simp only [brK_e, gdK_e, skK_e, gdA_e, skA_e, pkK_e]); simp (maxSteps := 10000000) (disch := omega) only [hl12, f0, f1, f2, f7, f8, load_c0, s1, go_sem, ↓reduceIte, Nat.reduceEqDiff, Nat.reduceSub, Nat.reduceLeDiff, Nat.reduceAdd, Int.reduceEq, Int.reduceLT, Int.reduceLE]
  have hmx : max (0 : Int) (e.seq : Int) = (e.seq : Int) := by omega
  have hgs := growB_shrink e.dep (fun _ => 0) (fun i hi => by have := g.dep i hi; omega) (by simp)
  have hge : vE (growB (shrinkB e.dep fun _ => 0) fun _ => 0).1 = vE e.dep := vE_ext hgs.2
  have hs2 := byTo_len e.dep (fun _ => 0) (fun i hi => by have := g.dep i hi; omega) (by simp) 8 (by omega)
  have hsl : (shrinkB e.dep (fun _ => 0)).length ≤ 42 := by simp only [shrinkB, List.length_cons]; omega
  refine call_with (okGrow (l := shrinkB e.dep fun _ => 0) (fun _ => 0) (by simp) (by omega) rfl rfl (.inr rfl)) ?_
  rw [hge, hgs.1]
  (try simp only [brK_e, gdK_e, skK_e, gdA_e, skA_e, pkK_e]); simp (maxSteps := 10000000) (disch := omega) only [hl12, f7, f8, load_c0, hmx, go_sem, ↓reduceIte, Nat.reduceEqDiff, Nat.reduceSub, Nat.reduceLeDiff, Nat.reduceAdd, Int.reduceEq, Int.reduceLT, Int.reduceLE]
  refine call_with (okReadIDs_ok g.gone.2 g.gone.1) ?_
  (try simp only [brK_e, gdK_e, skK_e, gdA_e, skA_e, pkK_e]); simp (maxSteps := 10000000) (disch := omega) only [hl12, f7, f8, load_c0, hmx, go_sem, ↓reduceIte, Nat.reduceEqDiff, Nat.reduceSub, Nat.reduceLeDiff, Nat.reduceAdd, Int.reduceEq, Int.reduceLT, Int.reduceLE]
  refine call_with (okReadIDs_ok g.basel.2 g.basel.1) ?_
  (try simp only [brK_e, gdK_e, skK_e, gdA_e, skA_e, pkK_e]); simp (maxSteps := 10000000) (disch := omega) only [hmx, go_sem, ↓reduceIte, Nat.reduceEqDiff, Nat.reduceSub, Nat.reduceLeDiff, Nat.reduceAdd, Int.reduceEq, Int.reduceLT, Int.reduceLE]
  have hev : ev (canon e) := ⟨.inr rfl, .inr rfl, he.2.2.1, he.2.2.2.1, he.2.2.2.2⟩
  refine call_with ((okWrite (canon e) hev (by rw [check_canon]; exact hc)).imp ⟨imp_agg (by rfl) (evE_len (canon e)), trivial⟩ (by simp [tops, tn])) ?_
  have hcb : evB (canon e) = evB e := rfl
  rw [hcb]
  have hself : decide (evB e = evB e) = true := by simp
  (try simp only [brK_e, gdK_e, skK_e, gdA_e, skA_e, pkK_e]); simp (maxSteps := 10000000) (disch := omega) only [go_sem, ↓reduceIte, Nat.reduceEqDiff, Nat.reduceSub, Nat.reduceLeDiff, Nat.reduceAdd, Int.reduceEq, Int.reduceLT, Int.reduceLE]
  refine call_with (okEqB (f := false) (g := false) (y := 1) (z := 1) (a := evB e) (b := evB e) rfl rfl (.inr rfl) (.inr rfl) (by omega) (by omega)) ?_
  (try simp only [brK_e, gdK_e, skK_e, gdA_e, skA_e, pkK_e]); simp (maxSteps := 10000000) (disch := omega) only [hself, segE, canon, go_sem, ↓reduceIte, Nat.reduceEqDiff, Nat.reduceSub, Nat.reduceLeDiff, Nat.reduceAdd, Int.reduceEq, Int.reduceLT, Int.reduceLE]
end Go.Proofs.Ytmeecblciegkkaa.Fw
namespace Go.Proofs.Ytmeecblciegkkaa.Fw
open Go.RowKit Go.Proofs
/-! The document's Write. -/
theorem okFieldR (b : List UInt8) (hb : b.length ≤ 65535) {h d} : FunOk Try.prog 122 [.pv (.s b)] h d (.tup [.pv (.s (fieldB b)), .pv (.b true)]) [] := by
  refine fun_pure mixed fn122 (by simp) rfl rfl fun F => ?_
  have w0 : IntKind.u8.wrap (b.length : Int) = ((UInt8.ofNat b.length).toNat : Int) := wrap_u8_nat _
  by_cases hs : b.length < 255
  · have e := fieldB_short hs
    have e4 : [[PV.i .u8 ((UInt8.ofNat b.length).toNat : Int)]] = bytesE [UInt8.ofNat b.length] := rfl
    (try simp only [brK_e, gdK_e, skK_e, gdA_e, skA_e, pkK_e]); simp (maxSteps := 10000000) (disch := omega) only [ir122, w0, e4, e, List.cons_append, List.nil_append, go_sem, ↓reduceIte, Nat.reduceEqDiff, Nat.reduceSub, Nat.reduceLeDiff, Nat.reduceAdd, Int.reduceEq, Int.reduceLT, Int.reduceLE]
  · have e := fieldB_long hs
    have e1 : (b.length : Int).tdiv 256 = ((b.length / 256 : Nat) : Int) := by
      rw [Int.tdiv_eq_ediv_of_nonneg (by omega)]; omega
    have e1' : IntKind.i64.wrap ((b.length / 256 : Nat) : Int) = ((b.length / 256 : Nat) : Int) := wrap_i64 (by omega)
    have e2 : (b.length : Int).tmod 256 = ((b.length % 256 : Nat) : Int) := by rw [Int.tmod_eq_emod_of_nonneg (by omega)]; omega
    have w1 : IntKind.u8.wrap ((b.length / 256 : Nat) : Int) = ((UInt8.ofNat (b.length / 256)).toNat : Int) := wrap_u8_nat _
    have w2 : IntKind.u8.wrap ((b.length % 256 : Nat) : Int) = ((UInt8.ofNat b.length).toNat : Int) := by
      rw [wrap_u8_nat]
      congr 1
      rw [UInt8.toNat_ofNat', UInt8.toNat_ofNat']; omega
    have e4 : [[PV.i .u8 255], [PV.i .u8 ((UInt8.ofNat (b.length / 256)).toNat : Int)], [PV.i .u8 ((UInt8.ofNat b.length).toNat : Int)]] = bytesE [255, UInt8.ofNat (b.length / 256), UInt8.ofNat b.length] := rfl
    (try simp only [brK_e, gdK_e, skK_e, gdA_e, skA_e, pkK_e]); simp (maxSteps := 10000000) (disch := omega) only [ir122, e1, e1', e2, w1, w2, e4, e, List.cons_append, List.nil_append, go_sem, ↓reduceIte, Nat.reduceEqDiff, Nat.reduceSub, Nat.reduceLeDiff, Nat.reduceAdd, Int.reduceEq, Int.reduceLT, Int.reduceLE]
def sE (b : List UInt8) : List PV := [.s b]
theorem ld_sE (b : List UInt8) (K : KK) : LoadK (some (sE b)) 0 1 false K = K (.pv (.s b)) [] := by
  simp only [LoadK, ldX, eq_iff_iff]
  exact ⟨fun h => h.2.2, fun h => ⟨by simp [sE], .inr trivial, h⟩⟩
def stPackR (L : List (List UInt8)) (k : Nat) : FS := mk [(5, .pv (.i .i64 k)), (4, .pv (.s (packB (L.take k)))), (0, .pv (.sl false 1 (L.map sE)))] []
set_option maxHeartbeats 1000000 in
theorem okPackR {x : SV} {L : List (List UInt8)} {h d} (hx : lents h [x] = [.pv (.sl false 1 (L.map sE))]) (hl : lendable [x] = true) (hb : packLen L ≤ 300000) (hLn : L.length ≤ 300000) (hall : ∀ b ∈ L, b.length ≤ 65535) :
    FunOk Try.prog 97 [x] h d (.tup [.pv (.s (packB L)), .pv (.i .i64 0)]) [] := by
  refine fun_scalar mixed fn97 (by simp) hl rfl fun F => ?_
  rw [hx]
  (try simp only [brK_e, gdK_e, skK_e, gdA_e, skA_e, pkK_e]); simp (maxSteps := 10000000) (disch := omega) only [ir97, List.length_map, go_sem, ↓reduceIte, Nat.reduceEqDiff, Nat.reduceSub, Nat.reduceLeDiff, Nat.reduceAdd, Int.reduceEq, Int.reduceLT, Int.reduceLE]
  refine loop_ok mixed (stPackR L) (fun k => k ≤ L.length) (fun k => L.length - k) 0 (by simp) (weak_mk ?_ ?_) fun k hk => ?_
  · (try simp only [brK_e, gdK_e, skK_e, gdA_e, skA_e, pkK_e]); simp (maxSteps := 10000000) (disch := omega) only [List.take_zero, packB, go_sem, ↓reduceIte, Nat.reduceEqDiff, Nat.reduceSub, Nat.reduceLeDiff, Nat.reduceAdd, Int.reduceEq, Int.reduceLT, Int.reduceLE]
  · (try simp only [brK_e, gdK_e, skK_e, gdA_e, skA_e, pkK_e]); simp (maxSteps := 10000000) (disch := omega) only [go_sem, ↓reduceIte, Nat.reduceEqDiff, Nat.reduceSub, Nat.reduceLeDiff, Nat.reduceAdd, Int.reduceEq, Int.reduceLT, Int.reduceLE]
  by_cases hlt : k < L.length
  · have he : (L.map sE)[k]? = some (sE L[k]) := by simp [hlt]
    have ht : L.take (k + 1) = L.take k ++ [L[k]] := by rw [List.take_add_one, List.getElem?_eq_getElem hlt]; rfl
    have hm := hall L[k] (List.getElem_mem hlt)
    have hpk := Nat.le_trans (packB_len (L.take k)) (packLen_take L k)
    have hpl := packLen_mem hlt
    have hgd : L.getD k [] = L[k] := by rw [List.getD_eq_getElem?_getD, List.getElem?_eq_getElem hlt]; rfl
    rw [hgd] at hpl
    generalize L[k] = b at *
    have hpt : packB (L.take k) ++ fieldB b = packB (L.take k ++ [b]) := by rw [packB_app]; simp [packB]
    have hfl := fieldB_len b
    have hfl2 : (fieldB b).length ≤ 65538 := by rw [hfl]; split <;> omega
    (try simp only [brK_e, gdK_e, skK_e, gdA_e, skA_e, pkK_e]); simp (maxSteps := 10000000) (disch := omega) only [stPackR, he, ld_sE, List.length_map, go_sem, ↓reduceIte, Nat.reduceEqDiff, Nat.reduceSub, Nat.reduceLeDiff, Nat.reduceAdd, Int.reduceEq, Int.reduceLT, Int.reduceLE]
    refine call_with (okFieldR b hm) ?_
    (try simp only [brK_e, gdK_e, skK_e, gdA_e, skA_e, pkK_e]); simp (maxSteps := 10000000) (disch := omega) only [hpt, go_sem, ↓reduceIte, Nat.reduceEqDiff, Nat.reduceSub, Nat.reduceLeDiff, Nat.reduceAdd, Int.reduceEq, Int.reduceLT, Int.reduceLE]
    refine loop_next (k + 1) _ _ rfl (by omega) (by omega) ?_ ?_
    · (try simp only [brK_e, gdK_e, skK_e, gdA_e, skA_e, pkK_e]); simp (maxSteps := 10000000) (disch := omega) only [ht, go_sem, ↓reduceIte, Nat.reduceEqDiff, Nat.reduceSub, Nat.reduceLeDiff, Nat.reduceAdd, Int.reduceEq, Int.reduceLT, Int.reduceLE]
    · (try simp only [brK_e, gdK_e, skK_e, gdA_e, skA_e, pkK_e]); simp (maxSteps := 10000000) (disch := omega) only [go_sem, ↓reduceIte, Nat.reduceEqDiff, Nat.reduceSub, Nat.reduceLeDiff, Nat.reduceAdd, Int.reduceEq, Int.reduceLT, Int.reduceLE]
  · obtain rfl : k = L.length := by omega
    have e := List.take_length (l := L)
    (try simp only [brK_e, gdK_e, skK_e, gdA_e, skA_e, pkK_e]); simp (maxSteps := 10000000) (disch := omega) only [stPackR, e, List.length_map, go_sem, ↓reduceIte, Nat.reduceEqDiff, Nat.reduceSub, Nat.reduceLeDiff, Nat.reduceAdd, Int.reduceEq, Int.reduceLT, Int.reduceLE]
theorem okIDR (x : Idn) (hx : idOk x) {h d} : FunOk Try.prog 100 [.vec 2 [.i .i64 x.1, .i .u32 x.2]] h d (.pv (.s (idB x))) [] := by
  refine fun_pure mixed fn100 (by simp) rfl rfl fun F => ?_
  obtain ⟨h1, h2, h3⟩ := hx
  have hl2 : ([PV.i .i64 x.1, PV.i .u32 x.2]).length = 2 := rfl
  have hw := load_whole hl2
  (try simp only [brK_e, gdK_e, skK_e, gdA_e, skA_e, pkK_e]); simp (maxSteps := 10000000) (disch := omega) only [ir100, hw, go_sem, ↓reduceIte, Nat.reduceEqDiff, Nat.reduceSub, Nat.reduceLeDiff, Nat.reduceAdd, Int.reduceEq, Int.reduceLT, Int.reduceLE]
  refine call_with (okZeroR _ _) ?_
  by_cases hz : x.1 = 0 ∧ x.2 = 0
  · have e : idB x = [] := if_pos hz
    have ez : zeroB x.1 x.2 = true := decide_eq_true hz
    (try simp only [brK_e, gdK_e, skK_e, gdA_e, skA_e, pkK_e]); simp (maxSteps := 10000000) (disch := omega) only [ez, e, go_sem, ↓reduceIte, Nat.reduceEqDiff, Nat.reduceSub, Nat.reduceLeDiff, Nat.reduceAdd, Int.reduceEq, Int.reduceLT, Int.reduceLE]
  · have e : idB x = UInt8.ofNat x.1.toNat :: numB x.2 := if_neg hz
    have ez : zeroB x.1 x.2 = false := decide_eq_false hz
    have ew : IntKind.u8.wrap x.1 = ((UInt8.ofNat x.1.toNat).toNat : Int) := by
      obtain ⟨n, hn⟩ : ∃ n : Nat, x.1 = n := ⟨x.1.toNat, by omega⟩
      rw [hn, Int.toNat_natCast]; exact wrap_u8_nat n
    have e4 : [[PV.i .u8 ((UInt8.ofNat x.1.toNat).toNat : Int)]] = bytesE [UInt8.ofNat x.1.toNat] := rfl
    have e5 := numB_len 8 x.2 (by omega)
    (try simp only [brK_e, gdK_e, skK_e, gdA_e, skA_e, pkK_e]); simp (maxSteps := 10000000) (disch := omega) only [ez, ld_id0, ld_id1, ew, e4, go_sem, ↓reduceIte, Nat.reduceEqDiff, Nat.reduceSub, Nat.reduceLeDiff, Nat.reduceAdd, Int.reduceEq, Int.reduceLT, Int.reduceLE]
    refine call_with (okNumR x.2 (by omega)) ?_
    (try simp only [brK_e, gdK_e, skK_e, gdA_e, skA_e, pkK_e]); simp (maxSteps := 10000000) (disch := omega) only [e, List.cons_append, List.nil_append, go_sem, ↓reduceIte, Nat.reduceEqDiff, Nat.reduceSub, Nat.reduceLeDiff, Nat.reduceAdd, Int.reduceEq, Int.reduceLT, Int.reduceLE]
def stIDsR (f : Bool) (z : Nat) (l : List Idn) (k : Nat) : FS := mk [(4, .pv (.i .i64 k)), (3, .pv (.s (packB ((l.take k).map idB)))), (0, .pv (.sl f z (l.map idE)))] []
set_option maxHeartbeats 1000000 in
theorem okIDsR {f : Bool} {z : Nat} {l : List Idn} {h d} (hz : l = [] ∨ z = 2) (hn : l.length ≤ 1000) (hok : ∀ y ∈ l, idOk y) :
    FunOk Try.prog 101 [.pv (.sl f z (l.map idE))] h d (.pv (.s (idsW l))) [] := by
  refine fun_pure mixed fn101 (by simp) rfl rfl fun F => ?_
  (try simp only [brK_e, gdK_e, skK_e, gdA_e, skA_e, pkK_e]); simp (maxSteps := 10000000) (disch := omega) only [ir101, go_sem, ↓reduceIte, Nat.reduceEqDiff, Nat.reduceSub, Nat.reduceLeDiff, Nat.reduceAdd, Int.reduceEq, Int.reduceLT, Int.reduceLE]
  refine loop_ok mixed (stIDsR f z l) (fun k => k ≤ l.length) (fun k => l.length - k) 0 (by simp) (weak_mk ?_ ?_) fun k hk => ?_
  · (try simp only [brK_e, gdK_e, skK_e, gdA_e, skA_e, pkK_e]); simp (maxSteps := 10000000) (disch := omega) only [List.take_zero, List.map_nil, packB, go_sem, ↓reduceIte, Nat.reduceEqDiff, Nat.reduceSub, Nat.reduceLeDiff, Nat.reduceAdd, Int.reduceEq, Int.reduceLT, Int.reduceLE]
  · (try simp only [brK_e, gdK_e, skK_e, gdA_e, skA_e, pkK_e]); simp (maxSteps := 10000000) (disch := omega) only [go_sem, ↓reduceIte, Nat.reduceEqDiff, Nat.reduceSub, Nat.reduceLeDiff, Nat.reduceAdd, Int.reduceEq, Int.reduceLT, Int.reduceLE]
  by_cases hlt : k < l.length
  · have hz2 : z = 2 := hz.resolve_left fun e => by subst e; simp at hlt
    subst hz2
    have he : (l.map idE)[k]? = some (idE l[k]) := by simp [hlt]
    have ht : l.take (k + 1) = l.take k ++ [l[k]] := by rw [List.take_add_one, List.getElem?_eq_getElem hlt]; rfl
    have hm := hok l[k] (List.getElem_mem hlt)
    have hkl : (idsW (l.take k)).length ≤ 12 * (l.take k).length := idsW_len fun y hy => hok y (List.mem_of_mem_take hy)
    have hkk : (l.take k).length ≤ 1000 := by simp; omega
    generalize l[k] = y at *
    have hil := idB_len y hm
    have hfl : (fieldB (idB y)).length ≤ 12 := by rw [fieldB_len]; split <;> omega
    have hpt : packB ((l.take k).map idB) ++ fieldB (idB y) = packB ((l.take k ++ [y]).map idB) := by rw [List.map_append, packB_app]; simp [packB]
    unfold idsW at hkl
    (try simp only [brK_e, gdK_e, skK_e, gdA_e, skA_e, pkK_e]); simp (maxSteps := 10000000) (disch := omega) only [stIDsR, he, ld_idW, go_sem, ↓reduceIte, Nat.reduceEqDiff, Nat.reduceSub, Nat.reduceLeDiff, Nat.reduceAdd, Int.reduceEq, Int.reduceLT, Int.reduceLE]
    refine call_with (okIDR y hm) ?_
    (try simp only [brK_e, gdK_e, skK_e, gdA_e, skA_e, pkK_e]); simp (maxSteps := 10000000) (disch := omega) only [go_sem, ↓reduceIte, Nat.reduceEqDiff, Nat.reduceSub, Nat.reduceLeDiff, Nat.reduceAdd, Int.reduceEq, Int.reduceLT, Int.reduceLE]
    refine call_with (okFieldR (idB y) (by omega)) ?_
    (try simp only [brK_e, gdK_e, skK_e, gdA_e, skA_e, pkK_e]); simp (maxSteps := 10000000) (disch := omega) only [hpt, go_sem, ↓reduceIte, Nat.reduceEqDiff, Nat.reduceSub, Nat.reduceLeDiff, Nat.reduceAdd, Int.reduceEq, Int.reduceLT, Int.reduceLE]
    refine loop_next (k + 1) _ _ rfl (by omega) (by omega) ?_ ?_
    · (try simp only [brK_e, gdK_e, skK_e, gdA_e, skA_e, pkK_e]); simp (maxSteps := 10000000) (disch := omega) only [ht, go_sem, ↓reduceIte, Nat.reduceEqDiff, Nat.reduceSub, Nat.reduceLeDiff, Nat.reduceAdd, Int.reduceEq, Int.reduceLT, Int.reduceLE]
    · (try simp only [brK_e, gdK_e, skK_e, gdA_e, skA_e, pkK_e]); simp (maxSteps := 10000000) (disch := omega) only [go_sem, ↓reduceIte, Nat.reduceEqDiff, Nat.reduceSub, Nat.reduceLeDiff, Nat.reduceAdd, Int.reduceEq, Int.reduceLT, Int.reduceLE]
  · obtain rfl : k = l.length := by omega
    have e := List.take_length (l := l)
    (try simp only [brK_e, gdK_e, skK_e, gdA_e, skA_e, pkK_e]); simp (maxSteps := 10000000) (disch := omega) only [stIDsR, e, idsW, go_sem, ↓reduceIte, Nat.reduceEqDiff, Nat.reduceSub, Nat.reduceLeDiff, Nat.reduceAdd, Int.reduceEq, Int.reduceLT, Int.reduceLE]
set_option maxHeartbeats 4000000 in
theorem okWriteR (e : Evt) (he : ev e) (g : Good e) {h d} : FunOk Try.prog 46 [.vec 21 (evE e)] h d (.pv (.s (evB e))) [] := by
  refine fun_pure mixed fn46 (by simp) rfl rfl fun F => ?_
  obtain ⟨b1, b2, b3, b4, b5, b6, b7⟩ := g.base
  have hdep := g.dep
  have w0 := u64_nat (n := e.rep) (by omega)
  have w1 : IntKind.u64.wrap (e.seq : Int) = (e.seq : Int) := wrap_u64 (by omega)
  have w3 := u64_nat (n := e.kind) (by omega)
  have w9 := u64_nat (n := e.off) (by have := g.off; omega)
  have w11 := u64_nat (n := e.ward) (by have := g.ward; omega)
  obtain ⟨hg1, hg2, hg3, hg4, hg5⟩ := he
  (try simp only [brK_e, gdK_e, skK_e, gdA_e, skA_e, pkK_e]); simp (maxSteps := 10000000) (disch := omega) only [ir46, w0, w1, w3, w9, w11, go_sem, ↓reduceIte, Nat.reduceEqDiff, Nat.reduceSub, Nat.reduceLeDiff, Nat.reduceAdd, Int.reduceEq, Int.reduceLT, Int.reduceLE]
  refine call_with (okNumR e.rep.toNat (by omega)) ?_
  (try simp only [brK_e, gdK_e, skK_e, gdA_e, skA_e, pkK_e]); simp (maxSteps := 10000000) (disch := omega) only [w1, go_sem, ↓reduceIte, Nat.reduceEqDiff, Nat.reduceSub, Nat.reduceLeDiff, Nat.reduceAdd, Int.reduceEq, Int.reduceLT, Int.reduceLE]
  refine call_with (okNumR e.seq (by omega)) ?_
  (try simp only [brK_e, gdK_e, skK_e, gdA_e, skA_e, pkK_e]); simp (maxSteps := 10000000) (disch := omega) only [zero_vE, go_sem, ↓reduceIte, Nat.reduceEqDiff, Nat.reduceSub, Nat.reduceLeDiff, Nat.reduceAdd, Int.reduceEq, Int.reduceLT, Int.reduceLE]
  refine call_with (okShrinkR e.dep (fun _ => 0) (fun i hi => by have := hdep i hi; omega) (by simp)) ?_
  (try simp only [brK_e, gdK_e, skK_e, gdA_e, skA_e, pkK_e]); simp (maxSteps := 10000000) (disch := omega) only [w3, go_sem, ↓reduceIte, Nat.reduceEqDiff, Nat.reduceSub, Nat.reduceLeDiff, Nat.reduceAdd, Int.reduceEq, Int.reduceLT, Int.reduceLE]
  refine call_with (okNumR e.kind.toNat (by omega)) ?_
  (try simp only [brK_e, gdK_e, skK_e, gdA_e, skA_e, pkK_e]); simp (maxSteps := 10000000) (disch := omega) only [go_sem, ↓reduceIte, Nat.reduceEqDiff, Nat.reduceSub, Nat.reduceLeDiff, Nat.reduceAdd, Int.reduceEq, Int.reduceLT, Int.reduceLE]
  refine call_with (okIDR (e.orep, e.oseq) g.obj) ?_
  (try simp only [brK_e, gdK_e, skK_e, gdA_e, skA_e, pkK_e]); simp (maxSteps := 10000000) (disch := omega) only [go_sem, ↓reduceIte, Nat.reduceEqDiff, Nat.reduceSub, Nat.reduceLeDiff, Nat.reduceAdd, Int.reduceEq, Int.reduceLT, Int.reduceLE]
  refine call_with (okIDR (e.drep, e.dseq) g.dir) ?_
  (try simp only [brK_e, gdK_e, skK_e, gdA_e, skA_e, pkK_e]); simp (maxSteps := 10000000) (disch := omega) only [go_sem, ↓reduceIte, Nat.reduceEqDiff, Nat.reduceSub, Nat.reduceLeDiff, Nat.reduceAdd, Int.reduceEq, Int.reduceLT, Int.reduceLE]
  refine call_with (okIDsR (l := e.gone.l) hg1 hg3 g.gone.1) ?_
  (try simp only [brK_e, gdK_e, skK_e, gdA_e, skA_e, pkK_e]); simp (maxSteps := 10000000) (disch := omega) only [go_sem, ↓reduceIte, Nat.reduceEqDiff, Nat.reduceSub, Nat.reduceLeDiff, Nat.reduceAdd, Int.reduceEq, Int.reduceLT, Int.reduceLE]
  refine call_with (okIDsR (l := e.base.l) hg2 hg4 g.basel.1) ?_
  (try simp only [brK_e, gdK_e, skK_e, gdA_e, skA_e, pkK_e]); simp (maxSteps := 10000000) (disch := omega) only [w9, go_sem, ↓reduceIte, Nat.reduceEqDiff, Nat.reduceSub, Nat.reduceLeDiff, Nat.reduceAdd, Int.reduceEq, Int.reduceLT, Int.reduceLE]
  refine call_with (okNumR e.off.toNat (by have := g.off; omega)) ?_
  (try simp only [brK_e, gdK_e, skK_e, gdA_e, skA_e, pkK_e]); simp (maxSteps := 10000000) (disch := omega) only [w11, go_sem, ↓reduceIte, Nat.reduceEqDiff, Nat.reduceSub, Nat.reduceLeDiff, Nat.reduceAdd, Int.reduceEq, Int.reduceLT, Int.reduceLE]
  refine call_with (okNumR e.ward.toNat (by have := g.ward; omega)) ?_
  (try simp only [brK_e, gdK_e, skK_e, gdA_e, skA_e, pkK_e]); simp (maxSteps := 10000000) (disch := omega) only [go_sem, ↓reduceIte, Nat.reduceEqDiff, Nat.reduceSub, Nat.reduceLeDiff, Nat.reduceAdd, Int.reduceEq, Int.reduceLT, Int.reduceLE]
  refine call_with (okPackR (L := fieldsE e) rfl rfl (by have := fields_pack g; omega) (by simp [fieldsE]) (fun b hb => by have := fields_len g b hb; omega)) ?_
  (try simp only [brK_e, gdK_e, skK_e, gdA_e, skA_e, pkK_e]); simp (maxSteps := 10000000) (disch := omega) only [evB, go_sem, ↓reduceIte, Nat.reduceEqDiff, Nat.reduceSub, Nat.reduceLeDiff, Nat.reduceAdd, Int.reduceEq, Int.reduceLT, Int.reduceLE]
end Go.Proofs.Ytmeecblciegkkaa.Fw
namespace Go.Proofs.Ytmeecblciegkkaa.Fw
open Go.RowKit Go.Proofs
theorem kL_seg (n : Nat) (e : Evt) : SV.killL n (segE e) = segE e := rfl
theorem wL_seg (e : Evt) : SV.widthL (segE e) = 21 := rfl
theorem fbL_seg (e : Evt) : SV.flatBL (segE e) = true := rfl
theorem frL_seg (n : Nat) (v : PV) (e : Evt) : SV.frzL n v (segE e) = segE e := rfl
attribute [go_sem] kL_seg wL_seg fbL_seg frL_seg
def xL : Evt := ⟨2, 1, fun _ => 0, 1, 0, 0, 0, 0, [97], .nil, .nil, 0, [], 0⟩
theorem xL_ev : ev xL := ⟨.inl rfl, .inl rfl, by decide, by decide, by decide⟩
theorem xL_check : checkB xL = true := by
  have hB : BaseP xL := ⟨by decide, by decide, by decide, by decide, by decide, by decide, by decide⟩
  have hD : DepP xL := fun i _ => by show 0 ≤ _; omega
  rw [check_1 hB hD rfl]
  rfl
theorem num1 {n : Nat} (h0 : n ≠ 0) (h : n < 256) : numB n = [UInt8.ofNat n] := by
  rw [numB_pos h0, show n / 256 = 0 by omega, numB_0, show n % 256 = n by omega]; rfl
theorem xL_bytes : evB xL = [1, 2, 1, 1, 2, 0, 0, 1, 1, 0, 0, 1, 97, 0, 0, 0, 0, 0] := by
  have e : fieldsE xL = [[2], [1], [0, 0], [1], [], [], [97], [], [], [], [], []] := by
    show [numB 2, numB 1, shrinkB (fun _ => 0) (fun _ => 0), numB 1, [], [], [97], [], [], numB 0, [], numB 0] = _
    rw [num1 (n := 2) (by decide) (by decide), num1 (n := 1) (by decide) (by decide), numB_0]
    rfl
  unfold evB
  rw [e]; rfl
theorem same_self (e : Evt) : sameB e (canon e) = true := by
  simp [sameB, canon, vEq]
theorem okSameA (a b : Evt) (ha : ev a) (hb : ev b) {h d} : FunOk Try.prog 48 [.agg (segE a), .agg (segE b)] h d (.pv (.b (sameB a b))) [] :=
  (okSameE a b ⟨ha.1, ha.2.1, ha.2.2.1, ha.2.2.2.1⟩ ⟨hb.1, hb.2.1, hb.2.2.1, hb.2.2.2.1⟩).imp ⟨imp_agg (by rfl) (evE_len a), imp_agg (by rfl) (evE_len b), trivial⟩ (by simp [tops, tn])
theorem okWriteA (e : Evt) (he : ev e) (hc : checkB e = true) {h d} : FunOk Try.prog 44 [.agg (segE e)] h d (.tup [.os d, .pv (.i .i64 0)]) [.new d (.row 1 (bytesE (evB e)))] :=
  (okWrite e he hc).imp ⟨imp_agg (seg_cells e) (evE_len e), trivial⟩ (by simp [tops, tn])
theorem okCheckA (e : Evt) (he : ev e) {h d} : FunOk Try.prog 40 [.agg (segE e)] h d (.pv (.b (checkB e))) [] :=
  (okCheck e he).imp ⟨imp_agg (seg_cells e) (evE_len e), trivial⟩ (by simp [tops, tn])
theorem canon_ev {e : Evt} (h : ev e) : ev (canon e) := ⟨.inr rfl, .inr rfl, h.2.2.1, h.2.2.2.1, h.2.2.2.2⟩
set_option maxHeartbeats 4000000 in
theorem livesE {h d} : FunOk Try.prog 38 [] h d (.pv (.b true)) [] := by
  refine fun_pure mixed fn38 (by simp) rfl rfl fun F => ?_
  (try simp only [brK_e, gdK_e, skK_e, gdA_e, skA_e, pkK_e]); simp (maxSteps := 10000000) (disch := omega) only [ir38, go_sem, ↓reduceIte, Nat.reduceEqDiff, Nat.reduceSub, Nat.reduceLeDiff, Nat.reduceAdd, Int.reduceEq, Int.reduceLT, Int.reduceLE]
  refine call_with (okWriteA xL xL_ev xL_check) ?_
  (try simp only [brK_e, gdK_e, skK_e, gdA_e, skA_e, pkK_e]); simp (maxSteps := 10000000) (disch := omega) only [go_sem, ↓reduceIte, Nat.reduceEqDiff, Nat.reduceSub, Nat.reduceLeDiff, Nat.reduceAdd, Int.reduceEq, Int.reduceLT, Int.reduceLE]
  refine call_with (FunOk.frz (n := 10) (sz := 1) (es := bytesE (evB xL)) rfl (by simp [tops, tn]) rfl (okRead_ok xL xL_check xL_ev (h := fun _ => none))) ?_
  (try simp only [brK_e, gdK_e, skK_e, gdA_e, skA_e, pkK_e]); simp (maxSteps := 10000000) (disch := omega) only [go_sem, ↓reduceIte, Nat.reduceEqDiff, Nat.reduceSub, Nat.reduceLeDiff, Nat.reduceAdd, Int.reduceEq, Int.reduceLT, Int.reduceLE]
  refine call_with (okCheckA xL xL_ev) ?_
  rw [xL_check]
  have hb := xL_bytes
  (try simp only [brK_e, gdK_e, skK_e, gdA_e, skA_e, pkK_e]); simp (maxSteps := 10000000) (disch := omega) only [hb, go_sem, ↓reduceIte, Nat.reduceEqDiff, Nat.reduceSub, Nat.reduceLeDiff, Nat.reduceAdd, Int.reduceEq, Int.reduceLT, Int.reduceLE]
  refine call_with (okSameA xL (canon xL) xL_ev (canon_ev xL_ev)) ?_
  rw [same_self]
  (try simp only [brK_e, gdK_e, skK_e, gdA_e, skA_e, pkK_e]); simp (maxSteps := 10000000) (disch := omega) only [go_sem, ↓reduceIte, Nat.reduceEqDiff, Nat.reduceSub, Nat.reduceLeDiff, Nat.reduceAdd, Int.reduceEq, Int.reduceLT, Int.reduceLE]
  refine call_with (okName _) ?_
  have hn : nameB [97, 46, 98] = true := rfl
  (try simp only [brK_e, gdK_e, skK_e, gdA_e, skA_e, pkK_e]); simp (maxSteps := 10000000) (disch := omega) only [hn, go_sem, ↓reduceIte, Nat.reduceEqDiff, Nat.reduceSub, Nat.reduceLeDiff, Nat.reduceAdd, Int.reduceEq, Int.reduceLT, Int.reduceLE]
def shortB (e : Evt) : Bool := decide (e.name.length ≤ 300 ∧ e.data.length ≤ 600 ∧ e.gone.l.length ≤ 30 ∧ e.base.l.length ≤ 30)
theorem okShort (e : Evt) (h1 : e.name.length ≤ maxLen) (h2 : e.data.length ≤ maxLen) {h d} : FunOk Try.prog 39 [.vec 21 (evE e)] h d (.pv (.b (shortB e))) [] := by
  refine fun_pure mixed fn39 (by simp) rfl rfl fun F => ?_
  by_cases a1 : (e.name.length : Int) ≤ 300
  · by_cases a2 : (e.data.length : Int) ≤ 600
    · by_cases a3 : (e.gone.l.length : Int) ≤ 30
      · have eb : shortB e = decide ((e.base.l.length : Int) ≤ 30) := decide_eq_decide.2 (by omega)
        (try simp only [brK_e, gdK_e, skK_e, gdA_e, skA_e, pkK_e]); simp (maxSteps := 10000000) (disch := omega) only [ir39, a1, a2, a3, eb, go_sem, ↓reduceIte, Nat.reduceEqDiff, Nat.reduceSub, Nat.reduceLeDiff, Nat.reduceAdd, Int.reduceEq, Int.reduceLT, Int.reduceLE]
      · have eb : shortB e = false := decide_eq_false (by omega)
        (try simp only [brK_e, gdK_e, skK_e, gdA_e, skA_e, pkK_e]); simp (maxSteps := 10000000) (disch := omega) only [ir39, a1, a2, a3, eb, go_sem, ↓reduceIte, Nat.reduceEqDiff, Nat.reduceSub, Nat.reduceLeDiff, Nat.reduceAdd, Int.reduceEq, Int.reduceLT, Int.reduceLE]
    · have eb : shortB e = false := decide_eq_false (by omega)
      (try simp only [brK_e, gdK_e, skK_e, gdA_e, skA_e, pkK_e]); simp (maxSteps := 10000000) (disch := omega) only [ir39, a1, a2, eb, go_sem, ↓reduceIte, Nat.reduceEqDiff, Nat.reduceSub, Nat.reduceLeDiff, Nat.reduceAdd, Int.reduceEq, Int.reduceLT, Int.reduceLE]
  · have eb : shortB e = false := decide_eq_false (by omega)
    (try simp only [brK_e, gdK_e, skK_e, gdA_e, skA_e, pkK_e]); simp (maxSteps := 10000000) (disch := omega) only [ir39, a1, eb, go_sem, ↓reduceIte, Nat.reduceEqDiff, Nat.reduceSub, Nat.reduceLeDiff, Nat.reduceAdd, Int.reduceEq, Int.reduceLT, Int.reduceLE]
theorem short_ev {e : Evt} (h : shortB e = true) (h1 : e.gone.ok) (h2 : e.base.ok) : ev e := by
  have := of_decide_eq_true h
  exact ⟨h1, h2, by omega, by omega, by omega⟩
abbrev shEvt : Sh := .st [shId, .arr 8 (.int .u32), .int .i64, shId, shId, .str, .sl shId, .sl shId, .int .i64, .str, .int .i64]
theorem GC_evt {cs : List PV} (h : GC shEvt cs) : ∃ e : Evt, cs = evE e ∧ (∀ i, i < 8 → e.dep i < 4294967296) ∧ e.gone.ok ∧ e.base.ok ∧ e.name.length ≤ maxLen ∧ e.data.length ≤ maxLen := by
  simp only [GC] at h
  simp only [GCL] at h
  obtain ⟨c0, r0, rfl, g0, c1, r1, rfl, g1, c2, r2, rfl, ⟨n2, rfl, w2⟩, c3, r3, rfl, g3, c4, r4, rfl, g4, c5, r5, rfl, ⟨s5, rfl, w5⟩, c6, r6, rfl, g6, c7, r7, rfl, g7, c8, r8, rfl, ⟨n8, rfl, w8⟩, c9, r9, rfl, ⟨s9, rfl, w9⟩, c10, r10, rfl, ⟨n10, rfl, w10⟩, rfl⟩ := h
  obtain ⟨b0, rfl, hb0⟩ := GC_id (by simp only [GC]; exact g0)
  obtain ⟨a, rfl, ha⟩ := GC_vE (by simp only [GC]; exact g1)
  obtain ⟨b3, rfl, hb3⟩ := GC_id (by simp only [GC]; exact g3)
  obtain ⟨b4, rfl, hb4⟩ := GC_id (by simp only [GC]; exact g4)
  obtain ⟨e6, rfl, l6, g6⟩ := GC_sl (s := shId) (by simp only [GC]; exact g6)
  obtain ⟨e7, rfl, l7, g7⟩ := GC_sl (s := shId) (by simp only [GC]; exact g7)
  obtain ⟨m6, rfl, _⟩ := els_of (f := idE) GC_id g6
  obtain ⟨m7, rfl, _⟩ := els_of (f := idE) GC_id g7
  exact ⟨⟨b0.1, b0.2, a, n2, b3.1, b3.2, b4.1, b4.2, s5, ⟨false, 2, m6⟩, ⟨false, 2, m7⟩, n8, s9, n10⟩, by simp [evE, idE, SlI.pv]; rfl, ha, .inr rfl, .inr rfl, w5, w9⟩
end Go.Proofs.Ytmeecblciegkkaa.Fw
namespace Go.Proofs.Ytmeecblciegkkaa.Fw
open Go.RowKit Go.Proofs
/-! Reading of any bytes. -/
theorem unpack_facts (most : Int) : ∀ (n : Nat) (l : List UInt8) (out : List (List UInt8)), l.length ≤ n →
    (∀ f ∈ (unpackG l out most).1, f ∈ out ∨ f.length ≤ l.length) ∧ (unpackG l out most).1.length ≤ max out.length most.toNat
  | 0, l, out, h => by
    have : l = [] := List.length_eq_zero_iff.1 (by omega)
    subst this
    rw [unpackG_nil]
    exact ⟨fun f hf => .inl hf, by simp only; omega⟩
  | n + 1, l, out, h => by
    by_cases hl : l = []
    · subst hl
      rw [unpackG_nil]
      exact ⟨fun f hf => .inl hf, by simp only; omega⟩
    by_cases he : errL l = 0
    · by_cases hm : most ≤ (out.length : Int)
      · rw [unpackG_full hl he hm]
        exact ⟨fun f hf => by simp at hf, by simp⟩
      · rw [unpackG_go hl he hm]
        have hlt := rstL_lt hl he
        obtain ⟨h1, h2⟩ := unpack_facts most n (rstL l) (out ++ [fldL l]) (by omega)
        refine ⟨fun f hf => ?_, ?_⟩
        · rcases h1 f hf with h3 | h3
          · rcases List.mem_append.1 h3 with h3 | h3
            · exact .inl h3
            · simp at h3; subst h3
              exact .inr (by unfold fldL; simp; omega)
          · exact .inr (by omega)
        · simp only [List.length_append, List.length_singleton] at h2; omega
    · rw [unpackG_err hl he]
      exact ⟨fun f hf => by simp at hf, by simp⟩
def rdI (b : List UInt8) : SlI × Int :=
  if (unpackG b [] 8).2 = 0 then if idsW ((unpackG b [] 8).1.map rdID) = b then (⟨false, 2, (unpackG b [] 8).1.map rdID⟩, 0) else (.nil, 7) else (.nil, (unpackG b [] 8).2)
def stRdG (b : List UInt8) (L : List (List UInt8)) (k : Nat) : FS := mk [(22, .pv (.i .i64 k)), (21, .pv (.i .i64 L.length)), (20, .os 14), (8, .os 40), (0, .pv (.sl false 1 (bytesE b)))] [(40, some (.row 2 (((L.take k).map rdID).map idE))), (14, some (.row 1 (L.map bE)))]
set_option maxHeartbeats 2000000 in
theorem okReadIDs_gen {b : List UInt8} (hb : b.length ≤ 100000) {h d} :
    FunOk Try.prog 95 [.pv (.sl false 1 (bytesE b)), .pv (.i .i64 8)] h d (.tup [.pv (rdI b).1.pv, .pv (.i .i64 (rdI b).2)]) [] := by
  refine fun_pureW mixed fn95 (by simp) rfl rfl fun F => ?_
  obtain ⟨hu1, hu2⟩ := unpack_facts 8 b.length b [] (Nat.le_refl _)
  (try simp only [brK_e, gdK_e, skK_e, gdA_e, skA_e, pkK_e]); simp (maxSteps := 10000000) (disch := omega) only [ir95, go_sem, ↓reduceIte, Nat.reduceEqDiff, Nat.reduceSub, Nat.reduceLeDiff, Nat.reduceAdd, Int.reduceEq, Int.reduceLT, Int.reduceLE]
  refine call_with (okUnpack (f := false) (z := 1) (b := b) (most := 8) (.inr rfl) (by omega)) ?_
  have hr : rdI b = if (unpackG b [] 8).2 = 0 then if idsW ((unpackG b [] 8).1.map rdID) = b then (⟨false, 2, (unpackG b [] 8).1.map rdID⟩, 0) else (.nil, 7) else (.nil, (unpackG b [] 8).2) := rfl
  rcases hU : unpackG b [] 8 with ⟨L, c⟩
  rw [hU] at hu1 hu2 hr
  simp only at hu1 hu2 hr
  by_cases hc : c = 0
  rotate_left
  · rw [if_neg hc] at hr
    rw [hr]
    (try simp only [brK_e, gdK_e, skK_e, gdA_e, skA_e, pkK_e]); simp (maxSteps := 10000000) (disch := omega) only [hc, SlI.nil, go_sem, ↓reduceIte, Nat.reduceEqDiff, Nat.reduceSub, Nat.reduceLeDiff, Nat.reduceAdd, Int.reduceEq, Int.reduceLT, Int.reduceLE]
    refine ⟨_, .same _, ?_⟩
    (try simp only [brK_e, gdK_e, skK_e, gdA_e, skA_e, pkK_e]); simp (maxSteps := 10000000) (disch := omega) only [List.map_nil, go_sem, ↓reduceIte, Nat.reduceEqDiff, Nat.reduceSub, Nat.reduceLeDiff, Nat.reduceAdd, Int.reduceEq, Int.reduceLT, Int.reduceLE]
  rw [if_pos hc] at hr
  have hL8 : L.length ≤ 8 := by simp at hu2; omega
  have hLl : ∀ f ∈ L, f.length ≤ b.length := fun f hf => (hu1 f hf).resolve_left (by simp)
  subst hc
  (try simp only [brK_e, gdK_e, skK_e, gdA_e, skA_e, pkK_e]); simp (maxSteps := 10000000) (disch := omega) only [go_sem, ↓reduceIte, Nat.reduceEqDiff, Nat.reduceSub, Nat.reduceLeDiff, Nat.reduceAdd, Int.reduceEq, Int.reduceLT, Int.reduceLE]
  refine loop_ok mixed (stRdG b L) (fun k => k ≤ L.length) (fun k => L.length - k) 0 (by simp) (wk_nil 8 40 2 rfl (by omega) (weak_mk ?_ ?_)) fun k hk => ?_
  · (try simp only [brK_e, gdK_e, skK_e, gdA_e, skA_e, pkK_e]); simp (maxSteps := 10000000) (disch := omega) only [go_sem, ↓reduceIte, Nat.reduceEqDiff, Nat.reduceSub, Nat.reduceLeDiff, Nat.reduceAdd, Int.reduceEq, Int.reduceLT, Int.reduceLE]
  · (try simp only [brK_e, gdK_e, skK_e, gdA_e, skA_e, pkK_e]); simp (maxSteps := 10000000) (disch := omega) only [go_sem, ↓reduceIte, Nat.reduceEqDiff, Nat.reduceSub, Nat.reduceLeDiff, Nat.reduceAdd, Int.reduceEq, Int.reduceLT, Int.reduceLE]
    rfl
  by_cases hlt : k < L.length
  · have he : (L.map bE)[k]? = some (bE L[k]) := by simp [hlt]
    have ht : L.take (k + 1) = L.take k ++ [L[k]] := by rw [List.take_add_one, List.getElem?_eq_getElem hlt]; rfl
    have hm := hLl L[k] (List.getElem_mem hlt)
    generalize L[k] = y at *
    have hkl : (L.take k).length ≤ 8 := by simp; omega
    (try simp only [brK_e, gdK_e, skK_e, gdA_e, skA_e, pkK_e]); simp (maxSteps := 10000000) (disch := omega) only [stRdG, he, bE, ld_sl, go_sem, ↓reduceIte, Nat.reduceEqDiff, Nat.reduceSub, Nat.reduceLeDiff, Nat.reduceAdd, Int.reduceEq, Int.reduceLT, Int.reduceLE]
    refine call_with (okReadID (f := false) (z := 1) (b := y) (.inr rfl) (by omega)) ?_
    (try simp only [brK_e, gdK_e, skK_e, gdA_e, skA_e, pkK_e]); simp (maxSteps := 10000000) (disch := omega) only [go_sem, ↓reduceIte, Nat.reduceEqDiff, Nat.reduceSub, Nat.reduceLeDiff, Nat.reduceAdd, Int.reduceEq, Int.reduceLT, Int.reduceLE]
    refine ⟨k + 1, by omega, by omega, wk_ren 30 40 (by decide) rfl (weak_mk ?_ ?_)⟩
    · (try simp only [brK_e, gdK_e, skK_e, gdA_e, skA_e, pkK_e]); simp (maxSteps := 10000000) (disch := omega) only [go_sem, ↓reduceIte, Nat.reduceEqDiff, Nat.reduceSub, Nat.reduceLeDiff, Nat.reduceAdd, Int.reduceEq, Int.reduceLT, Int.reduceLE]
    · (try simp only [brK_e, gdK_e, skK_e, gdA_e, skA_e, pkK_e]); simp (maxSteps := 10000000) (disch := omega) only [ht, List.map_append, List.map_cons, List.map_nil, idE, bE, go_sem, ↓reduceIte, Nat.reduceEqDiff, Nat.reduceSub, Nat.reduceLeDiff, Nat.reduceAdd, Int.reduceEq, Int.reduceLT, Int.reduceLE]
  · obtain rfl : k = L.length := by omega
    have e := List.take_length (l := L)
    have hok : ∀ y ∈ L.map rdID, idOk y := fun y hy => by
      obtain ⟨x, _, rfl⟩ := List.mem_map.1 hy
      exact rdID_ok x
    have hml : (L.map rdID).length ≤ 8 := by simp; omega
    have hwl := idsW_len hok
    (try simp only [brK_e, gdK_e, skK_e, gdA_e, skA_e, pkK_e]); simp (maxSteps := 10000000) (disch := omega) only [stRdG, e, go_sem, ↓reduceIte, Nat.reduceEqDiff, Nat.reduceSub, Nat.reduceLeDiff, Nat.reduceAdd, Int.reduceEq, Int.reduceLT, Int.reduceLE]
    refine call_with (okWriteIDs (f := false) (z := 2) (l := L.map rdID) rfl rfl (.inr rfl) (by omega) hok) ?_
    (try simp only [brK_e, gdK_e, skK_e, gdA_e, skA_e, pkK_e]); simp (maxSteps := 10000000) (disch := omega) only [go_sem, ↓reduceIte, Nat.reduceEqDiff, Nat.reduceSub, Nat.reduceLeDiff, Nat.reduceAdd, Int.reduceEq, Int.reduceLT, Int.reduceLE]
    refine call_with (okEqB (f := false) (g := false) (y := 1) (z := 1) (a := idsW (L.map rdID)) (b := b) rfl rfl (.inr rfl) (.inr rfl) (by omega) (by omega)) ?_
    by_cases hq : idsW (L.map rdID) = b
    · rw [if_pos hq] at hr
      rw [hr]
      have hq' := eq_true hq
      (try simp only [brK_e, gdK_e, skK_e, gdA_e, skA_e, pkK_e]); simp (maxSteps := 10000000) (disch := omega) only [hq', go_sem, ↓reduceIte, Nat.reduceEqDiff, Nat.reduceSub, Nat.reduceLeDiff, Nat.reduceAdd, Int.reduceEq, Int.reduceLT, Int.reduceLE]
      refine ⟨_, wk_frz 40 rfl (.same _), ?_⟩
      (try simp only [brK_e, gdK_e, skK_e, gdA_e, skA_e, pkK_e]); simp (maxSteps := 10000000) (disch := omega) only [go_sem, ↓reduceIte, Nat.reduceEqDiff, Nat.reduceSub, Nat.reduceLeDiff, Nat.reduceAdd, Int.reduceEq, Int.reduceLT, Int.reduceLE]
    · rw [if_neg hq] at hr
      rw [hr]
      have hq' := eq_false hq
      (try simp only [brK_e, gdK_e, skK_e, gdA_e, skA_e, pkK_e]); simp (maxSteps := 10000000) (disch := omega) only [hq', SlI.nil, go_sem, ↓reduceIte, Nat.reduceEqDiff, Nat.reduceSub, Nat.reduceLeDiff, Nat.reduceAdd, Int.reduceEq, Int.reduceLT, Int.reduceLE]
      refine ⟨_, .same _, ?_⟩
      (try simp only [brK_e, gdK_e, skK_e, gdA_e, skA_e, pkK_e]); simp (maxSteps := 10000000) (disch := omega) only [List.map_nil, go_sem, ↓reduceIte, Nat.reduceEqDiff, Nat.reduceSub, Nat.reduceLeDiff, Nat.reduceAdd, Int.reduceEq, Int.reduceLT, Int.reduceLE]
end Go.Proofs.Ytmeecblciegkkaa.Fw
namespace Go.Proofs.Ytmeecblciegkkaa.Fw
open Go.RowKit Go.Proofs
def zEv : Evt := ⟨0, 0, fun _ => 0, 0, 0, 0, 0, 0, [], .nil, .nil, 0, [], 0⟩
theorem list12 {α : Type} {L : List α} (h : L.length = 12) : ∃ a b c d e f g i j k l m, L = [a, b, c, d, e, f, g, i, j, k, l, m] := by
  match L, h with
  | [a, b, c, d, e, f, g, i, j, k, l, m], _ => exact ⟨a, b, c, d, e, f, g, i, j, k, l, m, rfl⟩
def prE (l0 l1 l2 l3 l4 l5 l6 l7 l8 l9 l10 l11 : List UInt8) : Evt := ⟨smallB l0, (max 0 (smallB l1)).toNat, (growB l2 fun _ => 0).1, smallB l3, (rdID l4).1, (rdID l4).2, (rdID l5).1, (rdID l5).2, l6, (rdI l7).1, (rdI l8).1, smallB l9, l10, smallB l11⟩
theorem small_rng (b : List UInt8) : -1 ≤ smallB b ∧ smallB b ≤ 1073741824 := by
  unfold smallB; split
  · omega
  · omega
theorem rdI_ok {b : List UInt8} : (rdI b).1.ok ∧ (rdI b).1.l.length ≤ 8 := by
  have h := (unpack_facts 8 b.length b [] (Nat.le_refl _)).2
  unfold rdI
  split
  · split
    · exact ⟨.inr rfl, by simp at h ⊢; omega⟩
    · exact ⟨.inl rfl, by simp [SlI.nil]⟩
  · exact ⟨.inl rfl, by simp [SlI.nil]⟩
theorem zero_rep : (List.replicate 8 (PV.i .u32 0)) = vE fun _ => 0 := rfl
set_option maxHeartbeats 8000000 in
theorem okRead_gen {b : List UInt8} (hb : b.length ≤ 100000) {h d} :
    (∃ x, ev x ∧ checkB x = true ∧ evB x = b ∧ FunOk Try.prog 45 [.pv (.sl false 1 (bytesE b))] h d (.tup [.agg (segE x), .pv (.i .i64 0)]) []) ∨
    (∃ c : Int, c ≠ 0 ∧ FunOk Try.prog 45 [.pv (.sl false 1 (bytesE b))] h d (.tup [.agg (segE zEv), .pv (.i .i64 c)]) []) := by
  obtain ⟨hu1, hu2⟩ := unpack_facts 12 b.length b [] (Nat.le_refl _)
  rcases hU : unpackG b [] 12 with ⟨L, c⟩
  rw [hU] at hu1 hu2
  simp only at hu1 hu2
  have hLl : ∀ f ∈ L, f.length ≤ b.length := fun f hf => (hu1 f hf).resolve_left (by simp)
  by_cases hc : c = 0
  rotate_left
  · right
    refine ⟨c, hc, ?_⟩
    refine fun_pure mixed fn45 (by simp) rfl rfl fun F => ?_
    (try simp only [brK_e, gdK_e, skK_e, gdA_e, skA_e, pkK_e]); simp (maxSteps := 10000000) (disch := omega) only [ir45, go_sem, ↓reduceIte, Nat.reduceEqDiff, Nat.reduceSub, Nat.reduceLeDiff, Nat.reduceAdd, Int.reduceEq, Int.reduceLT, Int.reduceLE]
    refine call_with (okUnpack (f := false) (z := 1) (b := b) (most := 12) (.inr rfl) (by omega)) ?_
    rw [hU]
    (try simp only [brK_e, gdK_e, skK_e, gdA_e, skA_e, pkK_e]); simp (maxSteps := 10000000) (disch := omega) only [hc, go_sem, ↓reduceIte, Nat.reduceEqDiff, Nat.reduceSub, Nat.reduceLeDiff, Nat.reduceAdd, Int.reduceEq, Int.reduceLT, Int.reduceLE]
    rfl
  subst hc
  by_cases hL : (L.length : Int) = 12
  rotate_left
  · right
    refine ⟨8, by decide, ?_⟩
    refine fun_pure mixed fn45 (by simp) rfl rfl fun F => ?_
    (try simp only [brK_e, gdK_e, skK_e, gdA_e, skA_e, pkK_e]); simp (maxSteps := 10000000) (disch := omega) only [ir45, go_sem, ↓reduceIte, Nat.reduceEqDiff, Nat.reduceSub, Nat.reduceLeDiff, Nat.reduceAdd, Int.reduceEq, Int.reduceLT, Int.reduceLE]
    refine call_with (okUnpack (f := false) (z := 1) (b := b) (most := 12) (.inr rfl) (by omega)) ?_
    rw [hU]
    (try simp only [brK_e, gdK_e, skK_e, gdA_e, skA_e, pkK_e]); simp (maxSteps := 10000000) (disch := omega) only [hL, go_sem, ↓reduceIte, Nat.reduceEqDiff, Nat.reduceSub, Nat.reduceLeDiff, Nat.reduceAdd, Int.reduceEq, Int.reduceLT, Int.reduceLE]
    rfl
  obtain ⟨l0, l1, l2, l3, l4, l5, l6, l7, l8, l9, l10, l11, rfl⟩ := list12 (show L.length = 12 by omega)
  simp only [List.mem_cons, List.not_mem_nil, or_false, forall_eq_or_imp, forall_eq] at hLl
  obtain ⟨q0, q1, q2, q3, q4, q5, q6, q7, q8, q9, q10, q11⟩ := hLl
  have hx7 := rdI_ok (b := l7)
  have hx8 := rdI_ok (b := l8)
  have hev : ev (prE l0 l1 l2 l3 l4 l5 l6 l7 l8 l9 l10 l11) := ⟨hx7.1, hx8.1, by have := hx7.2; simp only [prE]; omega, by have := hx8.2; simp only [prE]; omega, by simp only [prE]; omega⟩
  have hl12 : (([l0, l1, l2, l3, l4, l5, l6, l7, l8, l9, l10, l11].map bE).length : Int) = 12 := rfl
  have f0 : ([l0, l1, l2, l3, l4, l5, l6, l7, l8, l9, l10, l11].map bE)[0]? = some [.sl false 1 (bytesE l0)] := rfl
  have f1 : ([l0, l1, l2, l3, l4, l5, l6, l7, l8, l9, l10, l11].map bE)[Int.toNat 1]? = some [.sl false 1 (bytesE l1)] := rfl
  have f2 : ([l0, l1, l2, l3, l4, l5, l6, l7, l8, l9, l10, l11].map bE)[Int.toNat 2]? = some [.sl false 1 (bytesE l2)] := rfl
  have f3 : ([l0, l1, l2, l3, l4, l5, l6, l7, l8, l9, l10, l11].map bE)[Int.toNat 3]? = some [.sl false 1 (bytesE l3)] := rfl
  have f4 : ([l0, l1, l2, l3, l4, l5, l6, l7, l8, l9, l10, l11].map bE)[Int.toNat 4]? = some [.sl false 1 (bytesE l4)] := rfl
  have f5 : ([l0, l1, l2, l3, l4, l5, l6, l7, l8, l9, l10, l11].map bE)[Int.toNat 5]? = some [.sl false 1 (bytesE l5)] := rfl
  have f6 : ([l0, l1, l2, l3, l4, l5, l6, l7, l8, l9, l10, l11].map bE)[Int.toNat 6]? = some [.sl false 1 (bytesE l6)] := rfl
  have f7 : ([l0, l1, l2, l3, l4, l5, l6, l7, l8, l9, l10, l11].map bE)[Int.toNat 7]? = some [.sl false 1 (bytesE l7)] := rfl
  have f8 : ([l0, l1, l2, l3, l4, l5, l6, l7, l8, l9, l10, l11].map bE)[Int.toNat 8]? = some [.sl false 1 (bytesE l8)] := rfl
  have f9 : ([l0, l1, l2, l3, l4, l5, l6, l7, l8, l9, l10, l11].map bE)[Int.toNat 9]? = some [.sl false 1 (bytesE l9)] := rfl
  have f10 : ([l0, l1, l2, l3, l4, l5, l6, l7, l8, l9, l10, l11].map bE)[Int.toNat 10]? = some [.sl false 1 (bytesE l10)] := rfl
  have f11 : ([l0, l1, l2, l3, l4, l5, l6, l7, l8, l9, l10, l11].map bE)[Int.toNat 11]? = some [.sl false 1 (bytesE l11)] := rfl
  have hs1 := small_rng l1
  have hX : prE l0 l1 l2 l3 l4 l5 l6 l7 l8 l9 l10 l11 = prE l0 l1 l2 l3 l4 l5 l6 l7 l8 l9 l10 l11 := rfl
  obtain ⟨q, hq⟩ : ∃ q : Nat, max 0 (smallB l1) = (q : Int) := ⟨(max 0 (smallB l1)).toNat, by omega⟩
  have hqn : (max 0 (smallB l1)).toNat = q := by omega
  generalize hE : [l0, l1, l2, l3, l4, l5, l6, l7, l8, l9, l10, l11].map bE = E at *
  by_cases e2 : (growB l2 fun _ => 0).2 = 0
  rotate_left
  · right
    refine ⟨7, by decide, ?_⟩
    refine fun_pure mixed fn45 (by simp) rfl rfl fun F => ?_
    (try simp only [brK_e, gdK_e, skK_e, gdA_e, skA_e, pkK_e]); simp (maxSteps := 10000000) (disch := omega) only [ir45, go_sem, ↓reduceIte, Nat.reduceEqDiff, Nat.reduceSub, Nat.reduceLeDiff, Nat.reduceAdd, Int.reduceEq, Int.reduceLT, Int.reduceLE]
    refine call_with (okUnpack (f := false) (z := 1) (b := b) (most := 12) (.inr rfl) (by omega)) ?_
    rw [hU]
    simp only [hE]
    (try simp only [brK_e, gdK_e, skK_e, gdA_e, skA_e, pkK_e]); simp (maxSteps := 10000000) (disch := omega) only [hl12, f3, f4, f5, f6, f9, f10, f11, load_c0, go_sem, ↓reduceIte, Nat.reduceEqDiff, Nat.reduceSub, Nat.reduceLeDiff, Nat.reduceAdd, Int.reduceEq, Int.reduceLT, Int.reduceLE]
    refine call_with (okSmall (f := false) (z := 1) (b := l3) (.inr rfl) (by omega)) ?_
    (try simp only [brK_e, gdK_e, skK_e, gdA_e, skA_e, pkK_e]); simp (maxSteps := 10000000) (disch := omega) only [f3, f4, f5, f6, f9, f10, f11, load_c0, go_sem, ↓reduceIte, Nat.reduceEqDiff, Nat.reduceSub, Nat.reduceLeDiff, Nat.reduceAdd, Int.reduceEq, Int.reduceLT, Int.reduceLE]
    refine call_with (okReadID (f := false) (z := 1) (b := l4) (.inr rfl) (by omega)) ?_
    (try simp only [brK_e, gdK_e, skK_e, gdA_e, skA_e, pkK_e]); simp (maxSteps := 10000000) (disch := omega) only [f3, f4, f5, f6, f9, f10, f11, load_c0, go_sem, ↓reduceIte, Nat.reduceEqDiff, Nat.reduceSub, Nat.reduceLeDiff, Nat.reduceAdd, Int.reduceEq, Int.reduceLT, Int.reduceLE]
    refine call_with (okReadID (f := false) (z := 1) (b := l5) (.inr rfl) (by omega)) ?_
    (try simp only [brK_e, gdK_e, skK_e, gdA_e, skA_e, pkK_e]); simp (maxSteps := 10000000) (disch := omega) only [f3, f4, f5, f6, f9, f10, f11, load_c0, go_sem, ↓reduceIte, Nat.reduceEqDiff, Nat.reduceSub, Nat.reduceLeDiff, Nat.reduceAdd, Int.reduceEq, Int.reduceLT, Int.reduceLE]
    refine call_with (okSmall (f := false) (z := 1) (b := l9) (.inr rfl) (by omega)) ?_
    (try simp only [brK_e, gdK_e, skK_e, gdA_e, skA_e, pkK_e]); simp (maxSteps := 10000000) (disch := omega) only [f3, f4, f5, f6, f9, f10, f11, load_c0, go_sem, ↓reduceIte, Nat.reduceEqDiff, Nat.reduceSub, Nat.reduceLeDiff, Nat.reduceAdd, Int.reduceEq, Int.reduceLT, Int.reduceLE]
    refine call_with (okSmall (f := false) (z := 1) (b := l11) (.inr rfl) (by omega)) ?_
    (try simp only [brK_e, gdK_e, skK_e, gdA_e, skA_e, pkK_e]); simp (maxSteps := 10000000) (disch := omega) only [f0, f1, f2, f7, f8, load_c0, go_sem, ↓reduceIte, Nat.reduceEqDiff, Nat.reduceSub, Nat.reduceLeDiff, Nat.reduceAdd, Int.reduceEq, Int.reduceLT, Int.reduceLE]
    refine call_with (okSmall (f := false) (z := 1) (b := l0) (.inr rfl) (by omega)) ?_
    (try simp only [brK_e, gdK_e, skK_e, gdA_e, skA_e, pkK_e]); simp (maxSteps := 10000000) (disch := omega) only [f0, f1, f2, f7, f8, load_c0, go_sem, ↓reduceIte, Nat.reduceEqDiff, Nat.reduceSub, Nat.reduceLeDiff, Nat.reduceAdd, Int.reduceEq, Int.reduceLT, Int.reduceLE]
    refine call_with (okSmall (f := false) (z := 1) (b := l1) (.inr rfl) (by omega)) ?_
    (try simp only [brK_e, gdK_e, skK_e, gdA_e, skA_e, pkK_e]); simp (maxSteps := 10000000) (disch := omega) only [f0, f1, f2, f7, f8, load_c0, hq, go_sem, ↓reduceIte, Nat.reduceEqDiff, Nat.reduceSub, Nat.reduceLeDiff, Nat.reduceAdd, Int.reduceEq, Int.reduceLT, Int.reduceLE]
    refine call_with (okGrow (l := l2) (fun _ => 0) (by simp) (by omega) rfl rfl (.inr rfl)) ?_
    (try simp only [brK_e, gdK_e, skK_e, gdA_e, skA_e, pkK_e]); simp (maxSteps := 10000000) (disch := omega) only [f7, f8, load_c0, go_sem, ↓reduceIte, Nat.reduceEqDiff, Nat.reduceSub, Nat.reduceLeDiff, Nat.reduceAdd, Int.reduceEq, Int.reduceLT, Int.reduceLE]
    refine call_with (okReadIDs_gen (b := l7) (by omega)) ?_
    (try simp only [brK_e, gdK_e, skK_e, gdA_e, skA_e, pkK_e]); simp (maxSteps := 10000000) (disch := omega) only [f7, f8, load_c0, go_sem, ↓reduceIte, Nat.reduceEqDiff, Nat.reduceSub, Nat.reduceLeDiff, Nat.reduceAdd, Int.reduceEq, Int.reduceLT, Int.reduceLE]
    refine call_with (okReadIDs_gen (b := l8) (by omega)) ?_
    (try simp only [brK_e, gdK_e, skK_e, gdA_e, skA_e, pkK_e]); simp (maxSteps := 10000000) (disch := omega) only [e2, go_sem, ↓reduceIte, Nat.reduceEqDiff, Nat.reduceSub, Nat.reduceLeDiff, Nat.reduceAdd, Int.reduceEq, Int.reduceLT, Int.reduceLE]
    rfl
  by_cases e7 : (rdI l7).2 = 0
  rotate_left
  · right
    refine ⟨7, by decide, ?_⟩
    refine fun_pure mixed fn45 (by simp) rfl rfl fun F => ?_
    (try simp only [brK_e, gdK_e, skK_e, gdA_e, skA_e, pkK_e]); simp (maxSteps := 10000000) (disch := omega) only [ir45, go_sem, ↓reduceIte, Nat.reduceEqDiff, Nat.reduceSub, Nat.reduceLeDiff, Nat.reduceAdd, Int.reduceEq, Int.reduceLT, Int.reduceLE]
    refine call_with (okUnpack (f := false) (z := 1) (b := b) (most := 12) (.inr rfl) (by omega)) ?_
    rw [hU]
    simp only [hE]
    (try simp only [brK_e, gdK_e, skK_e, gdA_e, skA_e, pkK_e]); simp (maxSteps := 10000000) (disch := omega) only [hl12, f3, f4, f5, f6, f9, f10, f11, load_c0, go_sem, ↓reduceIte, Nat.reduceEqDiff, Nat.reduceSub, Nat.reduceLeDiff, Nat.reduceAdd, Int.reduceEq, Int.reduceLT, Int.reduceLE]
    refine call_with (okSmall (f := false) (z := 1) (b := l3) (.inr rfl) (by omega)) ?_
    (try simp only [brK_e, gdK_e, skK_e, gdA_e, skA_e, pkK_e]); simp (maxSteps := 10000000) (disch := omega) only [f3, f4, f5, f6, f9, f10, f11, load_c0, go_sem, ↓reduceIte, Nat.reduceEqDiff, Nat.reduceSub, Nat.reduceLeDiff, Nat.reduceAdd, Int.reduceEq, Int.reduceLT, Int.reduceLE]
    refine call_with (okReadID (f := false) (z := 1) (b := l4) (.inr rfl) (by omega)) ?_
    (try simp only [brK_e, gdK_e, skK_e, gdA_e, skA_e, pkK_e]); simp (maxSteps := 10000000) (disch := omega) only [f3, f4, f5, f6, f9, f10, f11, load_c0, go_sem, ↓reduceIte, Nat.reduceEqDiff, Nat.reduceSub, Nat.reduceLeDiff, Nat.reduceAdd, Int.reduceEq, Int.reduceLT, Int.reduceLE]
    refine call_with (okReadID (f := false) (z := 1) (b := l5) (.inr rfl) (by omega)) ?_
    (try simp only [brK_e, gdK_e, skK_e, gdA_e, skA_e, pkK_e]); simp (maxSteps := 10000000) (disch := omega) only [f3, f4, f5, f6, f9, f10, f11, load_c0, go_sem, ↓reduceIte, Nat.reduceEqDiff, Nat.reduceSub, Nat.reduceLeDiff, Nat.reduceAdd, Int.reduceEq, Int.reduceLT, Int.reduceLE]
    refine call_with (okSmall (f := false) (z := 1) (b := l9) (.inr rfl) (by omega)) ?_
    (try simp only [brK_e, gdK_e, skK_e, gdA_e, skA_e, pkK_e]); simp (maxSteps := 10000000) (disch := omega) only [f3, f4, f5, f6, f9, f10, f11, load_c0, go_sem, ↓reduceIte, Nat.reduceEqDiff, Nat.reduceSub, Nat.reduceLeDiff, Nat.reduceAdd, Int.reduceEq, Int.reduceLT, Int.reduceLE]
    refine call_with (okSmall (f := false) (z := 1) (b := l11) (.inr rfl) (by omega)) ?_
    (try simp only [brK_e, gdK_e, skK_e, gdA_e, skA_e, pkK_e]); simp (maxSteps := 10000000) (disch := omega) only [f0, f1, f2, f7, f8, load_c0, go_sem, ↓reduceIte, Nat.reduceEqDiff, Nat.reduceSub, Nat.reduceLeDiff, Nat.reduceAdd, Int.reduceEq, Int.reduceLT, Int.reduceLE]
    refine call_with (okSmall (f := false) (z := 1) (b := l0) (.inr rfl) (by omega)) ?_
    (try simp only [brK_e, gdK_e, skK_e, gdA_e, skA_e, pkK_e]); simp (maxSteps := 10000000) (disch := omega) only [f0, f1, f2, f7, f8, load_c0, go_sem, ↓reduceIte, Nat.reduceEqDiff, Nat.reduceSub, Nat.reduceLeDiff, Nat.reduceAdd, Int.reduceEq, Int.reduceLT, Int.reduceLE]
    refine call_with (okSmall (f := false) (z := 1) (b := l1) (.inr rfl) (by omega)) ?_
    (try simp only [brK_e, gdK_e, skK_e, gdA_e, skA_e, pkK_e]); simp (maxSteps := 10000000) (disch := omega) only [f0, f1, f2, f7, f8, load_c0, hq, go_sem, ↓reduceIte, Nat.reduceEqDiff, Nat.reduceSub, Nat.reduceLeDiff, Nat.reduceAdd, Int.reduceEq, Int.reduceLT, Int.reduceLE]
    refine call_with (okGrow (l := l2) (fun _ => 0) (by simp) (by omega) rfl rfl (.inr rfl)) ?_
    (try simp only [brK_e, gdK_e, skK_e, gdA_e, skA_e, pkK_e]); simp (maxSteps := 10000000) (disch := omega) only [f7, f8, load_c0, go_sem, ↓reduceIte, Nat.reduceEqDiff, Nat.reduceSub, Nat.reduceLeDiff, Nat.reduceAdd, Int.reduceEq, Int.reduceLT, Int.reduceLE]
    refine call_with (okReadIDs_gen (b := l7) (by omega)) ?_
    (try simp only [brK_e, gdK_e, skK_e, gdA_e, skA_e, pkK_e]); simp (maxSteps := 10000000) (disch := omega) only [f7, f8, load_c0, go_sem, ↓reduceIte, Nat.reduceEqDiff, Nat.reduceSub, Nat.reduceLeDiff, Nat.reduceAdd, Int.reduceEq, Int.reduceLT, Int.reduceLE]
    refine call_with (okReadIDs_gen (b := l8) (by omega)) ?_
    (try simp only [brK_e, gdK_e, skK_e, gdA_e, skA_e, pkK_e]); simp (maxSteps := 10000000) (disch := omega) only [e2, e7, go_sem, ↓reduceIte, Nat.reduceEqDiff, Nat.reduceSub, Nat.reduceLeDiff, Nat.reduceAdd, Int.reduceEq, Int.reduceLT, Int.reduceLE]
    rfl
  by_cases e8 : (rdI l8).2 = 0
  rotate_left
  · right
    refine ⟨7, by decide, ?_⟩
    refine fun_pure mixed fn45 (by simp) rfl rfl fun F => ?_
    (try simp only [brK_e, gdK_e, skK_e, gdA_e, skA_e, pkK_e]); simp (maxSteps := 10000000) (disch := omega) only [ir45, go_sem, ↓reduceIte, Nat.reduceEqDiff, Nat.reduceSub, Nat.reduceLeDiff, Nat.reduceAdd, Int.reduceEq, Int.reduceLT, Int.reduceLE]
    refine call_with (okUnpack (f := false) (z := 1) (b := b) (most := 12) (.inr rfl) (by omega)) ?_
    rw [hU]
    simp only [hE]
    (try simp only [brK_e, gdK_e, skK_e, gdA_e, skA_e, pkK_e]); simp (maxSteps := 10000000) (disch := omega) only [hl12, f3, f4, f5, f6, f9, f10, f11, load_c0, go_sem, ↓reduceIte, Nat.reduceEqDiff, Nat.reduceSub, Nat.reduceLeDiff, Nat.reduceAdd, Int.reduceEq, Int.reduceLT, Int.reduceLE]
    refine call_with (okSmall (f := false) (z := 1) (b := l3) (.inr rfl) (by omega)) ?_
    (try simp only [brK_e, gdK_e, skK_e, gdA_e, skA_e, pkK_e]); simp (maxSteps := 10000000) (disch := omega) only [f3, f4, f5, f6, f9, f10, f11, load_c0, go_sem, ↓reduceIte, Nat.reduceEqDiff, Nat.reduceSub, Nat.reduceLeDiff, Nat.reduceAdd, Int.reduceEq, Int.reduceLT, Int.reduceLE]
    refine call_with (okReadID (f := false) (z := 1) (b := l4) (.inr rfl) (by omega)) ?_
    (try simp only [brK_e, gdK_e, skK_e, gdA_e, skA_e, pkK_e]); simp (maxSteps := 10000000) (disch := omega) only [f3, f4, f5, f6, f9, f10, f11, load_c0, go_sem, ↓reduceIte, Nat.reduceEqDiff, Nat.reduceSub, Nat.reduceLeDiff, Nat.reduceAdd, Int.reduceEq, Int.reduceLT, Int.reduceLE]
    refine call_with (okReadID (f := false) (z := 1) (b := l5) (.inr rfl) (by omega)) ?_
    (try simp only [brK_e, gdK_e, skK_e, gdA_e, skA_e, pkK_e]); simp (maxSteps := 10000000) (disch := omega) only [f3, f4, f5, f6, f9, f10, f11, load_c0, go_sem, ↓reduceIte, Nat.reduceEqDiff, Nat.reduceSub, Nat.reduceLeDiff, Nat.reduceAdd, Int.reduceEq, Int.reduceLT, Int.reduceLE]
    refine call_with (okSmall (f := false) (z := 1) (b := l9) (.inr rfl) (by omega)) ?_
    (try simp only [brK_e, gdK_e, skK_e, gdA_e, skA_e, pkK_e]); simp (maxSteps := 10000000) (disch := omega) only [f3, f4, f5, f6, f9, f10, f11, load_c0, go_sem, ↓reduceIte, Nat.reduceEqDiff, Nat.reduceSub, Nat.reduceLeDiff, Nat.reduceAdd, Int.reduceEq, Int.reduceLT, Int.reduceLE]
    refine call_with (okSmall (f := false) (z := 1) (b := l11) (.inr rfl) (by omega)) ?_
    (try simp only [brK_e, gdK_e, skK_e, gdA_e, skA_e, pkK_e]); simp (maxSteps := 10000000) (disch := omega) only [f0, f1, f2, f7, f8, load_c0, go_sem, ↓reduceIte, Nat.reduceEqDiff, Nat.reduceSub, Nat.reduceLeDiff, Nat.reduceAdd, Int.reduceEq, Int.reduceLT, Int.reduceLE]
    refine call_with (okSmall (f := false) (z := 1) (b := l0) (.inr rfl) (by omega)) ?_
    (try simp only [brK_e, gdK_e, skK_e, gdA_e, skA_e, pkK_e]); simp (maxSteps := 10000000) (disch := omega) only [f0, f1, f2, f7, f8, load_c0, go_sem, ↓reduceIte, Nat.reduceEqDiff, Nat.reduceSub, Nat.reduceLeDiff, Nat.reduceAdd, Int.reduceEq, Int.reduceLT, Int.reduceLE]
    refine call_with (okSmall (f := false) (z := 1) (b := l1) (.inr rfl) (by omega)) ?_
    (try simp only [brK_e, gdK_e, skK_e, gdA_e, skA_e, pkK_e]); simp (maxSteps := 10000000) (disch := omega) only [f0, f1, f2, f7, f8, load_c0, hq, go_sem, ↓reduceIte, Nat.reduceEqDiff, Nat.reduceSub, Nat.reduceLeDiff, Nat.reduceAdd, Int.reduceEq, Int.reduceLT, Int.reduceLE]
    refine call_with (okGrow (l := l2) (fun _ => 0) (by simp) (by omega) rfl rfl (.inr rfl)) ?_
    (try simp only [brK_e, gdK_e, skK_e, gdA_e, skA_e, pkK_e]); simp (maxSteps := 10000000) (disch := omega) only [f7, f8, load_c0, go_sem, ↓reduceIte, Nat.reduceEqDiff, Nat.reduceSub, Nat.reduceLeDiff, Nat.reduceAdd, Int.reduceEq, Int.reduceLT, Int.reduceLE]
    refine call_with (okReadIDs_gen (b := l7) (by omega)) ?_
    (try simp only [brK_e, gdK_e, skK_e, gdA_e, skA_e, pkK_e]); simp (maxSteps := 10000000) (disch := omega) only [f7, f8, load_c0, go_sem, ↓reduceIte, Nat.reduceEqDiff, Nat.reduceSub, Nat.reduceLeDiff, Nat.reduceAdd, Int.reduceEq, Int.reduceLT, Int.reduceLE]
    refine call_with (okReadIDs_gen (b := l8) (by omega)) ?_
    (try simp only [brK_e, gdK_e, skK_e, gdA_e, skA_e, pkK_e]); simp (maxSteps := 10000000) (disch := omega) only [e2, e7, e8, go_sem, ↓reduceIte, Nat.reduceEqDiff, Nat.reduceSub, Nat.reduceLeDiff, Nat.reduceAdd, Int.reduceEq, Int.reduceLT, Int.reduceLE]
    rfl
  have hpr : ∀ z : Int, z = (q : Int) → segE (prE l0 l1 l2 l3 l4 l5 l6 l7 l8 l9 l10 l11) = [.pv (.i .i64 (smallB l0)), .pv (.i .u32 z), .vec 8 (vE (growB l2 fun _ => 0).1), .pv (.i .i64 (smallB l3)), .pv (.i .i64 (rdID l4).1), .pv (.i .u32 (rdID l4).2), .pv (.i .i64 (rdID l5).1), .pv (.i .u32 (rdID l5).2), .pv (.s l6), .pv (rdI l7).1.pv, .pv (rdI l8).1.pv, .pv (.i .i64 (smallB l9)), .pv (.s l10), .pv (.i .i64 (smallB l11))] := fun z hz => by
    subst hz; simp only [segE, prE, hqn]
  generalize prE l0 l1 l2 l3 l4 l5 l6 l7 l8 l9 l10 l11 = X at *
  have hseg := hpr (q : Int) rfl
  by_cases cc' : checkB X = false
  · right
    refine ⟨7, by decide, ?_⟩
    refine fun_pure mixed fn45 (by simp) rfl rfl fun F => ?_
    (try simp only [brK_e, gdK_e, skK_e, gdA_e, skA_e, pkK_e]); simp (maxSteps := 10000000) (disch := omega) only [ir45, go_sem, ↓reduceIte, Nat.reduceEqDiff, Nat.reduceSub, Nat.reduceLeDiff, Nat.reduceAdd, Int.reduceEq, Int.reduceLT, Int.reduceLE]
    refine call_with (okUnpack (f := false) (z := 1) (b := b) (most := 12) (.inr rfl) (by omega)) ?_
    rw [hU]
    simp only [hE]
    (try simp only [brK_e, gdK_e, skK_e, gdA_e, skA_e, pkK_e]); simp (maxSteps := 10000000) (disch := omega) only [hl12, f3, f4, f5, f6, f9, f10, f11, load_c0, go_sem, ↓reduceIte, Nat.reduceEqDiff, Nat.reduceSub, Nat.reduceLeDiff, Nat.reduceAdd, Int.reduceEq, Int.reduceLT, Int.reduceLE]
    refine call_with (okSmall (f := false) (z := 1) (b := l3) (.inr rfl) (by omega)) ?_
    (try simp only [brK_e, gdK_e, skK_e, gdA_e, skA_e, pkK_e]); simp (maxSteps := 10000000) (disch := omega) only [f3, f4, f5, f6, f9, f10, f11, load_c0, go_sem, ↓reduceIte, Nat.reduceEqDiff, Nat.reduceSub, Nat.reduceLeDiff, Nat.reduceAdd, Int.reduceEq, Int.reduceLT, Int.reduceLE]
    refine call_with (okReadID (f := false) (z := 1) (b := l4) (.inr rfl) (by omega)) ?_
    (try simp only [brK_e, gdK_e, skK_e, gdA_e, skA_e, pkK_e]); simp (maxSteps := 10000000) (disch := omega) only [f3, f4, f5, f6, f9, f10, f11, load_c0, go_sem, ↓reduceIte, Nat.reduceEqDiff, Nat.reduceSub, Nat.reduceLeDiff, Nat.reduceAdd, Int.reduceEq, Int.reduceLT, Int.reduceLE]
    refine call_with (okReadID (f := false) (z := 1) (b := l5) (.inr rfl) (by omega)) ?_
    (try simp only [brK_e, gdK_e, skK_e, gdA_e, skA_e, pkK_e]); simp (maxSteps := 10000000) (disch := omega) only [f3, f4, f5, f6, f9, f10, f11, load_c0, go_sem, ↓reduceIte, Nat.reduceEqDiff, Nat.reduceSub, Nat.reduceLeDiff, Nat.reduceAdd, Int.reduceEq, Int.reduceLT, Int.reduceLE]
    refine call_with (okSmall (f := false) (z := 1) (b := l9) (.inr rfl) (by omega)) ?_
    (try simp only [brK_e, gdK_e, skK_e, gdA_e, skA_e, pkK_e]); simp (maxSteps := 10000000) (disch := omega) only [f3, f4, f5, f6, f9, f10, f11, load_c0, go_sem, ↓reduceIte, Nat.reduceEqDiff, Nat.reduceSub, Nat.reduceLeDiff, Nat.reduceAdd, Int.reduceEq, Int.reduceLT, Int.reduceLE]
    refine call_with (okSmall (f := false) (z := 1) (b := l11) (.inr rfl) (by omega)) ?_
    (try simp only [brK_e, gdK_e, skK_e, gdA_e, skA_e, pkK_e]); simp (maxSteps := 10000000) (disch := omega) only [f0, f1, f2, f7, f8, load_c0, go_sem, ↓reduceIte, Nat.reduceEqDiff, Nat.reduceSub, Nat.reduceLeDiff, Nat.reduceAdd, Int.reduceEq, Int.reduceLT, Int.reduceLE]
    refine call_with (okSmall (f := false) (z := 1) (b := l0) (.inr rfl) (by omega)) ?_
    (try simp only [brK_e, gdK_e, skK_e, gdA_e, skA_e, pkK_e]); simp (maxSteps := 10000000) (disch := omega) only [f0, f1, f2, f7, f8, load_c0, go_sem, ↓reduceIte, Nat.reduceEqDiff, Nat.reduceSub, Nat.reduceLeDiff, Nat.reduceAdd, Int.reduceEq, Int.reduceLT, Int.reduceLE]
    refine call_with (okSmall (f := false) (z := 1) (b := l1) (.inr rfl) (by omega)) ?_
    (try simp only [brK_e, gdK_e, skK_e, gdA_e, skA_e, pkK_e]); simp (maxSteps := 10000000) (disch := omega) only [f0, f1, f2, f7, f8, load_c0, hq, go_sem, ↓reduceIte, Nat.reduceEqDiff, Nat.reduceSub, Nat.reduceLeDiff, Nat.reduceAdd, Int.reduceEq, Int.reduceLT, Int.reduceLE]
    refine call_with (okGrow (l := l2) (fun _ => 0) (by simp) (by omega) rfl rfl (.inr rfl)) ?_
    (try simp only [brK_e, gdK_e, skK_e, gdA_e, skA_e, pkK_e]); simp (maxSteps := 10000000) (disch := omega) only [f7, f8, load_c0, go_sem, ↓reduceIte, Nat.reduceEqDiff, Nat.reduceSub, Nat.reduceLeDiff, Nat.reduceAdd, Int.reduceEq, Int.reduceLT, Int.reduceLE]
    refine call_with (okReadIDs_gen (b := l7) (by omega)) ?_
    (try simp only [brK_e, gdK_e, skK_e, gdA_e, skA_e, pkK_e]); simp (maxSteps := 10000000) (disch := omega) only [f7, f8, load_c0, go_sem, ↓reduceIte, Nat.reduceEqDiff, Nat.reduceSub, Nat.reduceLeDiff, Nat.reduceAdd, Int.reduceEq, Int.reduceLT, Int.reduceLE]
    refine call_with (okReadIDs_gen (b := l8) (by omega)) ?_
    (try simp only [brK_e, gdK_e, skK_e, gdA_e, skA_e, pkK_e]); simp (maxSteps := 10000000) (disch := omega) only [e2, e7, e8, go_sem, ↓reduceIte, Nat.reduceEqDiff, Nat.reduceSub, Nat.reduceLeDiff, Nat.reduceAdd, Int.reduceEq, Int.reduceLT, Int.reduceLE]
    have okW := fun (h : Nat → Option Blk) (d : Nat) => (okWrite_bad X hev cc' (h := h) (d := d)).imp (args := [.agg (segE X)]) ⟨imp_agg (seg_cells X) (evE_len X), trivial⟩ (by simp [tops, tn])
    rw [hseg] at okW
    refine call_with (okW _ _) ?_
    (try simp only [brK_e, gdK_e, skK_e, gdA_e, skA_e, pkK_e]); simp (maxSteps := 10000000) (disch := omega) only [go_sem, ↓reduceIte, Nat.reduceEqDiff, Nat.reduceSub, Nat.reduceLeDiff, Nat.reduceAdd, Int.reduceEq, Int.reduceLT, Int.reduceLE]
    rfl
  have cc : checkB X = true := by simpa using cc'
  have g := good_of_check cc
  have hpk := fields_pack g
  have hbl := packB_len (fieldsE X)
  have hbe : (evB X).length ≤ 3636 := by unfold evB; omega
  have okW := fun (h : Nat → Option Blk) (d : Nat) => okWriteA X hev cc (h := h) (d := d)
  rw [hseg] at okW
  by_cases hq2 : evB X = b
  · left
    refine ⟨X, hev, cc, hq2, ?_⟩
    rw [hseg]
    refine fun_pure mixed fn45 (by simp) rfl rfl fun F => ?_
    (try simp only [brK_e, gdK_e, skK_e, gdA_e, skA_e, pkK_e]); simp (maxSteps := 10000000) (disch := omega) only [ir45, go_sem, ↓reduceIte, Nat.reduceEqDiff, Nat.reduceSub, Nat.reduceLeDiff, Nat.reduceAdd, Int.reduceEq, Int.reduceLT, Int.reduceLE]
    refine call_with (okUnpack (f := false) (z := 1) (b := b) (most := 12) (.inr rfl) (by omega)) ?_
    rw [hU]
    simp only [hE]
    (try simp only [brK_e, gdK_e, skK_e, gdA_e, skA_e, pkK_e]); simp (maxSteps := 10000000) (disch := omega) only [hl12, f3, f4, f5, f6, f9, f10, f11, load_c0, go_sem, ↓reduceIte, Nat.reduceEqDiff, Nat.reduceSub, Nat.reduceLeDiff, Nat.reduceAdd, Int.reduceEq, Int.reduceLT, Int.reduceLE]
    refine call_with (okSmall (f := false) (z := 1) (b := l3) (.inr rfl) (by omega)) ?_
    (try simp only [brK_e, gdK_e, skK_e, gdA_e, skA_e, pkK_e]); simp (maxSteps := 10000000) (disch := omega) only [f3, f4, f5, f6, f9, f10, f11, load_c0, go_sem, ↓reduceIte, Nat.reduceEqDiff, Nat.reduceSub, Nat.reduceLeDiff, Nat.reduceAdd, Int.reduceEq, Int.reduceLT, Int.reduceLE]
    refine call_with (okReadID (f := false) (z := 1) (b := l4) (.inr rfl) (by omega)) ?_
    (try simp only [brK_e, gdK_e, skK_e, gdA_e, skA_e, pkK_e]); simp (maxSteps := 10000000) (disch := omega) only [f3, f4, f5, f6, f9, f10, f11, load_c0, go_sem, ↓reduceIte, Nat.reduceEqDiff, Nat.reduceSub, Nat.reduceLeDiff, Nat.reduceAdd, Int.reduceEq, Int.reduceLT, Int.reduceLE]
    refine call_with (okReadID (f := false) (z := 1) (b := l5) (.inr rfl) (by omega)) ?_
    (try simp only [brK_e, gdK_e, skK_e, gdA_e, skA_e, pkK_e]); simp (maxSteps := 10000000) (disch := omega) only [f3, f4, f5, f6, f9, f10, f11, load_c0, go_sem, ↓reduceIte, Nat.reduceEqDiff, Nat.reduceSub, Nat.reduceLeDiff, Nat.reduceAdd, Int.reduceEq, Int.reduceLT, Int.reduceLE]
    refine call_with (okSmall (f := false) (z := 1) (b := l9) (.inr rfl) (by omega)) ?_
    (try simp only [brK_e, gdK_e, skK_e, gdA_e, skA_e, pkK_e]); simp (maxSteps := 10000000) (disch := omega) only [f3, f4, f5, f6, f9, f10, f11, load_c0, go_sem, ↓reduceIte, Nat.reduceEqDiff, Nat.reduceSub, Nat.reduceLeDiff, Nat.reduceAdd, Int.reduceEq, Int.reduceLT, Int.reduceLE]
    refine call_with (okSmall (f := false) (z := 1) (b := l11) (.inr rfl) (by omega)) ?_
    (try simp only [brK_e, gdK_e, skK_e, gdA_e, skA_e, pkK_e]); simp (maxSteps := 10000000) (disch := omega) only [f0, f1, f2, f7, f8, load_c0, go_sem, ↓reduceIte, Nat.reduceEqDiff, Nat.reduceSub, Nat.reduceLeDiff, Nat.reduceAdd, Int.reduceEq, Int.reduceLT, Int.reduceLE]
    refine call_with (okSmall (f := false) (z := 1) (b := l0) (.inr rfl) (by omega)) ?_
    (try simp only [brK_e, gdK_e, skK_e, gdA_e, skA_e, pkK_e]); simp (maxSteps := 10000000) (disch := omega) only [f0, f1, f2, f7, f8, load_c0, go_sem, ↓reduceIte, Nat.reduceEqDiff, Nat.reduceSub, Nat.reduceLeDiff, Nat.reduceAdd, Int.reduceEq, Int.reduceLT, Int.reduceLE]
    refine call_with (okSmall (f := false) (z := 1) (b := l1) (.inr rfl) (by omega)) ?_
    (try simp only [brK_e, gdK_e, skK_e, gdA_e, skA_e, pkK_e]); simp (maxSteps := 10000000) (disch := omega) only [f0, f1, f2, f7, f8, load_c0, hq, go_sem, ↓reduceIte, Nat.reduceEqDiff, Nat.reduceSub, Nat.reduceLeDiff, Nat.reduceAdd, Int.reduceEq, Int.reduceLT, Int.reduceLE]
    refine call_with (okGrow (l := l2) (fun _ => 0) (by simp) (by omega) rfl rfl (.inr rfl)) ?_
    (try simp only [brK_e, gdK_e, skK_e, gdA_e, skA_e, pkK_e]); simp (maxSteps := 10000000) (disch := omega) only [f7, f8, load_c0, go_sem, ↓reduceIte, Nat.reduceEqDiff, Nat.reduceSub, Nat.reduceLeDiff, Nat.reduceAdd, Int.reduceEq, Int.reduceLT, Int.reduceLE]
    refine call_with (okReadIDs_gen (b := l7) (by omega)) ?_
    (try simp only [brK_e, gdK_e, skK_e, gdA_e, skA_e, pkK_e]); simp (maxSteps := 10000000) (disch := omega) only [f7, f8, load_c0, go_sem, ↓reduceIte, Nat.reduceEqDiff, Nat.reduceSub, Nat.reduceLeDiff, Nat.reduceAdd, Int.reduceEq, Int.reduceLT, Int.reduceLE]
    refine call_with (okReadIDs_gen (b := l8) (by omega)) ?_
    (try simp only [brK_e, gdK_e, skK_e, gdA_e, skA_e, pkK_e]); simp (maxSteps := 10000000) (disch := omega) only [e2, e7, e8, go_sem, ↓reduceIte, Nat.reduceEqDiff, Nat.reduceSub, Nat.reduceLeDiff, Nat.reduceAdd, Int.reduceEq, Int.reduceLT, Int.reduceLE]
    refine call_with (okW _ _) ?_
    (try simp only [brK_e, gdK_e, skK_e, gdA_e, skA_e, pkK_e]); simp (maxSteps := 10000000) (disch := omega) only [go_sem, ↓reduceIte, Nat.reduceEqDiff, Nat.reduceSub, Nat.reduceLeDiff, Nat.reduceAdd, Int.reduceEq, Int.reduceLT, Int.reduceLE]
    refine call_with (okEqB (f := false) (g := false) (y := 1) (z := 1) (a := evB X) (b := b) rfl rfl (.inr rfl) (.inr rfl) (by omega) (by omega)) ?_
    have hq3 := eq_true hq2
    (try simp only [brK_e, gdK_e, skK_e, gdA_e, skA_e, pkK_e]); simp (maxSteps := 10000000) (disch := omega) only [hq3, go_sem, ↓reduceIte, Nat.reduceEqDiff, Nat.reduceSub, Nat.reduceLeDiff, Nat.reduceAdd, Int.reduceEq, Int.reduceLT, Int.reduceLE]
  · right
    refine ⟨7, by decide, ?_⟩
    refine fun_pure mixed fn45 (by simp) rfl rfl fun F => ?_
    (try simp only [brK_e, gdK_e, skK_e, gdA_e, skA_e, pkK_e]); simp (maxSteps := 10000000) (disch := omega) only [ir45, go_sem, ↓reduceIte, Nat.reduceEqDiff, Nat.reduceSub, Nat.reduceLeDiff, Nat.reduceAdd, Int.reduceEq, Int.reduceLT, Int.reduceLE]
    refine call_with (okUnpack (f := false) (z := 1) (b := b) (most := 12) (.inr rfl) (by omega)) ?_
    rw [hU]
    simp only [hE]
    (try simp only [brK_e, gdK_e, skK_e, gdA_e, skA_e, pkK_e]); simp (maxSteps := 10000000) (disch := omega) only [hl12, f3, f4, f5, f6, f9, f10, f11, load_c0, go_sem, ↓reduceIte, Nat.reduceEqDiff, Nat.reduceSub, Nat.reduceLeDiff, Nat.reduceAdd, Int.reduceEq, Int.reduceLT, Int.reduceLE]
    refine call_with (okSmall (f := false) (z := 1) (b := l3) (.inr rfl) (by omega)) ?_
    (try simp only [brK_e, gdK_e, skK_e, gdA_e, skA_e, pkK_e]); simp (maxSteps := 10000000) (disch := omega) only [f3, f4, f5, f6, f9, f10, f11, load_c0, go_sem, ↓reduceIte, Nat.reduceEqDiff, Nat.reduceSub, Nat.reduceLeDiff, Nat.reduceAdd, Int.reduceEq, Int.reduceLT, Int.reduceLE]
    refine call_with (okReadID (f := false) (z := 1) (b := l4) (.inr rfl) (by omega)) ?_
    (try simp only [brK_e, gdK_e, skK_e, gdA_e, skA_e, pkK_e]); simp (maxSteps := 10000000) (disch := omega) only [f3, f4, f5, f6, f9, f10, f11, load_c0, go_sem, ↓reduceIte, Nat.reduceEqDiff, Nat.reduceSub, Nat.reduceLeDiff, Nat.reduceAdd, Int.reduceEq, Int.reduceLT, Int.reduceLE]
    refine call_with (okReadID (f := false) (z := 1) (b := l5) (.inr rfl) (by omega)) ?_
    (try simp only [brK_e, gdK_e, skK_e, gdA_e, skA_e, pkK_e]); simp (maxSteps := 10000000) (disch := omega) only [f3, f4, f5, f6, f9, f10, f11, load_c0, go_sem, ↓reduceIte, Nat.reduceEqDiff, Nat.reduceSub, Nat.reduceLeDiff, Nat.reduceAdd, Int.reduceEq, Int.reduceLT, Int.reduceLE]
    refine call_with (okSmall (f := false) (z := 1) (b := l9) (.inr rfl) (by omega)) ?_
    (try simp only [brK_e, gdK_e, skK_e, gdA_e, skA_e, pkK_e]); simp (maxSteps := 10000000) (disch := omega) only [f3, f4, f5, f6, f9, f10, f11, load_c0, go_sem, ↓reduceIte, Nat.reduceEqDiff, Nat.reduceSub, Nat.reduceLeDiff, Nat.reduceAdd, Int.reduceEq, Int.reduceLT, Int.reduceLE]
    refine call_with (okSmall (f := false) (z := 1) (b := l11) (.inr rfl) (by omega)) ?_
    (try simp only [brK_e, gdK_e, skK_e, gdA_e, skA_e, pkK_e]); simp (maxSteps := 10000000) (disch := omega) only [f0, f1, f2, f7, f8, load_c0, go_sem, ↓reduceIte, Nat.reduceEqDiff, Nat.reduceSub, Nat.reduceLeDiff, Nat.reduceAdd, Int.reduceEq, Int.reduceLT, Int.reduceLE]
    refine call_with (okSmall (f := false) (z := 1) (b := l0) (.inr rfl) (by omega)) ?_
    (try simp only [brK_e, gdK_e, skK_e, gdA_e, skA_e, pkK_e]); simp (maxSteps := 10000000) (disch := omega) only [f0, f1, f2, f7, f8, load_c0, go_sem, ↓reduceIte, Nat.reduceEqDiff, Nat.reduceSub, Nat.reduceLeDiff, Nat.reduceAdd, Int.reduceEq, Int.reduceLT, Int.reduceLE]
    refine call_with (okSmall (f := false) (z := 1) (b := l1) (.inr rfl) (by omega)) ?_
    (try simp only [brK_e, gdK_e, skK_e, gdA_e, skA_e, pkK_e]); simp (maxSteps := 10000000) (disch := omega) only [f0, f1, f2, f7, f8, load_c0, hq, go_sem, ↓reduceIte, Nat.reduceEqDiff, Nat.reduceSub, Nat.reduceLeDiff, Nat.reduceAdd, Int.reduceEq, Int.reduceLT, Int.reduceLE]
    refine call_with (okGrow (l := l2) (fun _ => 0) (by simp) (by omega) rfl rfl (.inr rfl)) ?_
    (try simp only [brK_e, gdK_e, skK_e, gdA_e, skA_e, pkK_e]); simp (maxSteps := 10000000) (disch := omega) only [f7, f8, load_c0, go_sem, ↓reduceIte, Nat.reduceEqDiff, Nat.reduceSub, Nat.reduceLeDiff, Nat.reduceAdd, Int.reduceEq, Int.reduceLT, Int.reduceLE]
    refine call_with (okReadIDs_gen (b := l7) (by omega)) ?_
    (try simp only [brK_e, gdK_e, skK_e, gdA_e, skA_e, pkK_e]); simp (maxSteps := 10000000) (disch := omega) only [f7, f8, load_c0, go_sem, ↓reduceIte, Nat.reduceEqDiff, Nat.reduceSub, Nat.reduceLeDiff, Nat.reduceAdd, Int.reduceEq, Int.reduceLT, Int.reduceLE]
    refine call_with (okReadIDs_gen (b := l8) (by omega)) ?_
    (try simp only [brK_e, gdK_e, skK_e, gdA_e, skA_e, pkK_e]); simp (maxSteps := 10000000) (disch := omega) only [e2, e7, e8, go_sem, ↓reduceIte, Nat.reduceEqDiff, Nat.reduceSub, Nat.reduceLeDiff, Nat.reduceAdd, Int.reduceEq, Int.reduceLT, Int.reduceLE]
    refine call_with (okW _ _) ?_
    (try simp only [brK_e, gdK_e, skK_e, gdA_e, skA_e, pkK_e]); simp (maxSteps := 10000000) (disch := omega) only [go_sem, ↓reduceIte, Nat.reduceEqDiff, Nat.reduceSub, Nat.reduceLeDiff, Nat.reduceAdd, Int.reduceEq, Int.reduceLT, Int.reduceLE]
    refine call_with (okEqB (f := false) (g := false) (y := 1) (z := 1) (a := evB X) (b := b) rfl rfl (.inr rfl) (.inr rfl) (by omega) (by omega)) ?_
    have hq3 := eq_false hq2
    (try simp only [brK_e, gdK_e, skK_e, gdA_e, skA_e, pkK_e]); simp (maxSteps := 10000000) (disch := omega) only [hq3, go_sem, ↓reduceIte, Nat.reduceEqDiff, Nat.reduceSub, Nat.reduceLeDiff, Nat.reduceAdd, Int.reduceEq, Int.reduceLT, Int.reduceLE]
    rfl
end Go.Proofs.Ytmeecblciegkkaa.Fw
