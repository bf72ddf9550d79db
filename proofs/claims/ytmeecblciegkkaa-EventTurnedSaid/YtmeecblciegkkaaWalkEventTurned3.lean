/- What the functions that the law EventTurned reaches compute. -/
import Derived.Test.YtmeecblciegkkaaWalkEventTurned2
import Derived.OpenShut
import Derived.ShutString
import Derived.ChangeOld
import Derived.SizedLaws
import Derived.ChangeOld
import Derived.Lib.Bytealg
import Derived.OpenShut
import Derived.ShutString
import Derived.SizedLaws
set_option linter.unusedVariables false
set_option linter.unusedSimpArgs false
set_option linter.unusedSectionVars false
set_option maxRecDepth 100000
namespace Go.Proofs.Ytmeecblciegkkaa.Fw
open Go.RowKit Go.Proofs
def stChkR (e : Evt) (k : Nat) : FS := mk [(3, .pv (.i .i64 k)), (1, .p 1 0)] [(1, some (.var (.vec 21 (evE e))))]
theorem u32_ne {a b : Nat} (ha : a < 4294967296) (hb : 1 ≤ b ∧ b ≤ 1048576) (h : ¬ a + 1 = b) : ¬ IntKind.u32.wrap ((a : Int) + 1) = (b : Int) := by
  by_cases h1 : a + 1 < 4294967296
  · rw [wrap_u32 (by omega)]; omega
  · have : (a : Int) + 1 = 4294967296 := by omega
    rw [this]
    have : IntKind.u32.wrap 4294967296 = 0 := by decide
    rw [this]; omega
set_option maxHeartbeats 40000000 in
theorem okCheckR (e : Evt) (he : ev e) (hdep : ∀ i, i < 8 → e.dep i < 4294967296) {h d} : FunOk Try.prog 41 [.vec 21 (evE e)] h d (.pv (.b (checkB e))) [] := by
  refine fun_pure mixed fn41 (by simp) rfl rfl fun F => ?_
  have hl := evE_len e
  obtain ⟨hg, hb, hgn, hbn, hdl⟩ := he
  by_cases r1 : e.rep < 1
  · have eb := check_b (e := e) fun h => by have := h.1; omega
    (try simp only [brK_e, gdK_e, skK_e, gdA_e, skA_e, pkK_e]); simp (maxSteps := 10000000) (disch := omega) only [ir41, ld_ev0, r1, eb, go_sem, ↓reduceIte, Nat.reduceEqDiff, Nat.reduceSub, Nat.reduceLeDiff, Nat.reduceAdd, Int.reduceEq, Int.reduceLT, Int.reduceLE]
  by_cases r2 : 8 < e.rep
  · have eb := check_b (e := e) fun h => by have := h.2.1; omega
    (try simp only [brK_e, gdK_e, skK_e, gdA_e, skA_e, pkK_e]); simp (maxSteps := 10000000) (disch := omega) only [ir41, ld_ev0, r1, r2, eb, go_sem, ↓reduceIte, Nat.reduceEqDiff, Nat.reduceSub, Nat.reduceLeDiff, Nat.reduceAdd, Int.reduceEq, Int.reduceLT, Int.reduceLE]
  by_cases r3 : (e.seq : Int) < 1
  · have eb := check_b (e := e) fun h => by have := h.2.2.1; omega
    (try simp only [brK_e, gdK_e, skK_e, gdA_e, skA_e, pkK_e]); simp (maxSteps := 10000000) (disch := omega) only [ir41, ld_ev0, ld_ev1, r1, r2, r3, eb, go_sem, ↓reduceIte, Nat.reduceEqDiff, Nat.reduceSub, Nat.reduceLeDiff, Nat.reduceAdd, Int.reduceEq, Int.reduceLT, Int.reduceLE]
  by_cases r4 : 1048576 < (e.seq : Int)
  · have eb := check_b (e := e) fun h => by have := h.2.2.2.1; omega
    (try simp only [brK_e, gdK_e, skK_e, gdA_e, skA_e, pkK_e]); simp (maxSteps := 10000000) (disch := omega) only [ir41, ld_ev0, ld_ev1, r1, r2, r3, r4, eb, go_sem, ↓reduceIte, Nat.reduceEqDiff, Nat.reduceSub, Nat.reduceLeDiff, Nat.reduceAdd, Int.reduceEq, Int.reduceLT, Int.reduceLE]
  obtain ⟨k, hk⟩ : ∃ k : Nat, e.rep = (k : Int) + 1 := ⟨(e.rep - 1).toNat, by omega⟩
  have hk8 : k < 8 := by omega
  have ekn : (e.rep - 1).toNat = k := by omega
  have egv : getV e.dep ((k : Int) + 1) = e.dep k := by
    have e1 : ((k : Int) + 1 - 1).toNat = k := by omega
    simp [getV, e1]; omega
  have hdk := hdep k hk8
  by_cases r5 : e.dep k + 1 = e.seq
  rotate_left
  · have eb := check_b (e := e) fun h => by have := h.2.2.2.2.1; rw [ekn] at this; omega
    have hw := u32_ne hdk (by omega) r5
    (try simp only [brK_e, gdK_e, skK_e, gdA_e, skA_e, pkK_e]); simp (maxSteps := 10000000) (disch := omega) only [ir41, ld_ev0, ld_ev1, ld_evDep, load_vE8, hk, r3, r4, eb, go_sem, ↓reduceIte, Nat.reduceEqDiff, Nat.reduceSub, Nat.reduceLeDiff, Nat.reduceAdd, Int.reduceEq, Int.reduceLT, Int.reduceLE]
    refine call_with (okGetR _ _) ?_
    (try simp only [brK_e, gdK_e, skK_e, gdA_e, skA_e, pkK_e]); simp (maxSteps := 10000000) (disch := omega) only [egv, hw, ld_ev1, eb, go_sem, ↓reduceIte, Nat.reduceEqDiff, Nat.reduceSub, Nat.reduceLeDiff, Nat.reduceAdd, Int.reduceEq, Int.reduceLT, Int.reduceLE]
  have r5' : (e.dep k : Int) + 1 = (e.seq : Int) := by omega
  (try simp only [brK_e, gdK_e, skK_e, gdA_e, skA_e, pkK_e]); simp (maxSteps := 10000000) (disch := omega) only [ir41, ld_ev0, ld_ev1, ld_evDep, load_vE8, hk, r3, r4, go_sem, ↓reduceIte, Nat.reduceEqDiff, Nat.reduceSub, Nat.reduceLeDiff, Nat.reduceAdd, Int.reduceEq, Int.reduceLT, Int.reduceLE]
  refine call_with (okGetR _ _) ?_
  (try simp only [brK_e, gdK_e, skK_e, gdA_e, skA_e, pkK_e]); simp (maxSteps := 10000000) (disch := omega) only [egv, r5', ld_ev1, go_sem, ↓reduceIte, Nat.reduceEqDiff, Nat.reduceSub, Nat.reduceLeDiff, Nat.reduceAdd, Int.reduceEq, Int.reduceLT, Int.reduceLE]
  refine loop_ok mixed (stChkR e) (fun k => k ≤ 8 ∧ ∀ i, i < k → e.dep i ≤ 1048576) (fun k => 8 - k) 0 (by simp) (weak_mk ?_ ?_) fun j hj => ?_
  · (try simp only [brK_e, gdK_e, skK_e, gdA_e, skA_e, pkK_e]); simp (maxSteps := 10000000) (disch := omega) only [go_sem, ↓reduceIte, Nat.reduceEqDiff, Nat.reduceSub, Nat.reduceLeDiff, Nat.reduceAdd, Int.reduceEq, Int.reduceLT, Int.reduceLE]
  · (try simp only [brK_e, gdK_e, skK_e, gdA_e, skA_e, pkK_e]); simp (maxSteps := 10000000) (disch := omega) only [go_sem, ↓reduceIte, Nat.reduceEqDiff, Nat.reduceSub, Nat.reduceLeDiff, Nat.reduceAdd, Int.reduceEq, Int.reduceLT, Int.reduceLE]
  obtain ⟨hj1, hj2⟩ := hj
  by_cases hlt : j < 8
  · by_cases hd : 1048576 < (e.dep j : Int)
    · have eb := check_d (e := e) fun h => by have := h j hlt; omega
      (try simp only [brK_e, gdK_e, skK_e, gdA_e, skA_e, pkK_e]); simp (maxSteps := 10000000) (disch := omega) only [stChkR, ld_evDepAt, hd, eb, go_sem, ↓reduceIte, Nat.reduceEqDiff, Nat.reduceSub, Nat.reduceLeDiff, Nat.reduceAdd, Int.reduceEq, Int.reduceLT, Int.reduceLE]
    · (try simp only [brK_e, gdK_e, skK_e, gdA_e, skA_e, pkK_e]); simp (maxSteps := 10000000) (disch := omega) only [stChkR, ld_evDepAt, hd, go_sem, ↓reduceIte, Nat.reduceEqDiff, Nat.reduceSub, Nat.reduceLeDiff, Nat.reduceAdd, Int.reduceEq, Int.reduceLT, Int.reduceLE]
      refine loop_next (j + 1) _ _ rfl ⟨by omega, fun i hi => ?_⟩ (by omega) ?_ ?_
      · by_cases e : i = j
        · subst e; omega
        · exact hj2 i (by omega)
      · (try simp only [brK_e, gdK_e, skK_e, gdA_e, skA_e, pkK_e]); simp (maxSteps := 10000000) (disch := omega) only [go_sem, ↓reduceIte, Nat.reduceEqDiff, Nat.reduceSub, Nat.reduceLeDiff, Nat.reduceAdd, Int.reduceEq, Int.reduceLT, Int.reduceLE]
      · (try simp only [brK_e, gdK_e, skK_e, gdA_e, skA_e, pkK_e]); simp (maxSteps := 10000000) (disch := omega) only [go_sem, ↓reduceIte, Nat.reduceEqDiff, Nat.reduceSub, Nat.reduceLeDiff, Nat.reduceAdd, Int.reduceEq, Int.reduceLT, Int.reduceLE]
  obtain rfl : j = 8 := by omega
  have hD : DepP e := hj2
  (try simp only [brK_e, gdK_e, skK_e, gdA_e, skA_e, pkK_e]); simp (maxSteps := 10000000) (disch := omega) only [stChkR, evE_len, go_sem, ↓reduceIte, Nat.reduceEqDiff, Nat.reduceSub, Nat.reduceLeDiff, Nat.reduceAdd, Int.reduceEq, Int.reduceLT, Int.reduceLE]
  refine call_with (okHasR _ _ _) ?_
  (try simp only [brK_e, gdK_e, skK_e, gdA_e, skA_e, pkK_e]); simp (maxSteps := 10000000) (disch := omega) only [evE_len, go_sem, ↓reduceIte, Nat.reduceEqDiff, Nat.reduceSub, Nat.reduceLeDiff, Nat.reduceAdd, Int.reduceEq, Int.reduceLT, Int.reduceLE]
  refine call_with (okZeroR _ _) ?_
  by_cases hz' : zeroB e.drep e.dseq = false
  all_goals first
    | (have hpl : placeB e = hasB e.dep e.drep e.dseq := by simp only [placeB, hz', Bool.false_or]
       (try simp only [brK_e, gdK_e, skK_e, gdA_e, skA_e, pkK_e]); simp (maxSteps := 10000000) (disch := omega) only [hz', go_sem, ↓reduceIte, Nat.reduceEqDiff, Nat.reduceSub, Nat.reduceLeDiff, Nat.reduceAdd, Int.reduceEq, Int.reduceLT, Int.reduceLE]
       refine call_with (okHasR _ _ _) ?_)
    | (have hz : zeroB e.drep e.dseq = true := by simpa using hz'
       have hpl : placeB e = true := by simp only [placeB, hz, Bool.true_or]
       (try simp only [brK_e, gdK_e, skK_e, gdA_e, skA_e, pkK_e]); simp (maxSteps := 10000000) (disch := omega) only [hz, go_sem, ↓reduceIte, Nat.reduceEqDiff, Nat.reduceSub, Nat.reduceLeDiff, Nat.reduceAdd, Int.reduceEq, Int.reduceLT, Int.reduceLE])
  all_goals by_cases hgl0 : (e.gone.l.length : Int) ≤ 8
  all_goals first
    | (have hgl : idsB e.gone.l 8 e.dep = riseB e.dep e.gone.l := by simp only [idsB, hgl0, decide_true, Bool.true_and]
       (try simp only [brK_e, gdK_e, skK_e, gdA_e, skA_e, pkK_e]); simp (maxSteps := 10000000) (disch := omega) only [hgl0, go_sem, ↓reduceIte, Nat.reduceEqDiff, Nat.reduceSub, Nat.reduceLeDiff, Nat.reduceAdd, Int.reduceEq, Int.reduceLT, Int.reduceLE]
       refine call_with (okRise (l := e.gone.l) hg hgn) ?_
       (try simp only [brK_e, gdK_e, skK_e, gdA_e, skA_e, pkK_e]); simp (maxSteps := 10000000) (disch := omega) only [hgl0, go_sem, ↓reduceIte, Nat.reduceEqDiff, Nat.reduceSub, Nat.reduceLeDiff, Nat.reduceAdd, Int.reduceEq, Int.reduceLT, Int.reduceLE])
    | (have hgl : idsB e.gone.l 8 e.dep = false := by simp only [idsB, hgl0, decide_false, Bool.false_and]
       (try simp only [brK_e, gdK_e, skK_e, gdA_e, skA_e, pkK_e]); simp (maxSteps := 10000000) (disch := omega) only [hgl0, go_sem, ↓reduceIte, Nat.reduceEqDiff, Nat.reduceSub, Nat.reduceLeDiff, Nat.reduceAdd, Int.reduceEq, Int.reduceLT, Int.reduceLE])
  all_goals refine call_with (okRise (l := e.base.l) hb hbn) ?_
  all_goals by_cases ho1 : 0 ≤ e.off
  rotate_left
  all_goals by_cases ho2 : e.off ≤ 200
  all_goals try (exfalso; omega)
  all_goals first
    | (have hso : sizeB e.off = true := decide_eq_true ⟨ho1, ho2⟩
       (try simp only [brK_e, gdK_e, skK_e, gdA_e, skA_e, pkK_e]); simp (maxSteps := 10000000) (disch := omega) only [hgl0, ho1, ho2, go_sem, ↓reduceIte, Nat.reduceEqDiff, Nat.reduceSub, Nat.reduceLeDiff, Nat.reduceAdd, Int.reduceEq, Int.reduceLT, Int.reduceLE])
    | (have hso : sizeB e.off = false := decide_eq_false (by omega)
       (try simp only [brK_e, gdK_e, skK_e, gdA_e, skA_e, pkK_e]); simp (maxSteps := 10000000) (disch := omega) only [hgl0, ho1, ho2, go_sem, ↓reduceIte, Nat.reduceEqDiff, Nat.reduceSub, Nat.reduceLeDiff, Nat.reduceAdd, Int.reduceEq, Int.reduceLT, Int.reduceLE])
  all_goals
    by_cases hkr : 1 ≤ e.kind ∧ e.kind ≤ 9
    rotate_left
    · have eb := check_b (e := e) fun h => by have := h.2.2.2.2.2; omega
      have hn1 : ¬ e.kind = 1 := by omega
      have hn2 : ¬ e.kind = 2 := by omega
      have hn3 : ¬ e.kind = 3 := by omega
      have hn4 : ¬ e.kind = 4 := by omega
      have hn5 : ¬ e.kind = 5 := by omega
      have hn6 : ¬ e.kind = 6 := by omega
      have hn7 : ¬ e.kind = 7 := by omega
      have hn8 : ¬ e.kind = 8 := by omega
      have hn9 : ¬ e.kind = 9 := by omega
      (try simp only [brK_e, gdK_e, skK_e, gdA_e, skA_e, pkK_e]); simp (maxSteps := 10000000) (disch := omega) only [evE_len, hn1, hn2, hn3, hn4, hn5, hn6, hn7, hn8, hn9, eb, go_sem, ↓reduceIte, Nat.reduceEqDiff, Nat.reduceSub, Nat.reduceLeDiff, Nat.reduceAdd, Int.reduceEq, Int.reduceLT, Int.reduceLE]
    have hB : BaseP e := ⟨by omega, by omega, by omega, by omega, by rw [ekn]; omega, by omega, by omega⟩
    have hkk : e.kind = 1 ∨ e.kind = 2 ∨ e.kind = 3 ∨ e.kind = 4 ∨ e.kind = 5 ∨ e.kind = 6 ∨ e.kind = 7 ∨ e.kind = 8 ∨ e.kind = 9 := by omega
    rcases hkk with hki | hki | hki | hki | hki | hki | hki | hki | hki
    · have ez := check_1 hB hD hki
      by_cases s0' : placeB e = false
      · first
          | exact absurd (hpl.symm.trans s0') (by decide)
          | (have s0b := hpl.symm.trans s0'
             simp only [s0', decide_true, decide_false, Bool.true_and, Bool.false_and, Bool.and_true, Bool.and_false, Bool.and_self, Bool.not_true, Bool.not_false] at ez
             (try simp only [brK_e, gdK_e, skK_e, gdA_e, skA_e, pkK_e]); simp (maxSteps := 10000000) (disch := omega) only [evE_len, hki, s0b, ez, go_sem, ↓reduceIte, Nat.reduceEqDiff, Nat.reduceSub, Nat.reduceLeDiff, Nat.reduceAdd, Int.reduceEq, Int.reduceLT, Int.reduceLE])
      have s0 : placeB e = true := by simpa using s0'
      have s0b := hpl.symm.trans s0
      first
        | exact absurd s0b (by decide)
        | ((try simp only [brK_e, gdK_e, skK_e, gdA_e, skA_e, pkK_e]); simp (maxSteps := 10000000) (disch := omega) only [evE_len, hki, s0b, go_sem, ↓reduceIte, Nat.reduceEqDiff, Nat.reduceSub, Nat.reduceLeDiff, Nat.reduceAdd, Int.reduceEq, Int.reduceLT, Int.reduceLE]
           refine call_with (okNameR _) ?_
           by_cases s1' : nameB e.name = false
           · simp only [s0, s1', decide_true, decide_false, Bool.true_and, Bool.false_and, Bool.and_true, Bool.and_false, Bool.and_self, Bool.not_true, Bool.not_false] at ez
             (try simp only [brK_e, gdK_e, skK_e, gdA_e, skA_e, pkK_e]); simp (maxSteps := 10000000) (disch := omega) only [evE_len, s0b, s1', ez, go_sem, ↓reduceIte, Nat.reduceEqDiff, Nat.reduceSub, Nat.reduceLeDiff, Nat.reduceAdd, Int.reduceEq, Int.reduceLT, Int.reduceLE]
           have s1 : nameB e.name = true := by simpa using s1'
           (try simp only [brK_e, gdK_e, skK_e, gdA_e, skA_e, pkK_e]); simp (maxSteps := 10000000) (disch := omega) only [evE_len, s0b, s1, go_sem, ↓reduceIte, Nat.reduceEqDiff, Nat.reduceSub, Nat.reduceLeDiff, Nat.reduceAdd, Int.reduceEq, Int.reduceLT, Int.reduceLE]
           refine call_with (okMadeD e) ?_
           simp only [s0, s1, decide_true, decide_false, Bool.true_and, Bool.false_and, Bool.and_true, Bool.and_false, Bool.and_self, Bool.not_true, Bool.not_false] at ez
           (try simp only [brK_e, gdK_e, skK_e, gdA_e, skA_e, pkK_e]); simp (maxSteps := 10000000) (disch := omega) only [s0b, s1, ez, go_sem, ↓reduceIte, Nat.reduceEqDiff, Nat.reduceSub, Nat.reduceLeDiff, Nat.reduceAdd, Int.reduceEq, Int.reduceLT, Int.reduceLE])
    · have ez := check_2 hB hD hki
      by_cases s0' : placeB e = false
      · first
          | exact absurd (hpl.symm.trans s0') (by decide)
          | (have s0b := hpl.symm.trans s0'
             simp only [s0', decide_true, decide_false, Bool.true_and, Bool.false_and, Bool.and_true, Bool.and_false, Bool.and_self, Bool.not_true, Bool.not_false] at ez
             (try simp only [brK_e, gdK_e, skK_e, gdA_e, skA_e, pkK_e]); simp (maxSteps := 10000000) (disch := omega) only [evE_len, hki, s0b, ez, go_sem, ↓reduceIte, Nat.reduceEqDiff, Nat.reduceSub, Nat.reduceLeDiff, Nat.reduceAdd, Int.reduceEq, Int.reduceLT, Int.reduceLE])
      have s0 : placeB e = true := by simpa using s0'
      have s0b := hpl.symm.trans s0
      first
        | exact absurd s0b (by decide)
        | ((try simp only [brK_e, gdK_e, skK_e, gdA_e, skA_e, pkK_e]); simp (maxSteps := 10000000) (disch := omega) only [evE_len, hki, s0b, go_sem, ↓reduceIte, Nat.reduceEqDiff, Nat.reduceSub, Nat.reduceLeDiff, Nat.reduceAdd, Int.reduceEq, Int.reduceLT, Int.reduceLE]
           refine call_with (okNameR _) ?_
           by_cases s1' : nameB e.name = false
           · simp only [s0, s1', decide_true, decide_false, Bool.true_and, Bool.false_and, Bool.and_true, Bool.and_false, Bool.and_self, Bool.not_true, Bool.not_false] at ez
             (try simp only [brK_e, gdK_e, skK_e, gdA_e, skA_e, pkK_e]); simp (maxSteps := 10000000) (disch := omega) only [evE_len, s0b, s1', ez, go_sem, ↓reduceIte, Nat.reduceEqDiff, Nat.reduceSub, Nat.reduceLeDiff, Nat.reduceAdd, Int.reduceEq, Int.reduceLT, Int.reduceLE]
           have s1 : nameB e.name = true := by simpa using s1'
           (try simp only [brK_e, gdK_e, skK_e, gdA_e, skA_e, pkK_e]); simp (maxSteps := 10000000) (disch := omega) only [evE_len, s0b, s1, go_sem, ↓reduceIte, Nat.reduceEqDiff, Nat.reduceSub, Nat.reduceLeDiff, Nat.reduceAdd, Int.reduceEq, Int.reduceLT, Int.reduceLE]
           refine call_with (okMadeD e) ?_
           simp only [s0, s1, decide_true, decide_false, Bool.true_and, Bool.false_and, Bool.and_true, Bool.and_false, Bool.and_self, Bool.not_true, Bool.not_false] at ez
           (try simp only [brK_e, gdK_e, skK_e, gdA_e, skA_e, pkK_e]); simp (maxSteps := 10000000) (disch := omega) only [s0b, s1, ez, go_sem, ↓reduceIte, Nat.reduceEqDiff, Nat.reduceSub, Nat.reduceLeDiff, Nat.reduceAdd, Int.reduceEq, Int.reduceLT, Int.reduceLE])
    · have ez := check_3 hB hD hki
      by_cases s0' : hasB e.dep e.orep e.oseq = false
      · simp only [s0', decide_true, decide_false, Bool.true_and, Bool.false_and, Bool.and_true, Bool.and_false, Bool.and_self, Bool.not_true, Bool.not_false] at ez
        (try simp only [brK_e, gdK_e, skK_e, gdA_e, skA_e, pkK_e]); simp (maxSteps := 10000000) (disch := omega) only [evE_len, hki, s0', ez, go_sem, ↓reduceIte, Nat.reduceEqDiff, Nat.reduceSub, Nat.reduceLeDiff, Nat.reduceAdd, Int.reduceEq, Int.reduceLT, Int.reduceLE]
      have s0 : hasB e.dep e.orep e.oseq = true := by simpa using s0'
      by_cases s1' : riseB e.dep e.base.l = false
      · simp only [s0, s1', decide_true, decide_false, Bool.true_and, Bool.false_and, Bool.and_true, Bool.and_false, Bool.and_self, Bool.not_true, Bool.not_false] at ez
        (try simp only [brK_e, gdK_e, skK_e, gdA_e, skA_e, pkK_e]); simp (maxSteps := 10000000) (disch := omega) only [evE_len, hki, s0, s1', ez, go_sem, ↓reduceIte, Nat.reduceEqDiff, Nat.reduceSub, Nat.reduceLeDiff, Nat.reduceAdd, Int.reduceEq, Int.reduceLT, Int.reduceLE]
      have s1 : riseB e.dep e.base.l = true := by simpa using s1'
      by_cases s2 : (e.base.l.length : Int) ≤ 1
      rotate_left
      · simp only [s0, s1, s2, decide_true, decide_false, Bool.true_and, Bool.false_and, Bool.and_true, Bool.and_false, Bool.and_self, Bool.not_true, Bool.not_false] at ez
        (try simp only [brK_e, gdK_e, skK_e, gdA_e, skA_e, pkK_e]); simp (maxSteps := 10000000) (disch := omega) only [evE_len, hki, s0, s1, s2, ez, go_sem, ↓reduceIte, Nat.reduceEqDiff, Nat.reduceSub, Nat.reduceLeDiff, Nat.reduceAdd, Int.reduceEq, Int.reduceLT, Int.reduceLE]
      by_cases s3' : sizeB e.off = false
      · first
          | exact absurd (hso.symm.trans s3') (by decide)
          | (have s3b := hso.symm.trans s3'
             simp only [s0, s1, s2, s3', decide_true, decide_false, Bool.true_and, Bool.false_and, Bool.and_true, Bool.and_false, Bool.and_self, Bool.not_true, Bool.not_false] at ez
             (try simp only [brK_e, gdK_e, skK_e, gdA_e, skA_e, pkK_e]); simp (maxSteps := 10000000) (disch := omega) only [evE_len, hki, s0, s1, s2, s3b, ez, go_sem, ↓reduceIte, Nat.reduceEqDiff, Nat.reduceSub, Nat.reduceLeDiff, Nat.reduceAdd, Int.reduceEq, Int.reduceLT, Int.reduceLE])
      have s3 : sizeB e.off = true := by simpa using s3'
      have s3b := hso.symm.trans s3
      first
        | exact absurd s3b (by decide)
        | (by_cases s4 : e.data = []
           · simp only [s0, s1, s2, s3, s4, decide_true, decide_false, Bool.true_and, Bool.false_and, Bool.and_true, Bool.and_false, Bool.and_self, Bool.not_true, Bool.not_false] at ez
             (try simp only [brK_e, gdK_e, skK_e, gdA_e, skA_e, pkK_e]); simp (maxSteps := 10000000) (disch := omega) only [evE_len, hki, s0, s1, s2, s4, ez, go_sem, ↓reduceIte, Nat.reduceEqDiff, Nat.reduceSub, Nat.reduceLeDiff, Nat.reduceAdd, Int.reduceEq, Int.reduceLT, Int.reduceLE]
           by_cases s5 : (e.data.length : Int) ≤ 200 - e.off
           rotate_left
           · simp only [s0, s1, s2, s3, s4, s5, decide_true, decide_false, Bool.true_and, Bool.false_and, Bool.and_true, Bool.and_false, Bool.and_self, Bool.not_true, Bool.not_false] at ez
             (try simp only [brK_e, gdK_e, skK_e, gdA_e, skA_e, pkK_e]); simp (maxSteps := 10000000) (disch := omega) only [evE_len, hki, s0, s1, s2, s4, s5, ez, go_sem, ↓reduceIte, Nat.reduceEqDiff, Nat.reduceSub, Nat.reduceLeDiff, Nat.reduceAdd, Int.reduceEq, Int.reduceLT, Int.reduceLE]
           (try simp only [brK_e, gdK_e, skK_e, gdA_e, skA_e, pkK_e]); simp (maxSteps := 10000000) (disch := omega) only [evE_len, hki, s0, s1, s2, s4, s5, go_sem, ↓reduceIte, Nat.reduceEqDiff, Nat.reduceSub, Nat.reduceLeDiff, Nat.reduceAdd, Int.reduceEq, Int.reduceLT, Int.reduceLE]
           refine call_with (okMadeOBFD e) ?_
           simp only [s0, s1, s2, s3, s4, s5, decide_true, decide_false, Bool.true_and, Bool.false_and, Bool.and_true, Bool.and_false, Bool.and_self, Bool.not_true, Bool.not_false] at ez
           (try simp only [brK_e, gdK_e, skK_e, gdA_e, skA_e, pkK_e]); simp (maxSteps := 10000000) (disch := omega) only [s0, s1, s2, s4, s5, ez, go_sem, ↓reduceIte, Nat.reduceEqDiff, Nat.reduceSub, Nat.reduceLeDiff, Nat.reduceAdd, Int.reduceEq, Int.reduceLT, Int.reduceLE])
    · have ez := check_4 hB hD hki
      by_cases s0' : hasB e.dep e.orep e.oseq = false
      · simp only [s0', decide_true, decide_false, Bool.true_and, Bool.false_and, Bool.and_true, Bool.and_false, Bool.and_self, Bool.not_true, Bool.not_false] at ez
        (try simp only [brK_e, gdK_e, skK_e, gdA_e, skA_e, pkK_e]); simp (maxSteps := 10000000) (disch := omega) only [evE_len, hki, s0', ez, go_sem, ↓reduceIte, Nat.reduceEqDiff, Nat.reduceSub, Nat.reduceLeDiff, Nat.reduceAdd, Int.reduceEq, Int.reduceLT, Int.reduceLE]
      have s0 : hasB e.dep e.orep e.oseq = true := by simpa using s0'
      by_cases s1' : riseB e.dep e.base.l = false
      · simp only [s0, s1', decide_true, decide_false, Bool.true_and, Bool.false_and, Bool.and_true, Bool.and_false, Bool.and_self, Bool.not_true, Bool.not_false] at ez
        (try simp only [brK_e, gdK_e, skK_e, gdA_e, skA_e, pkK_e]); simp (maxSteps := 10000000) (disch := omega) only [evE_len, hki, s0, s1', ez, go_sem, ↓reduceIte, Nat.reduceEqDiff, Nat.reduceSub, Nat.reduceLeDiff, Nat.reduceAdd, Int.reduceEq, Int.reduceLT, Int.reduceLE]
      have s1 : riseB e.dep e.base.l = true := by simpa using s1'
      by_cases s2 : (e.base.l.length : Int) ≤ 1
      rotate_left
      · simp only [s0, s1, s2, decide_true, decide_false, Bool.true_and, Bool.false_and, Bool.and_true, Bool.and_false, Bool.and_self, Bool.not_true, Bool.not_false] at ez
        (try simp only [brK_e, gdK_e, skK_e, gdA_e, skA_e, pkK_e]); simp (maxSteps := 10000000) (disch := omega) only [evE_len, hki, s0, s1, s2, ez, go_sem, ↓reduceIte, Nat.reduceEqDiff, Nat.reduceSub, Nat.reduceLeDiff, Nat.reduceAdd, Int.reduceEq, Int.reduceLT, Int.reduceLE]
      by_cases s3' : sizeB e.off = false
      · first
          | exact absurd (hso.symm.trans s3') (by decide)
          | (have s3b := hso.symm.trans s3'
             simp only [s0, s1, s2, s3', decide_true, decide_false, Bool.true_and, Bool.false_and, Bool.and_true, Bool.and_false, Bool.and_self, Bool.not_true, Bool.not_false] at ez
             (try simp only [brK_e, gdK_e, skK_e, gdA_e, skA_e, pkK_e]); simp (maxSteps := 10000000) (disch := omega) only [evE_len, hki, s0, s1, s2, s3b, ez, go_sem, ↓reduceIte, Nat.reduceEqDiff, Nat.reduceSub, Nat.reduceLeDiff, Nat.reduceAdd, Int.reduceEq, Int.reduceLT, Int.reduceLE])
      have s3 : sizeB e.off = true := by simpa using s3'
      have s3b := hso.symm.trans s3
      first
        | exact absurd s3b (by decide)
        | ((try simp only [brK_e, gdK_e, skK_e, gdA_e, skA_e, pkK_e]); simp (maxSteps := 10000000) (disch := omega) only [evE_len, hki, s0, s1, s2, go_sem, ↓reduceIte, Nat.reduceEqDiff, Nat.reduceSub, Nat.reduceLeDiff, Nat.reduceAdd, Int.reduceEq, Int.reduceLT, Int.reduceLE]
           refine call_with (okMadeOBF e) ?_
           simp only [s0, s1, s2, s3, decide_true, decide_false, Bool.true_and, Bool.false_and, Bool.and_true, Bool.and_false, Bool.and_self, Bool.not_true, Bool.not_false] at ez
           (try simp only [brK_e, gdK_e, skK_e, gdA_e, skA_e, pkK_e]); simp (maxSteps := 10000000) (disch := omega) only [s0, s1, s2, ez, go_sem, ↓reduceIte, Nat.reduceEqDiff, Nat.reduceSub, Nat.reduceLeDiff, Nat.reduceAdd, Int.reduceEq, Int.reduceLT, Int.reduceLE])
    · have ez := check_5 hB hD hki
      by_cases s0' : hasB e.dep e.orep e.oseq = false
      · simp only [s0', decide_true, decide_false, Bool.true_and, Bool.false_and, Bool.and_true, Bool.and_false, Bool.and_self, Bool.not_true, Bool.not_false] at ez
        (try simp only [brK_e, gdK_e, skK_e, gdA_e, skA_e, pkK_e]); simp (maxSteps := 10000000) (disch := omega) only [evE_len, hki, s0', ez, go_sem, ↓reduceIte, Nat.reduceEqDiff, Nat.reduceSub, Nat.reduceLeDiff, Nat.reduceAdd, Int.reduceEq, Int.reduceLT, Int.reduceLE]
      have s0 : hasB e.dep e.orep e.oseq = true := by simpa using s0'
      by_cases s1' : riseB e.dep e.base.l = false
      · simp only [s0, s1', decide_true, decide_false, Bool.true_and, Bool.false_and, Bool.and_true, Bool.and_false, Bool.and_self, Bool.not_true, Bool.not_false] at ez
        (try simp only [brK_e, gdK_e, skK_e, gdA_e, skA_e, pkK_e]); simp (maxSteps := 10000000) (disch := omega) only [evE_len, hki, s0, s1', ez, go_sem, ↓reduceIte, Nat.reduceEqDiff, Nat.reduceSub, Nat.reduceLeDiff, Nat.reduceAdd, Int.reduceEq, Int.reduceLT, Int.reduceLE]
      have s1 : riseB e.dep e.base.l = true := by simpa using s1'
      by_cases s2 : (2 : Int) ≤ (e.base.l.length : Int)
      rotate_left
      · simp only [s0, s1, s2, decide_true, decide_false, Bool.true_and, Bool.false_and, Bool.and_true, Bool.and_false, Bool.and_self, Bool.not_true, Bool.not_false] at ez
        (try simp only [brK_e, gdK_e, skK_e, gdA_e, skA_e, pkK_e]); simp (maxSteps := 10000000) (disch := omega) only [evE_len, hki, s0, s1, s2, ez, go_sem, ↓reduceIte, Nat.reduceEqDiff, Nat.reduceSub, Nat.reduceLeDiff, Nat.reduceAdd, Int.reduceEq, Int.reduceLT, Int.reduceLE]
      by_cases s3 : (e.base.l.length : Int) ≤ 8
      rotate_left
      · simp only [s0, s1, s2, s3, decide_true, decide_false, Bool.true_and, Bool.false_and, Bool.and_true, Bool.and_false, Bool.and_self, Bool.not_true, Bool.not_false] at ez
        (try simp only [brK_e, gdK_e, skK_e, gdA_e, skA_e, pkK_e]); simp (maxSteps := 10000000) (disch := omega) only [evE_len, hki, s0, s1, s2, s3, ez, go_sem, ↓reduceIte, Nat.reduceEqDiff, Nat.reduceSub, Nat.reduceLeDiff, Nat.reduceAdd, Int.reduceEq, Int.reduceLT, Int.reduceLE]
      by_cases s4 : (e.data.length : Int) ≤ 200
      rotate_left
      · simp only [s0, s1, s2, s3, s4, decide_true, decide_false, Bool.true_and, Bool.false_and, Bool.and_true, Bool.and_false, Bool.and_self, Bool.not_true, Bool.not_false] at ez
        (try simp only [brK_e, gdK_e, skK_e, gdA_e, skA_e, pkK_e]); simp (maxSteps := 10000000) (disch := omega) only [evE_len, hki, s0, s1, s2, s3, s4, ez, go_sem, ↓reduceIte, Nat.reduceEqDiff, Nat.reduceSub, Nat.reduceLeDiff, Nat.reduceAdd, Int.reduceEq, Int.reduceLT, Int.reduceLE]
      (try simp only [brK_e, gdK_e, skK_e, gdA_e, skA_e, pkK_e]); simp (maxSteps := 10000000) (disch := omega) only [evE_len, hki, s0, s1, s2, s3, s4, go_sem, ↓reduceIte, Nat.reduceEqDiff, Nat.reduceSub, Nat.reduceLeDiff, Nat.reduceAdd, Int.reduceEq, Int.reduceLT, Int.reduceLE]
      refine call_with (okMadeOBD e) ?_
      simp only [s0, s1, s2, s3, s4, decide_true, decide_false, Bool.true_and, Bool.false_and, Bool.and_true, Bool.and_false, Bool.and_self, Bool.not_true, Bool.not_false] at ez
      (try simp only [brK_e, gdK_e, skK_e, gdA_e, skA_e, pkK_e]); simp (maxSteps := 10000000) (disch := omega) only [s0, s1, s2, s3, s4, ez, go_sem, ↓reduceIte, Nat.reduceEqDiff, Nat.reduceSub, Nat.reduceLeDiff, Nat.reduceAdd, Int.reduceEq, Int.reduceLT, Int.reduceLE]
    · have ez := check_6 hB hD hki
      by_cases s0' : hasB e.dep e.orep e.oseq = false
      · simp only [s0', decide_true, decide_false, Bool.true_and, Bool.false_and, Bool.and_true, Bool.and_false, Bool.and_self, Bool.not_true, Bool.not_false] at ez
        (try simp only [brK_e, gdK_e, skK_e, gdA_e, skA_e, pkK_e]); simp (maxSteps := 10000000) (disch := omega) only [evE_len, hki, s0', ez, go_sem, ↓reduceIte, Nat.reduceEqDiff, Nat.reduceSub, Nat.reduceLeDiff, Nat.reduceAdd, Int.reduceEq, Int.reduceLT, Int.reduceLE]
      have s0 : hasB e.dep e.orep e.oseq = true := by simpa using s0'
      by_cases s1' : idsB e.gone.l 8 e.dep = false
      · first
          | exact absurd (hgl.symm.trans s1') (by decide)
          | (have s1b := hgl.symm.trans s1'
             simp only [s0, s1', decide_true, decide_false, Bool.true_and, Bool.false_and, Bool.and_true, Bool.and_false, Bool.and_self, Bool.not_true, Bool.not_false] at ez
             (try simp only [brK_e, gdK_e, skK_e, gdA_e, skA_e, pkK_e]); simp (maxSteps := 10000000) (disch := omega) only [evE_len, hki, s0, s1b, ez, go_sem, ↓reduceIte, Nat.reduceEqDiff, Nat.reduceSub, Nat.reduceLeDiff, Nat.reduceAdd, Int.reduceEq, Int.reduceLT, Int.reduceLE])
      have s1 : idsB e.gone.l 8 e.dep = true := by simpa using s1'
      have s1b := hgl.symm.trans s1
      first
        | exact absurd s1b (by decide)
        | ((try simp only [brK_e, gdK_e, skK_e, gdA_e, skA_e, pkK_e]); simp (maxSteps := 10000000) (disch := omega) only [evE_len, hki, s0, s1b, go_sem, ↓reduceIte, Nat.reduceEqDiff, Nat.reduceSub, Nat.reduceLeDiff, Nat.reduceAdd, Int.reduceEq, Int.reduceLT, Int.reduceLE]
           refine call_with (okMadeOG e) ?_
           simp only [s0, s1, decide_true, decide_false, Bool.true_and, Bool.false_and, Bool.and_true, Bool.and_false, Bool.and_self, Bool.not_true, Bool.not_false] at ez
           (try simp only [brK_e, gdK_e, skK_e, gdA_e, skA_e, pkK_e]); simp (maxSteps := 10000000) (disch := omega) only [s0, s1b, ez, go_sem, ↓reduceIte, Nat.reduceEqDiff, Nat.reduceSub, Nat.reduceLeDiff, Nat.reduceAdd, Int.reduceEq, Int.reduceLT, Int.reduceLE])
    · have ez := check_7 hB hD hki
      by_cases s0' : hasB e.dep e.orep e.oseq = false
      · simp only [s0', decide_true, decide_false, Bool.true_and, Bool.false_and, Bool.and_true, Bool.and_false, Bool.and_self, Bool.not_true, Bool.not_false] at ez
        (try simp only [brK_e, gdK_e, skK_e, gdA_e, skA_e, pkK_e]); simp (maxSteps := 10000000) (disch := omega) only [evE_len, hki, s0', ez, go_sem, ↓reduceIte, Nat.reduceEqDiff, Nat.reduceSub, Nat.reduceLeDiff, Nat.reduceAdd, Int.reduceEq, Int.reduceLT, Int.reduceLE]
      have s0 : hasB e.dep e.orep e.oseq = true := by simpa using s0'
      by_cases s1' : idsB e.gone.l 8 e.dep = false
      · first
          | exact absurd (hgl.symm.trans s1') (by decide)
          | (have s1b := hgl.symm.trans s1'
             simp only [s0, s1', decide_true, decide_false, Bool.true_and, Bool.false_and, Bool.and_true, Bool.and_false, Bool.and_self, Bool.not_true, Bool.not_false] at ez
             (try simp only [brK_e, gdK_e, skK_e, gdA_e, skA_e, pkK_e]); simp (maxSteps := 10000000) (disch := omega) only [evE_len, hki, s0, s1b, ez, go_sem, ↓reduceIte, Nat.reduceEqDiff, Nat.reduceSub, Nat.reduceLeDiff, Nat.reduceAdd, Int.reduceEq, Int.reduceLT, Int.reduceLE])
      have s1 : idsB e.gone.l 8 e.dep = true := by simpa using s1'
      have s1b := hgl.symm.trans s1
      first
        | exact absurd s1b (by decide)
        | (by_cases s2' : placeB e = false
           · first
               | exact absurd (hpl.symm.trans s2') (by decide)
               | (have s2b := hpl.symm.trans s2'
                  simp only [s0, s1, s2', decide_true, decide_false, Bool.true_and, Bool.false_and, Bool.and_true, Bool.and_false, Bool.and_self, Bool.not_true, Bool.not_false] at ez
                  (try simp only [brK_e, gdK_e, skK_e, gdA_e, skA_e, pkK_e]); simp (maxSteps := 10000000) (disch := omega) only [evE_len, hki, s0, s1b, s2b, ez, go_sem, ↓reduceIte, Nat.reduceEqDiff, Nat.reduceSub, Nat.reduceLeDiff, Nat.reduceAdd, Int.reduceEq, Int.reduceLT, Int.reduceLE])
           have s2 : placeB e = true := by simpa using s2'
           have s2b := hpl.symm.trans s2
           first
             | exact absurd s2b (by decide)
             | ((try simp only [brK_e, gdK_e, skK_e, gdA_e, skA_e, pkK_e]); simp (maxSteps := 10000000) (disch := omega) only [evE_len, hki, s0, s1b, s2b, go_sem, ↓reduceIte, Nat.reduceEqDiff, Nat.reduceSub, Nat.reduceLeDiff, Nat.reduceAdd, Int.reduceEq, Int.reduceLT, Int.reduceLE]
                refine call_with (okNameR _) ?_
                by_cases s3' : nameB e.name = false
                · simp only [s0, s1, s2, s3', decide_true, decide_false, Bool.true_and, Bool.false_and, Bool.and_true, Bool.and_false, Bool.and_self, Bool.not_true, Bool.not_false] at ez
                  (try simp only [brK_e, gdK_e, skK_e, gdA_e, skA_e, pkK_e]); simp (maxSteps := 10000000) (disch := omega) only [evE_len, s0, s1b, s2b, s3', ez, go_sem, ↓reduceIte, Nat.reduceEqDiff, Nat.reduceSub, Nat.reduceLeDiff, Nat.reduceAdd, Int.reduceEq, Int.reduceLT, Int.reduceLE]
                have s3 : nameB e.name = true := by simpa using s3'
                (try simp only [brK_e, gdK_e, skK_e, gdA_e, skA_e, pkK_e]); simp (maxSteps := 10000000) (disch := omega) only [evE_len, s0, s1b, s2b, s3, go_sem, ↓reduceIte, Nat.reduceEqDiff, Nat.reduceSub, Nat.reduceLeDiff, Nat.reduceAdd, Int.reduceEq, Int.reduceLT, Int.reduceLE]
                refine call_with (okMadeODG e) ?_
                simp only [s0, s1, s2, s3, decide_true, decide_false, Bool.true_and, Bool.false_and, Bool.and_true, Bool.and_false, Bool.and_self, Bool.not_true, Bool.not_false] at ez
                (try simp only [brK_e, gdK_e, skK_e, gdA_e, skA_e, pkK_e]); simp (maxSteps := 10000000) (disch := omega) only [s0, s1b, s2b, s3, ez, go_sem, ↓reduceIte, Nat.reduceEqDiff, Nat.reduceSub, Nat.reduceLeDiff, Nat.reduceAdd, Int.reduceEq, Int.reduceLT, Int.reduceLE]))
    · have ez := check_8 hB hD hki
      by_cases s0 : 1 ≤ e.ward
      rotate_left
      · simp only [s0, decide_true, decide_false, Bool.true_and, Bool.false_and, Bool.and_true, Bool.and_false, Bool.and_self, Bool.not_true, Bool.not_false] at ez
        (try simp only [brK_e, gdK_e, skK_e, gdA_e, skA_e, pkK_e]); simp (maxSteps := 10000000) (disch := omega) only [evE_len, hki, s0, ez, go_sem, ↓reduceIte, Nat.reduceEqDiff, Nat.reduceSub, Nat.reduceLeDiff, Nat.reduceAdd, Int.reduceEq, Int.reduceLT, Int.reduceLE]
      by_cases s1 : e.ward ≤ 4
      rotate_left
      · simp only [s0, s1, decide_true, decide_false, Bool.true_and, Bool.false_and, Bool.and_true, Bool.and_false, Bool.and_self, Bool.not_true, Bool.not_false] at ez
        (try simp only [brK_e, gdK_e, skK_e, gdA_e, skA_e, pkK_e]); simp (maxSteps := 10000000) (disch := omega) only [evE_len, hki, s0, s1, ez, go_sem, ↓reduceIte, Nat.reduceEqDiff, Nat.reduceSub, Nat.reduceLeDiff, Nat.reduceAdd, Int.reduceEq, Int.reduceLT, Int.reduceLE]
      (try simp only [brK_e, gdK_e, skK_e, gdA_e, skA_e, pkK_e]); simp (maxSteps := 10000000) (disch := omega) only [evE_len, hki, s0, s1, go_sem, ↓reduceIte, Nat.reduceEqDiff, Nat.reduceSub, Nat.reduceLeDiff, Nat.reduceAdd, Int.reduceEq, Int.reduceLT, Int.reduceLE]
      refine call_with (okMadeW e) ?_
      simp only [s0, s1, decide_true, decide_false, Bool.true_and, Bool.false_and, Bool.and_true, Bool.and_false, Bool.and_self, Bool.not_true, Bool.not_false] at ez
      (try simp only [brK_e, gdK_e, skK_e, gdA_e, skA_e, pkK_e]); simp (maxSteps := 10000000) (disch := omega) only [s0, s1, ez, go_sem, ↓reduceIte, Nat.reduceEqDiff, Nat.reduceSub, Nat.reduceLeDiff, Nat.reduceAdd, Int.reduceEq, Int.reduceLT, Int.reduceLE]
    · have ez := check_9 hB hD hki
      (try simp only [brK_e, gdK_e, skK_e, gdA_e, skA_e, pkK_e]); simp (maxSteps := 10000000) (disch := omega) only [evE_len, hki, go_sem, ↓reduceIte, Nat.reduceEqDiff, Nat.reduceSub, Nat.reduceLeDiff, Nat.reduceAdd, Int.reduceEq, Int.reduceLT, Int.reduceLE]
      refine call_with (okMadeN e) ?_
      simp only [decide_true, decide_false, Bool.true_and, Bool.false_and, Bool.and_true, Bool.and_false, Bool.and_self, Bool.not_true, Bool.not_false] at ez
      (try simp only [brK_e, gdK_e, skK_e, gdA_e, skA_e, pkK_e]); simp (maxSteps := 10000000) (disch := omega) only [ez, go_sem, ↓reduceIte, Nat.reduceEqDiff, Nat.reduceSub, Nat.reduceLeDiff, Nat.reduceAdd, Int.reduceEq, Int.reduceLT, Int.reduceLE]
end Go.Proofs.Ytmeecblciegkkaa.Fw
namespace Go.Proofs.Ytmeecblciegkkaa.Fw
open Go.RowKit Go.Proofs
theorem ofInt8 (a : Nat) (h : a < 256) : (BitVec.ofInt 8 (a : Int)).toNat = a := by
  rw [BitVec.ofInt_natCast, BitVec.toNat_ofNat]; exact Nat.mod_eq_of_lt (by omega)
theorem bits_xor_u8 (a b : Nat) (ha : a < 256) (hb : b < 256) : bits .xor .u8 a b = ((a ^^^ b : Nat) : Int) := by
  have h : a ^^^ b < 2 ^ 8 := Nat.xor_lt_two_pow ha hb
  show IntKind.u8.wrap ((BitVec.ofInt 8 (a : Int) ^^^ BitVec.ofInt 8 (b : Int)).toNat : Int) = _
  rw [BitVec.toNat_xor, ofInt8 a ha, ofInt8 b hb]
  exact wrap_u8 ⟨by omega, by omega⟩
theorem bytesE_set (l : List UInt8) (j : Nat) (c : UInt8) : (bytesE l).set j [.i .u8 c.toNat] = bytesE (l.set j c) := by
  simp [bytesE, List.map_set]
theorem xor_ne (a b : Nat) (h : b ≠ 0) : a ^^^ b ≠ a := by
  intro e
  apply h
  have := congrArg (a ^^^ ·) e
  simpa [← Nat.xor_assoc] using this
theorem turn_ne {l : List UInt8} {j : Nat} {c : UInt8} (hj : j < l.length) (hc : c ≠ l.getD j 0) : l.set j c ≠ l := fun e => hc (by
  have h1 : (l.set j c)[j]? = some c := List.getElem?_set_self hj
  rw [e] at h1
  rw [List.getD_eq_getElem?_getD, h1]; rfl)
theorem same_iff2 {a b : Evt} (h : sameB a b = true) : evB a = evB b := by
  simp only [sameB, Bool.and_eq_true, decide_eq_true_eq] at h
  obtain ⟨⟨r1, r2⟩, r3, r4, ⟨r5, r6⟩, ⟨r7, r8⟩, r9, r10, r11, r12, r13, r14⟩ := h
  have hs : shrinkB a.dep (fun _ => 0) = shrinkB b.dep (fun _ => 0) := shrinkB_congr r3 fun _ _ => rfl
  unfold evB fieldsE
  rw [r1, r2, hs, r4, r5, r6, r7, r8, r9, r10, r11, r12, r13, r14]
theorem ev_zero : ev zEv := ⟨.inl rfl, .inl rfl, by decide, by decide, by decide⟩
theorem okSameT (a b : Evt) (ha : ev a) (hb : ev b) {h d} : FunOk Try.prog 47 [.agg (segE a), .vec 21 (evE b)] h d (.pv (.b (sameB a b))) [] :=
  (okSameR8 a b ⟨ha.1, ha.2.1, ha.2.2.1, ha.2.2.2.1⟩ ⟨hb.1, hb.2.1, hb.2.2.1, hb.2.2.2.1⟩).imp ⟨imp_agg (seg_cells a) (evE_len a), Imp.refl _, trivial⟩ (by simp [tops, tn])
theorem okSameZ {h d} : FunOk Try.prog 47 [.agg (segE zEv), .agg (segE zEv)] h d (.pv (.b true)) [] :=
  (okSameR8 zEv zEv ⟨ev_zero.1, ev_zero.2.1, ev_zero.2.2.1, ev_zero.2.2.2.1⟩ ⟨ev_zero.1, ev_zero.2.1, ev_zero.2.2.1, ev_zero.2.2.2.1⟩).imp ⟨imp_agg (seg_cells zEv) (evE_len zEv), imp_agg (seg_cells zEv) (evE_len zEv), trivial⟩ (by simp [tops, tn])
set_option maxHeartbeats 4000000 in
theorem lawTurned (e : Evt) (at' by' : Int) (hby : 0 ≤ by' ∧ by' < 256) (hd : ∀ i, i < 8 → e.dep i < 4294967296) (h1 : e.gone.ok) (h2 : e.base.ok) (h3 : e.name.length ≤ maxLen) (h4 : e.data.length ≤ maxLen) {h d} :
    FunOk Try.prog 12 [.vec 21 (evE e), .pv (.i .i64 at'), .pv (.i .u8 by')] h d (.pv (.b true)) [] := by
  refine fun_pure mixed fn12 (by simp) rfl rfl fun F => ?_
  (try simp only [brK_e, gdK_e, skK_e, gdA_e, skA_e, pkK_e]); simp (maxSteps := 10000000) (disch := omega) only [ir12, go_sem, ↓reduceIte, Nat.reduceEqDiff, Nat.reduceSub, Nat.reduceLeDiff, Nat.reduceAdd, Int.reduceEq, Int.reduceLT, Int.reduceLE]
  refine call_with livesE ?_
  (try simp only [brK_e, gdK_e, skK_e, gdA_e, skA_e, pkK_e]); simp (maxSteps := 10000000) (disch := omega) only [go_sem, ↓reduceIte, Nat.reduceEqDiff, Nat.reduceSub, Nat.reduceLeDiff, Nat.reduceAdd, Int.reduceEq, Int.reduceLT, Int.reduceLE]
  refine call_with (okShort e h3 h4) ?_
  by_cases hs' : shortB e = false
  · (try simp only [brK_e, gdK_e, skK_e, gdA_e, skA_e, pkK_e]); simp (maxSteps := 10000000) (disch := omega) only [hs', go_sem, ↓reduceIte, Nat.reduceEqDiff, Nat.reduceSub, Nat.reduceLeDiff, Nat.reduceAdd, Int.reduceEq, Int.reduceLT, Int.reduceLE]
    refine call_with livesE ?_
    (try simp only [brK_e, gdK_e, skK_e, gdA_e, skA_e, pkK_e]); simp (maxSteps := 10000000) (disch := omega) only [go_sem, ↓reduceIte, Nat.reduceEqDiff, Nat.reduceSub, Nat.reduceLeDiff, Nat.reduceAdd, Int.reduceEq, Int.reduceLT, Int.reduceLE]
  have hs : shortB e = true := by simpa using hs'
  have he := short_ev hs h1 h2
  by_cases hb0 : by' = 0
  · (try simp only [brK_e, gdK_e, skK_e, gdA_e, skA_e, pkK_e]); simp (maxSteps := 10000000) (disch := omega) only [hs, hb0, go_sem, ↓reduceIte, Nat.reduceEqDiff, Nat.reduceSub, Nat.reduceLeDiff, Nat.reduceAdd, Int.reduceEq, Int.reduceLT, Int.reduceLE]
    refine call_with livesE ?_
    (try simp only [brK_e, gdK_e, skK_e, gdA_e, skA_e, pkK_e]); simp (maxSteps := 10000000) (disch := omega) only [go_sem, ↓reduceIte, Nat.reduceEqDiff, Nat.reduceSub, Nat.reduceLeDiff, Nat.reduceAdd, Int.reduceEq, Int.reduceLT, Int.reduceLE]
  (try simp only [brK_e, gdK_e, skK_e, gdA_e, skA_e, pkK_e]); simp (maxSteps := 10000000) (disch := omega) only [hs, hb0, go_sem, ↓reduceIte, Nat.reduceEqDiff, Nat.reduceSub, Nat.reduceLeDiff, Nat.reduceAdd, Int.reduceEq, Int.reduceLT, Int.reduceLE]
  refine call_with (okCheckR e he hd) ?_
  by_cases hc' : checkB e = false
  · (try simp only [brK_e, gdK_e, skK_e, gdA_e, skA_e, pkK_e]); simp (maxSteps := 10000000) (disch := omega) only [hc', go_sem, ↓reduceIte, Nat.reduceEqDiff, Nat.reduceSub, Nat.reduceLeDiff, Nat.reduceAdd, Int.reduceEq, Int.reduceLT, Int.reduceLE]
    refine call_with livesE ?_
    (try simp only [brK_e, gdK_e, skK_e, gdA_e, skA_e, pkK_e]); simp (maxSteps := 10000000) (disch := omega) only [go_sem, ↓reduceIte, Nat.reduceEqDiff, Nat.reduceSub, Nat.reduceLeDiff, Nat.reduceAdd, Int.reduceEq, Int.reduceLT, Int.reduceLE]
  have hc : checkB e = true := by simpa using hc'
  have g := good_of_check hc
  have hpk := fields_pack g
  have hbl := packB_len (fieldsE e)
  have hbe : (evB e).length ≤ 3636 := by unfold evB; omega
  have hpos : 0 < (evB e).length := by
    have : evB e = fieldB (numB e.rep.toNat) ++ packB (fieldsE e).tail := rfl
    rw [this, List.length_append]
    have := List.length_pos_iff.2 (fieldB_ne (numB e.rep.toNat))
    omega
  (try simp only [brK_e, gdK_e, skK_e, gdA_e, skA_e, pkK_e]); simp (maxSteps := 10000000) (disch := omega) only [hc, go_sem, ↓reduceIte, Nat.reduceEqDiff, Nat.reduceSub, Nat.reduceLeDiff, Nat.reduceAdd, Int.reduceEq, Int.reduceLT, Int.reduceLE]
  refine call_with (okWrite e he hc) ?_
  have hn0 : ¬ ((evB e).length : Int) = 0 := by omega
  obtain ⟨j, hj, ej⟩ := u64_idx at' (n := (evB e).length) hpos (by omega)
  have hw : IntKind.u64.wrap ((evB e).length : Int) = ((evB e).length : Int) := wrap_u64 (by omega)
  rw [hw] at ej
  obtain ⟨c, rfl⟩ : ∃ c : Nat, by' = c := ⟨by'.toNat, by omega⟩
  have hat := byte_at (a := evB e) (k := j) hj
  have hx1 := ((evB e).getD j 0).toNat_lt
  have hx := bits_xor_u8 ((evB e).getD j 0).toNat c (by omega) (by omega)
  have hlt : ((evB e).getD j 0).toNat ^^^ c < 256 := Nat.xor_lt_two_pow (n := 8) (by omega) (by omega)
  have h8 : (UInt8.ofNat (((evB e).getD j 0).toNat ^^^ c)).toNat = ((evB e).getD j 0).toNat ^^^ c := by
    rw [UInt8.toNat_ofNat']; exact Nat.mod_eq_of_lt (by omega)
  have hne : evB e ≠ (evB e).set j (UInt8.ofNat (((evB e).getD j 0).toNat ^^^ c)) := fun h => turn_ne hj (fun e' => by
    have := congrArg UInt8.toNat e'
    rw [h8] at this
    exact xor_ne _ c (by omega) this) h.symm
  have hgd : (bytesE (evB e)).getD j [] = [.i .u8 ((evB e).getD j 0).toNat] := by rw [List.getD_eq_getElem?_getD, hat]; rfl
  have hset : (bytesE (evB e)).set j [.i .u8 ((((evB e).getD j 0).toNat ^^^ c : Nat) : Int)] = bytesE ((evB e).set j (UInt8.ofNat (((evB e).getD j 0).toNat ^^^ c))) := by
    rw [← bytesE_set, h8]
  have hlen2 : ((evB e).set j (UInt8.ofNat (((evB e).getD j 0).toNat ^^^ c))).length = (evB e).length := by simp
  generalize hB : (evB e).set j (UInt8.ofNat (((evB e).getD j 0).toNat ^^^ c)) = B at *
  generalize (evB e).getD j 0 = b0 at *
  have hj2 : (j : Int) < ((evB e).length : Int) := by omega
  (try simp only [brK_e, gdK_e, skK_e, gdA_e, skA_e, pkK_e]); simp (maxSteps := 10000000) (disch := omega) only [hn0, bytesE_length, hw, ej, hat, load_c0, hx, hgd, splice_c0, hset, go_sem, ↓reduceIte, Nat.reduceEqDiff, Nat.reduceSub, Nat.reduceLeDiff, Nat.reduceAdd, Int.reduceEq, Int.reduceLT, Int.reduceLE]
  rcases okRead_gen (b := B) (by omega) (h := fun _ => none) (d := 54) with ⟨x, hxv, hxc, hxb, hf⟩ | ⟨q, hq, hf⟩
  · have hxe : sameB x e = false := by
      cases hs2 : sameB x e with
      | false => rfl
      | true => exact absurd ((same_iff2 hs2).symm.trans hxb) hne
    refine call_with (FunOk.frz (n := 29) (sz := 1) (es := bytesE B) rfl (by simp [tops, tn]) rfl hf) ?_
    (try simp only [brK_e, gdK_e, skK_e, gdA_e, skA_e, pkK_e]); simp (maxSteps := 10000000) (disch := omega) only [segE, go_sem, ↓reduceIte, Nat.reduceEqDiff, Nat.reduceSub, Nat.reduceLeDiff, Nat.reduceAdd, Int.reduceEq, Int.reduceLT, Int.reduceLE]
    refine call_with (okSameT x e hxv he) ?_
    (try simp only [brK_e, gdK_e, skK_e, gdA_e, skA_e, pkK_e]); simp (maxSteps := 10000000) (disch := omega) only [hxe, go_sem, ↓reduceIte, Nat.reduceEqDiff, Nat.reduceSub, Nat.reduceLeDiff, Nat.reduceAdd, Int.reduceEq, Int.reduceLT, Int.reduceLE]
    refine call_with (okCheckA x hxv) ?_
    (try simp only [brK_e, gdK_e, skK_e, gdA_e, skA_e, pkK_e]); simp (maxSteps := 10000000) (disch := omega) only [hxc, go_sem, ↓reduceIte, Nat.reduceEqDiff, Nat.reduceSub, Nat.reduceLeDiff, Nat.reduceAdd, Int.reduceEq, Int.reduceLT, Int.reduceLE]
  · refine call_with (FunOk.frz (n := 29) (sz := 1) (es := bytesE B) rfl (by simp [tops, tn]) rfl hf) ?_
    (try simp only [brK_e, gdK_e, skK_e, gdA_e, skA_e, pkK_e]); simp (maxSteps := 10000000) (disch := omega) only [segE, hq, go_sem, ↓reduceIte, Nat.reduceEqDiff, Nat.reduceSub, Nat.reduceLeDiff, Nat.reduceAdd, Int.reduceEq, Int.reduceLT, Int.reduceLE]
    refine call_with okSameZ ?_
    (try simp only [brK_e, gdK_e, skK_e, gdA_e, skA_e, pkK_e]); simp (maxSteps := 10000000) (disch := omega) only [go_sem, ↓reduceIte, Nat.reduceEqDiff, Nat.reduceSub, Nat.reduceLeDiff, Nat.reduceAdd, Int.reduceEq, Int.reduceLT, Int.reduceLE]
theorem holdsEventTurned {c0 c1 c2 : List PV} (g0 : GC shEvt c0) (g1 : GC (.int .i64) c1) (g2 : GC (.int .u8) c2) {h d} :
    FunOk Try.prog 12 [toSV shEvt c0, toSV (.int .i64) c1, toSV (.int .u8) c2] h d (.pv (.b true)) [] := by
  obtain ⟨e, rfl, hd, h1, h2, h3, h4⟩ := GC_evt g0
  obtain ⟨o, rfl, ho⟩ := GC_i64 g1
  simp only [GC] at g2
  obtain ⟨y, rfl, hy⟩ := g2
  have hy' : 0 ≤ y ∧ y < 256 := u8_wf hy
  refine (lawTurned e o y hy' hd h1 h2 h3 h4).imp ⟨imp_agg (by rfl) (evE_len e), Imp.refl _, Imp.refl _, trivial⟩ ?_
  intro n hn
  simp [tops, tn] at hn
end Go.Proofs.Ytmeecblciegkkaa.Fw
