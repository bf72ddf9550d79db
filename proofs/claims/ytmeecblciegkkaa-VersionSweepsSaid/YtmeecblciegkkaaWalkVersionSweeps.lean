/- What the functions that the law VersionSweeps reaches compute. -/
import Derived.Test.YtmeecblciegkkaaIr
import Derived.OpenShut
import Derived.ShutString
import Derived.ChangeOld
import Derived.SizedLaws
import Derived.ChangeOld
import Derived.Lib.Overlaps
import Derived.OpenShut
import Derived.ShutString
import Derived.SizedLaws
set_option linter.unusedVariables false
set_option linter.unusedSimpArgs false
set_option linter.unusedSectionVars false
set_option maxRecDepth 100000
namespace Go.Proofs.Ytmeecblciegkkaa.Fw
open Go.RowKit Go.Proofs
def zs (n : Nat) : List UInt8 := List.replicate n 0
theorem zs_len (n : Nat) : (zs n).length = n := by simp [zs]
theorem zs_succ (n : Nat) : zs (n + 1) = zs n ++ [0] := by simp [zs, List.replicate_succ']
theorem zs_0 : zs 0 = [] := rfl
theorem snoc0 (l : List UInt8) : bytesE l ++ [[.i .u8 0]] = bytesE (l ++ [0]) := by
  rw [← bytesE_appN]; rfl
def stZeros (n : Int) (k : Nat) : FS := mk [(4, .pv (.i .i64 k)), (3, .pv (.s (zs k))), (0, .pv (.i .i64 n))] []
theorem okZeros (n : Int) (hn : n ≤ 1000) {h d} : FunOk Try.prog 60 [.pv (.i .i64 n)] h d (.pv (.s (zs n.toNat))) [] := by
  refine fun_pure mixed fn60 (by simp) rfl rfl fun F => ?_
  (try simp only [brK_e, gdK_e, skK_e, gdA_e, skA_e, pkK_e]); simp (maxSteps := 10000000) (disch := omega) only [ir60, go_sem, ↓reduceIte, Nat.reduceEqDiff, Nat.reduceSub, Nat.reduceLeDiff, Nat.reduceAdd, Int.reduceEq, Int.reduceLT, Int.reduceLE]
  refine loop_ok mixed (stZeros n) (fun k => k ≤ n.toNat) (fun k => n.toNat - k) 0 (by omega) (weak_mk ?_ ?_) fun k hk => ?_
  · (try simp only [brK_e, gdK_e, skK_e, gdA_e, skA_e, pkK_e]); simp (maxSteps := 10000000) (disch := omega) only [zs_0, go_sem, ↓reduceIte, Nat.reduceEqDiff, Nat.reduceSub, Nat.reduceLeDiff, Nat.reduceAdd, Int.reduceEq, Int.reduceLT, Int.reduceLE]
  · (try simp only [brK_e, gdK_e, skK_e, gdA_e, skA_e, pkK_e]); simp (maxSteps := 10000000) (disch := omega) only [go_sem, ↓reduceIte, Nat.reduceEqDiff, Nat.reduceSub, Nat.reduceLeDiff, Nat.reduceAdd, Int.reduceEq, Int.reduceLT, Int.reduceLE]
  have hl := zs_len k
  by_cases hlt : (k : Int) < n
  · (try simp only [brK_e, gdK_e, skK_e, gdA_e, skA_e, pkK_e]); simp (maxSteps := 10000000) (disch := omega) only [stZeros, hl, go_sem, ↓reduceIte, Nat.reduceEqDiff, Nat.reduceSub, Nat.reduceLeDiff, Nat.reduceAdd, Int.reduceEq, Int.reduceLT, Int.reduceLE]
    refine loop_next (k + 1) _ _ rfl (by omega) (by omega) ?_ ?_
    · (try simp only [brK_e, gdK_e, skK_e, gdA_e, skA_e, pkK_e]); simp (maxSteps := 10000000) (disch := omega) only [zs_succ, go_sem, ↓reduceIte, Nat.reduceEqDiff, Nat.reduceSub, Nat.reduceLeDiff, Nat.reduceAdd, Int.reduceEq, Int.reduceLT, Int.reduceLE]
    · (try simp only [brK_e, gdK_e, skK_e, gdA_e, skA_e, pkK_e]); simp (maxSteps := 10000000) (disch := omega) only [go_sem, ↓reduceIte, Nat.reduceEqDiff, Nat.reduceSub, Nat.reduceLeDiff, Nat.reduceAdd, Int.reduceEq, Int.reduceLT, Int.reduceLE]
  · obtain rfl : k = n.toNat := by omega
    (try simp only [brK_e, gdK_e, skK_e, gdA_e, skA_e, pkK_e]); simp (maxSteps := 10000000) (disch := omega) only [stZeros, go_sem, ↓reduceIte, Nat.reduceEqDiff, Nat.reduceSub, Nat.reduceLeDiff, Nat.reduceAdd, Int.reduceEq, Int.reduceLT, Int.reduceLE]
def patchB (data : List UInt8) (o : Nat) (s : List UInt8) : List UInt8 :=
  (data ++ zs (o + s.length - data.length)).take o ++ s ++ (data ++ zs (o + s.length - data.length)).drop (o + s.length)
def patchBad (data : List UInt8) (off : Int) (s : List UInt8) : Prop := off < 0 ∨ 200 < off ∨ 200 < (data.length : Int) ∨ 200 - off < s.length
open Classical in
noncomputable def patchR (data : List UInt8) (off : Int) (s : List UInt8) : SV := if patchBad data off s then .tup [.pv (.s []), .pv (.i .i64 4)] else .tup [.pv (.s (patchB data off.toNat s)), .pv (.i .i64 0)]
theorem patchR_bad {data off s} (h : patchBad data off s) : patchR data off s = .tup [.pv (.s []), .pv (.i .i64 4)] := by unfold patchR; rw [if_pos h]
theorem patchR_ok {data off s} (h : ¬ patchBad data off s) : patchR data off s = .tup [.pv (.s (patchB data off.toNat s)), .pv (.i .i64 0)] := by unfold patchR; rw [if_neg h]
def stPatch (data s : List UInt8) (o k : Nat) : FS := mk [(8, .os 60), (2, .pv (.s s)), (1, .pv (.i .i64 o))] [(60, some (.row 1 (bytesE (data ++ zs k))))]
set_option maxHeartbeats 2000000 in
theorem okPatch (data s : List UInt8) (off : Int) {h d} : FunOk Try.prog 19 [.pv (.s data), .pv (.i .i64 off), .pv (.s s)] h d (patchR data off s) [] := by
  refine fun_pure mixed fn19 (by simp) rfl (by unfold patchR; split <;> rfl) fun F => ?_
  by_cases h1 : off < 0
  · rw [patchR_bad (.inl h1)]
    (try simp only [brK_e, gdK_e, skK_e, gdA_e, skA_e, pkK_e]); simp (maxSteps := 10000000) (disch := omega) only [ir19, go_sem, ↓reduceIte, Nat.reduceEqDiff, Nat.reduceSub, Nat.reduceLeDiff, Nat.reduceAdd, Int.reduceEq, Int.reduceLT, Int.reduceLE]
  by_cases h2 : 200 < off
  · rw [patchR_bad (.inr (.inl h2))]
    (try simp only [brK_e, gdK_e, skK_e, gdA_e, skA_e, pkK_e]); simp (maxSteps := 10000000) (disch := omega) only [ir19, go_sem, ↓reduceIte, Nat.reduceEqDiff, Nat.reduceSub, Nat.reduceLeDiff, Nat.reduceAdd, Int.reduceEq, Int.reduceLT, Int.reduceLE]
  by_cases h3 : 200 < (data.length : Int)
  · rw [patchR_bad (.inr (.inr (.inl h3)))]
    (try simp only [brK_e, gdK_e, skK_e, gdA_e, skA_e, pkK_e]); simp (maxSteps := 10000000) (disch := omega) only [ir19, go_sem, ↓reduceIte, Nat.reduceEqDiff, Nat.reduceSub, Nat.reduceLeDiff, Nat.reduceAdd, Int.reduceEq, Int.reduceLT, Int.reduceLE]
  by_cases h4 : 200 - off < (s.length : Int)
  · rw [patchR_bad (.inr (.inr (.inr h4)))]
    (try simp only [brK_e, gdK_e, skK_e, gdA_e, skA_e, pkK_e]); simp (maxSteps := 10000000) (disch := omega) only [ir19, go_sem, ↓reduceIte, Nat.reduceEqDiff, Nat.reduceSub, Nat.reduceLeDiff, Nat.reduceAdd, Int.reduceEq, Int.reduceLT, Int.reduceLE]
  have hok : ¬ patchBad data off s := by unfold patchBad; omega
  obtain ⟨o, rfl⟩ : ∃ o : Nat, off = o := ⟨off.toNat, by omega⟩
  rw [patchR_ok hok]
  (try simp only [brK_e, gdK_e, skK_e, gdA_e, skA_e, pkK_e]); simp (maxSteps := 10000000) (disch := omega) only [ir19, go_sem, ↓reduceIte, Nat.reduceEqDiff, Nat.reduceSub, Nat.reduceLeDiff, Nat.reduceAdd, Int.reduceEq, Int.reduceLT, Int.reduceLE]
  refine loop_ok mixed (stPatch data s o) (fun k => k ≤ o + s.length - data.length) (fun k => o + s.length - data.length - k) 0 (by omega) (wk_ren 28 60 (by decide) rfl (weak_mk ?_ ?_)) fun k hk => ?_
  · (try simp only [brK_e, gdK_e, skK_e, gdA_e, skA_e, pkK_e]); simp (maxSteps := 10000000) (disch := omega) only [go_sem, ↓reduceIte, Nat.reduceEqDiff, Nat.reduceSub, Nat.reduceLeDiff, Nat.reduceAdd, Int.reduceEq, Int.reduceLT, Int.reduceLE]
  · (try simp only [brK_e, gdK_e, skK_e, gdA_e, skA_e, pkK_e]); simp (maxSteps := 10000000) (disch := omega) only [zs_0, go_sem, ↓reduceIte, Nat.reduceEqDiff, Nat.reduceSub, Nat.reduceLeDiff, Nat.reduceAdd, Int.reduceEq, Int.reduceLT, Int.reduceLE]
  have hl : (data ++ zs k).length = data.length + k := by simp [zs]
  by_cases hlt : data.length + k < o + s.length
  · (try simp only [brK_e, gdK_e, skK_e, gdA_e, skA_e, pkK_e]); simp (maxSteps := 10000000) (disch := omega) only [stPatch, hl, snoc0, go_sem, ↓reduceIte, Nat.reduceEqDiff, Nat.reduceSub, Nat.reduceLeDiff, Nat.reduceAdd, Int.reduceEq, Int.reduceLT, Int.reduceLE]
    refine ⟨k + 1, by omega, by omega, wk_ren 38 60 (by decide) rfl (weak_mk ?_ ?_)⟩
    · (try simp only [brK_e, gdK_e, skK_e, gdA_e, skA_e, pkK_e]); simp (maxSteps := 10000000) (disch := omega) only [go_sem, ↓reduceIte, Nat.reduceEqDiff, Nat.reduceSub, Nat.reduceLeDiff, Nat.reduceAdd, Int.reduceEq, Int.reduceLT, Int.reduceLE]
    · (try simp only [brK_e, gdK_e, skK_e, gdA_e, skA_e, pkK_e]); simp (maxSteps := 10000000) (disch := omega) only [zs_succ, List.append_assoc, go_sem, ↓reduceIte, Nat.reduceEqDiff, Nat.reduceSub, Nat.reduceLeDiff, Nat.reduceAdd, Int.reduceEq, Int.reduceLT, Int.reduceLE]
  · obtain rfl : k = o + s.length - data.length := by omega
    have hp : patchB data o s = (data ++ zs (o + s.length - data.length)).take o ++ s ++ (data ++ zs (o + s.length - data.length)).drop (o + s.length) := rfl
    generalize hX : data ++ zs (o + s.length - data.length) = X at *
    have hle : o + s.length ≤ X.length := by omega
    have e1 : min s.length (X.length - o) = s.length := by omega
    have e2 : s.take (X.length - o) = s := List.take_of_length_le (by omega)
    (try simp only [brK_e, gdK_e, skK_e, gdA_e, skA_e, pkK_e]); simp (maxSteps := 10000000) (disch := omega) only [stPatch, hX, e1, e2, hp, go_sem, ↓reduceIte, Nat.reduceEqDiff, Nat.reduceSub, Nat.reduceLeDiff, Nat.reduceAdd, Int.reduceEq, Int.reduceLT, Int.reduceLE]
set_option maxHeartbeats 2000000 in
theorem okPatchR (data s : List UInt8) (off : Int) (hs : s.length ≤ 1000) {h d} : FunOk Try.prog 20 [.pv (.s data), .pv (.i .i64 off), .pv (.s s)] h d (patchR data off s) [] := by
  refine fun_pure mixed fn20 (by simp) rfl (by unfold patchR; split <;> rfl) fun F => ?_
  by_cases h1 : off < 0
  · rw [patchR_bad (.inl h1)]
    (try simp only [brK_e, gdK_e, skK_e, gdA_e, skA_e, pkK_e]); simp (maxSteps := 10000000) (disch := omega) only [ir20, go_sem, ↓reduceIte, Nat.reduceEqDiff, Nat.reduceSub, Nat.reduceLeDiff, Nat.reduceAdd, Int.reduceEq, Int.reduceLT, Int.reduceLE]
  by_cases h2 : 200 < off
  · rw [patchR_bad (.inr (.inl h2))]
    (try simp only [brK_e, gdK_e, skK_e, gdA_e, skA_e, pkK_e]); simp (maxSteps := 10000000) (disch := omega) only [ir20, go_sem, ↓reduceIte, Nat.reduceEqDiff, Nat.reduceSub, Nat.reduceLeDiff, Nat.reduceAdd, Int.reduceEq, Int.reduceLT, Int.reduceLE]
  by_cases h3 : 200 < (data.length : Int)
  · rw [patchR_bad (.inr (.inr (.inl h3)))]
    (try simp only [brK_e, gdK_e, skK_e, gdA_e, skA_e, pkK_e]); simp (maxSteps := 10000000) (disch := omega) only [ir20, go_sem, ↓reduceIte, Nat.reduceEqDiff, Nat.reduceSub, Nat.reduceLeDiff, Nat.reduceAdd, Int.reduceEq, Int.reduceLT, Int.reduceLE]
  by_cases h4 : 200 < off + (s.length : Int)
  · rw [patchR_bad (.inr (.inr (.inr (by omega))))]
    (try simp only [brK_e, gdK_e, skK_e, gdA_e, skA_e, pkK_e]); simp (maxSteps := 10000000) (disch := omega) only [ir20, go_sem, ↓reduceIte, Nat.reduceEqDiff, Nat.reduceSub, Nat.reduceLeDiff, Nat.reduceAdd, Int.reduceEq, Int.reduceLT, Int.reduceLE]
  have hok : ¬ patchBad data off s := by unfold patchBad; omega
  obtain ⟨o, rfl⟩ : ∃ o : Nat, off = o := ⟨off.toNat, by omega⟩
  rw [patchR_ok hok]
  (try simp only [brK_e, gdK_e, skK_e, gdA_e, skA_e, pkK_e]); simp (maxSteps := 10000000) (disch := omega) only [ir20, go_sem, ↓reduceIte, Nat.reduceEqDiff, Nat.reduceSub, Nat.reduceLeDiff, Nat.reduceAdd, Int.reduceEq, Int.reduceLT, Int.reduceLE]
  refine call_with (okZeros _ (by omega)) ?_
  have hp : patchB data o s = (data ++ zs (o + s.length - data.length)).take o ++ s ++ (data ++ zs (o + s.length - data.length)).drop (o + s.length) := rfl
  have e1 : ((o : Int) + (s.length : Int) - (data.length : Int)).toNat = o + s.length - data.length := by omega
  have e2 : ((o : Int) + (s.length : Int)).toNat = o + s.length := by omega
  have hl : (data ++ zs (o + s.length - data.length)).length = data.length + (o + s.length - data.length) := by simp [zs]
  have hz := zs_len (o + s.length - data.length)
  rw [e1]
  generalize hX : data ++ zs (o + s.length - data.length) = X at *
  (try simp only [brK_e, gdK_e, skK_e, gdA_e, skA_e, pkK_e]); simp (maxSteps := 10000000) (disch := omega) only [hX, e2, hp, List.length_append, List.length_take, List.length_drop, hz, go_sem, ↓reduceIte, Nat.reduceEqDiff, Nat.reduceSub, Nat.reduceLeDiff, Nat.reduceAdd, Int.reduceEq, Int.reduceLT, Int.reduceLE]
def cutB (data : List UInt8) (n : Nat) : List UInt8 := if n < data.length then data.take n else data ++ zs (n - data.length)
open Classical in
noncomputable def cutR (data : List UInt8) (n : Int) : SV := if n < 0 ∨ 200 < n then .tup [.pv (.s []), .pv (.i .i64 4)] else .tup [.pv (.s (cutB data n.toNat)), .pv (.i .i64 0)]
theorem cutR_bad {data n} (h : n < 0 ∨ 200 < n) : cutR data n = .tup [.pv (.s []), .pv (.i .i64 4)] := by unfold cutR; rw [if_pos h]
theorem cutR_ok {data n} (h : ¬ (n < 0 ∨ 200 < n)) : cutR data n = .tup [.pv (.s (cutB data n.toNat)), .pv (.i .i64 0)] := by unfold cutR; rw [if_neg h]
theorem zrep (n : Nat) : List.replicate n [PV.i .u8 0] = bytesE (zs n) := by simp [zs, bytesE]
set_option maxHeartbeats 2000000 in
theorem okCut (data : List UInt8) (n : Int) (hd : data.length ≤ 1000) {h d} : FunOk Try.prog 21 [.pv (.s data), .pv (.i .i64 n)] h d (cutR data n) [] := by
  refine fun_pure mixed fn21 (by simp) rfl (by unfold cutR; split <;> rfl) fun F => ?_
  by_cases h1 : n < 0
  · rw [cutR_bad (.inl h1)]
    (try simp only [brK_e, gdK_e, skK_e, gdA_e, skA_e, pkK_e]); simp (maxSteps := 10000000) (disch := omega) only [ir21, go_sem, ↓reduceIte, Nat.reduceEqDiff, Nat.reduceSub, Nat.reduceLeDiff, Nat.reduceAdd, Int.reduceEq, Int.reduceLT, Int.reduceLE]
  by_cases h2 : 200 < n
  · rw [cutR_bad (.inr h2)]
    (try simp only [brK_e, gdK_e, skK_e, gdA_e, skA_e, pkK_e]); simp (maxSteps := 10000000) (disch := omega) only [ir21, go_sem, ↓reduceIte, Nat.reduceEqDiff, Nat.reduceSub, Nat.reduceLeDiff, Nat.reduceAdd, Int.reduceEq, Int.reduceLT, Int.reduceLE]
  rw [cutR_ok (by omega)]
  obtain ⟨o, rfl⟩ : ∃ o : Nat, n = o := ⟨n.toNat, by omega⟩
  by_cases hlt : o < data.length
  · have e : cutB data o = data.take o := by unfold cutB; rw [if_pos hlt]
    (try simp only [brK_e, gdK_e, skK_e, gdA_e, skA_e, pkK_e]); simp (maxSteps := 10000000) (disch := omega) only [ir21, e, go_sem, ↓reduceIte, Nat.reduceEqDiff, Nat.reduceSub, Nat.reduceLeDiff, Nat.reduceAdd, Int.reduceEq, Int.reduceLT, Int.reduceLE]
  · have e : cutB data o = data ++ zs (o - data.length) := by unfold cutB; rw [if_neg hlt]
    have e1 : ((o : Int) - (data.length : Int)).toNat = o - data.length := by omega
    have hz := zs_len (o - data.length)
    (try simp only [brK_e, gdK_e, skK_e, gdA_e, skA_e, pkK_e]); simp (maxSteps := 10000000) (disch := omega) only [ir21, e, e1, zrep, hz, go_sem, ↓reduceIte, Nat.reduceEqDiff, Nat.reduceSub, Nat.reduceLeDiff, Nat.reduceAdd, Int.reduceEq, Int.reduceLT, Int.reduceLE]
set_option maxHeartbeats 2000000 in
theorem okCutR (data : List UInt8) (n : Int) (hd : data.length ≤ 1000) {h d} : FunOk Try.prog 22 [.pv (.s data), .pv (.i .i64 n)] h d (cutR data n) [] := by
  refine fun_pure mixed fn22 (by simp) rfl (by unfold cutR; split <;> rfl) fun F => ?_
  by_cases h1 : n < 0
  · rw [cutR_bad (.inl h1)]
    (try simp only [brK_e, gdK_e, skK_e, gdA_e, skA_e, pkK_e]); simp (maxSteps := 10000000) (disch := omega) only [ir22, go_sem, ↓reduceIte, Nat.reduceEqDiff, Nat.reduceSub, Nat.reduceLeDiff, Nat.reduceAdd, Int.reduceEq, Int.reduceLT, Int.reduceLE]
  by_cases h2 : 200 < n
  · rw [cutR_bad (.inr h2)]
    (try simp only [brK_e, gdK_e, skK_e, gdA_e, skA_e, pkK_e]); simp (maxSteps := 10000000) (disch := omega) only [ir22, go_sem, ↓reduceIte, Nat.reduceEqDiff, Nat.reduceSub, Nat.reduceLeDiff, Nat.reduceAdd, Int.reduceEq, Int.reduceLT, Int.reduceLE]
  rw [cutR_ok (by omega)]
  obtain ⟨o, rfl⟩ : ∃ o : Nat, n = o := ⟨n.toNat, by omega⟩
  have hz := zs_len (o - data.length)
  have e1 : ((o : Int) - (data.length : Int)).toNat = o - data.length := by omega
  have e : (data ++ zs (o - data.length)).take o = cutB data o := by
    unfold cutB
    split
    · rw [show o - data.length = 0 by omega, zs_0, List.append_nil]
    · exact List.take_of_length_le (by simp [zs]; omega)
  (try simp only [brK_e, gdK_e, skK_e, gdA_e, skA_e, pkK_e]); simp (maxSteps := 10000000) (disch := omega) only [ir22, go_sem, ↓reduceIte, Nat.reduceEqDiff, Nat.reduceSub, Nat.reduceLeDiff, Nat.reduceAdd, Int.reduceEq, Int.reduceLT, Int.reduceLE]
  refine call_with (okZeros _ (by omega)) ?_
  (try simp only [brK_e, gdK_e, skK_e, gdA_e, skA_e, pkK_e]); simp (maxSteps := 10000000) (disch := omega) only [e1, e, hz, List.length_append, go_sem, ↓reduceIte, Nat.reduceEqDiff, Nat.reduceSub, Nat.reduceLeDiff, Nat.reduceAdd, Int.reduceEq, Int.reduceLT, Int.reduceLE]
end Go.Proofs.Ytmeecblciegkkaa.Fw
namespace Go.Proofs.Ytmeecblciegkkaa.Fw
open Go.RowKit Go.Proofs
theorem okVid (r : Int) (q : Nat) {h d} : FunOk Try.prog 27 [.pv (.i .i64 r), .pv (.i .u32 q)] h d (.agg [.pv (.i .i64 r), .pv (.i .u32 q)]) [] := by
  refine fun_pure mixed fn27 (by simp) rfl rfl fun F => ?_
  (try simp only [brK_e, gdK_e, skK_e, gdA_e, skA_e, pkK_e]); simp (maxSteps := 10000000) (disch := omega) only [ir27, go_sem, ↓reduceIte, Nat.reduceEqDiff, Nat.reduceSub, Nat.reduceLeDiff, Nat.reduceAdd, Int.reduceEq, Int.reduceLT, Int.reduceLE]
theorem okClone0 {h d} : FunOk Try.prog 62 [.pv (.sl true 0 [])] h d (.os d) [.new d (.row 11 [])] := by
  refine fun_rowN mixed fn62 (by simp) rfl (.inl rfl) fun F => ?_
  (try simp only [brK_e, gdK_e, skK_e, gdA_e, skA_e, pkK_e]); simp (maxSteps := 10000000) (disch := omega) only [ir62, go_sem, ↓reduceIte, Nat.reduceEqDiff, Nat.reduceSub, Nat.reduceLeDiff, Nat.reduceAdd, Int.reduceEq, Int.reduceLT, Int.reduceLE]
  intro b _
  cases b
  · (try simp only [brK_e, gdK_e, skK_e, gdA_e, skA_e, pkK_e]); simp (maxSteps := 10000000) (disch := omega) only [go_sem, ↓reduceIte, Nat.reduceEqDiff, Nat.reduceSub, Nat.reduceLeDiff, Nat.reduceAdd, Int.reduceEq, Int.reduceLT, Int.reduceLE]
  · (try simp only [brK_e, gdK_e, skK_e, gdA_e, skA_e, pkK_e]); simp (maxSteps := 10000000) (disch := omega) only [go_sem, ↓reduceIte, Nat.reduceEqDiff, Nat.reduceSub, Nat.reduceLeDiff, Nat.reduceAdd, Int.reduceEq, Int.reduceLT, Int.reduceLE]
    decide
def stAt0 (r : Int) (q : Nat) (_ : Unit) : FS := mk [(10, .pv (.i .i64 0)), (9, .pv (.i .i64 0)), (0, .pv (.sl false 11 []))] []
theorem okAt0 (r : Int) (q : Nat) {h d} (hh : h 16 = some (.row 11 [])) : FunOk Try.prog 63 [.os 16, .agg [.pv (.i .i64 r), .pv (.i .u32 q)]] h d (.tup [.pv (.i .i64 0), .pv (.b false)]) [] := by
  refine fun_scalar mixed fn63 (by simp) rfl rfl fun F => ?_
  (try simp only [brK_e, gdK_e, skK_e, gdA_e, skA_e, pkK_e]); simp (maxSteps := 10000000) (disch := omega) only [ir63, lent, hh, go_sem, ↓reduceIte, Nat.reduceEqDiff, Nat.reduceSub, Nat.reduceLeDiff, Nat.reduceAdd, Int.reduceEq, Int.reduceLT, Int.reduceLE]
  refine loop_ok mixed (stAt0 r q) (fun _ => True) (fun _ => 0) () trivial (weak_mk ?_ ?_) fun _ _ => ?_
  · (try simp only [brK_e, gdK_e, skK_e, gdA_e, skA_e, pkK_e]); simp (maxSteps := 10000000) (disch := omega) only [go_sem, ↓reduceIte, Nat.reduceEqDiff, Nat.reduceSub, Nat.reduceLeDiff, Nat.reduceAdd, Int.reduceEq, Int.reduceLT, Int.reduceLE]
  · (try simp only [brK_e, gdK_e, skK_e, gdA_e, skA_e, pkK_e]); simp (maxSteps := 10000000) (disch := omega) only [go_sem, ↓reduceIte, Nat.reduceEqDiff, Nat.reduceSub, Nat.reduceLeDiff, Nat.reduceAdd, Int.reduceEq, Int.reduceLT, Int.reduceLE]
  (try simp only [brK_e, gdK_e, skK_e, gdA_e, skA_e, pkK_e]); simp (maxSteps := 10000000) (disch := omega) only [stAt0, go_sem, ↓reduceIte, Nat.reduceEqDiff, Nat.reduceSub, Nat.reduceLeDiff, Nat.reduceAdd, Int.reduceEq, Int.reduceLT, Int.reduceLE]
theorem okIns0 (cs : List PV) (hcs : cs.length = 11) {h d} (h1 : h 16 = some (.row 11 [])) (h2 : h 55 = some (.row 11 [cs])) : FunOk Try.prog 65 [.os 16, .pv (.i .i64 0), .os 55] h d (.os d) [.del 16, .del 55, .new d (.row 11 [cs])] := by
  refine fun_own mixed fn65 (by simp) rfl fun F => ?_
  simp only [lentNames]
  (try simp only [brK_e, gdK_e, skK_e, gdA_e, skA_e, pkK_e]); simp (maxSteps := 10000000) (disch := omega) only [ir65, h1, h2, go_sem, ↓reduceIte, Nat.reduceEqDiff, Nat.reduceSub, Nat.reduceLeDiff, Nat.reduceAdd, Int.reduceEq, Int.reduceLT, Int.reduceLE]
def zeros8 : List PV := List.replicate 8 (.i .u32 0)
def verC (r : Int) (q : Nat) (l : List UInt8) : List PV := .i .i64 r :: .i .u32 q :: .s l :: zeros8
def stAdd0 (x : SV) (_ : Unit) : FS := mk [(19, .pv (.i .i64 0)), (18, .pv (.i .i64 0)), (8, .os 16), (5, .p 5 0)] [(16, some (.row 11 [])), (5, some (.var x))]
theorem okAdd0 (r : Int) (q : Nat) (l : List UInt8) {h d} : FunOk Try.prog 25 [.pv (.sl true 0 []), .pv (.sl true 0 []), .agg [.pv (.i .i64 r), .pv (.i .u32 q), .pv (.s l), .vec 8 zeros8]] h d (.tup [.os d, .pv (.i .i64 0)]) [.new d (.row 11 [verC r q l])] := by
  refine fun_row2 mixed fn25 (by simp) rfl (.inl rfl) rfl fun F => ?_
  (try simp only [brK_e, gdK_e, skK_e, gdA_e, skA_e, pkK_e]); simp (maxSteps := 10000000) (disch := omega) only [ir25, go_sem, ↓reduceIte, Nat.reduceEqDiff, Nat.reduceSub, Nat.reduceLeDiff, Nat.reduceAdd, Int.reduceEq, Int.reduceLT, Int.reduceLE]
  refine call_with okClone0 ?_
  (try simp only [brK_e, gdK_e, skK_e, gdA_e, skA_e, pkK_e]); simp (maxSteps := 10000000) (disch := omega) only [go_sem, ↓reduceIte, Nat.reduceEqDiff, Nat.reduceSub, Nat.reduceLeDiff, Nat.reduceAdd, Int.reduceEq, Int.reduceLT, Int.reduceLE]
  refine loop_ok mixed (stAdd0 (.agg [.pv (.i .i64 r), .pv (.i .u32 q), .pv (.s l), .vec 8 zeros8])) (fun _ => True) (fun _ => 0) () trivial (weak_mk ?_ ?_) fun _ _ => ?_
  · (try simp only [brK_e, gdK_e, skK_e, gdA_e, skA_e, pkK_e]); simp (maxSteps := 10000000) (disch := omega) only [go_sem, ↓reduceIte, Nat.reduceEqDiff, Nat.reduceSub, Nat.reduceLeDiff, Nat.reduceAdd, Int.reduceEq, Int.reduceLT, Int.reduceLE]
  · (try simp only [brK_e, gdK_e, skK_e, gdA_e, skA_e, pkK_e]); simp (maxSteps := 10000000) (disch := omega) only [go_sem, ↓reduceIte, Nat.reduceEqDiff, Nat.reduceSub, Nat.reduceLeDiff, Nat.reduceAdd, Int.reduceEq, Int.reduceLT, Int.reduceLE]
  (try simp only [brK_e, gdK_e, skK_e, gdA_e, skA_e, pkK_e]); simp (maxSteps := 10000000) (disch := omega) only [stAdd0, go_sem, ↓reduceIte, Nat.reduceEqDiff, Nat.reduceSub, Nat.reduceLeDiff, Nat.reduceAdd, Int.reduceEq, Int.reduceLT, Int.reduceLE]
  refine call_with (okAt0 _ _ rfl) ?_
  (try simp only [brK_e, gdK_e, skK_e, gdA_e, skA_e, pkK_e]); simp (maxSteps := 10000000) (disch := omega) only [go_sem, ↓reduceIte, Nat.reduceEqDiff, Nat.reduceSub, Nat.reduceLeDiff, Nat.reduceAdd, Int.reduceEq, Int.reduceLT, Int.reduceLE]
  refine ⟨rfl, call_with (okIns0 (verC r q l) rfl rfl rfl) ?_⟩
  (try simp only [brK_e, gdK_e, skK_e, gdA_e, skA_e, pkK_e]); simp (maxSteps := 10000000) (disch := omega) only [go_sem, ↓reduceIte, Nat.reduceEqDiff, Nat.reduceSub, Nat.reduceLeDiff, Nat.reduceAdd, Int.reduceEq, Int.reduceLT, Int.reduceLE]
theorem load_ver3 (r q l K) : LoadK (some (verC r q l)) 3 8 true K = K (.vec 8 zeros8) [] := by
  simp only [LoadK, ldX, eq_iff_iff]
  exact ⟨fun h => h.2.2, fun h => ⟨by simp [verC, zeros8], .inl trivial, h⟩⟩
theorem load_ver0 (r q l K) : LoadK [verC r q l][0]? 0 11 true K = K (.vec 11 (verC r q l)) [] := by
  simp only [LoadK, ldX, eq_iff_iff]
  exact ⟨fun h => h.2.2, fun h => ⟨by simp [verC, zeros8], .inl trivial, h⟩⟩
theorem okHead0 (r : Int) (q : Nat) (l : List UInt8) {h d} : FunOk Try.prog 32 [.vec 11 (verC r q l)] h d (.pv (.b true)) [] := by
  refine fun_pure mixed fn32 (by simp) rfl rfl fun F => ?_
  have e : ((verC r q l).drop 3).take 8 = zeros8 := rfl
  have e8 : zeros8 = [.i .u32 0, .i .u32 0, .i .u32 0, .i .u32 0, .i .u32 0, .i .u32 0, .i .u32 0, .i .u32 0] := rfl
  have el : (verC r q l).length = 11 := rfl
  have ep : peq zeros8 zeros8 = true := by simp [peq]
  have ef : fits [.int .u32, .int .u32, .int .u32, .int .u32, .int .u32, .int .u32, .int .u32, .int .u32] zeros8 := rfl
  (try simp only [brK_e, gdK_e, skK_e, gdA_e, skA_e, pkK_e]); simp (maxSteps := 10000000) (disch := omega) only [ir32, load_ver3, ← e8, ep, ef, go_sem, ↓reduceIte, Nat.reduceEqDiff, Nat.reduceSub, Nat.reduceLeDiff, Nat.reduceAdd, Int.reduceEq, Int.reduceLT, Int.reduceLE]
  rfl
theorem livesV {h d} : FunOk Try.prog 18 [] h d (.pv (.b true)) [] := by
  refine fun_pure mixed fn18 (by simp) rfl rfl fun F => ?_
  (try simp only [brK_e, gdK_e, skK_e, gdA_e, skA_e, pkK_e]); simp (maxSteps := 10000000) (disch := omega) only [ir18, go_sem, ↓reduceIte, Nat.reduceEqDiff, Nat.reduceSub, Nat.reduceLeDiff, Nat.reduceAdd, Int.reduceEq, Int.reduceLT, Int.reduceLE]
  refine call_with (okPatch _ _ _) ?_
  have e1 : patchR [97, 98, 99] 5 [120] = .tup [.pv (.s [97, 98, 99, 0, 0, 120]), .pv (.i .i64 0)] := by
    rw [patchR_ok (by unfold patchBad; simp)]; rfl
  rw [e1]
  (try simp only [brK_e, gdK_e, skK_e, gdA_e, skA_e, pkK_e]); simp (maxSteps := 10000000) (disch := omega) only [go_sem, ↓reduceIte, Nat.reduceEqDiff, Nat.reduceSub, Nat.reduceLeDiff, Nat.reduceAdd, Int.reduceEq, Int.reduceLT, Int.reduceLE]
  refine call_with (okVid 1 2) ?_
  (try simp only [brK_e, gdK_e, skK_e, gdA_e, skA_e, pkK_e]); simp (maxSteps := 10000000) (disch := omega) only [go_sem, ↓reduceIte, Nat.reduceEqDiff, Nat.reduceSub, Nat.reduceLeDiff, Nat.reduceAdd, Int.reduceEq, Int.reduceLT, Int.reduceLE]
  refine call_with (okAdd0 1 2 [121]) ?_
  have el : (verC 1 2 [121]).length = 11 := rfl
  have et : (verC 1 2 [121]).take 11 = verC 1 2 [121] := rfl
  (try simp only [brK_e, gdK_e, skK_e, gdA_e, skA_e, pkK_e]); simp (maxSteps := 10000000) (disch := omega) only [load_ver0, go_sem, ↓reduceIte, Nat.reduceEqDiff, Nat.reduceSub, Nat.reduceLeDiff, Nat.reduceAdd, Int.reduceEq, Int.reduceLT, Int.reduceLE]
  refine call_with (okHead0 1 2 [121]) ?_
  (try simp only [brK_e, gdK_e, skK_e, gdA_e, skA_e, pkK_e]); simp (maxSteps := 10000000) (disch := omega) only [go_sem, ↓reduceIte, Nat.reduceEqDiff, Nat.reduceSub, Nat.reduceLeDiff, Nat.reduceAdd, Int.reduceEq, Int.reduceLT, Int.reduceLE]
end Go.Proofs.Ytmeecblciegkkaa.Fw
namespace Go.Proofs.Ytmeecblciegkkaa.Fw
open Go.RowKit Go.Proofs
/-- two owned slices do not overlap -/
theorem overlaps_apart {P : Program} {F : Fr} {N : Nat} {ρ : Nat → Value} {s : FS} {a : Act} {w : World} {tS tR e : TypeId} {sz m n lo hi : Nat} {es fs : List (List PV)} (ht : P.underlying tS = some (.slice e)) (hz : sizeOfT P e = some sz) (h1 : sz ≠ 1)
    (hR : RelR F N ρ s a w) (hm : s.h m = some (.row sz fs)) (hn : s.h n = some (.row sz es)) (hne : m ≠ n) (hfs : fs ≠ []) (hes : es ≠ []) (hlt : lo < hi) {v u : Value}
    (hv : Conc (vw F w ρ s) ρ (.os m) v) (hu : Conc (vw F w ρ s) ρ (.ov n sz lo hi) u) :
    (Extern.SlicesOverlaps.overlaps #[tS, tS] #[tR] #[v, u]).run P w = .ok (.bool false) w := by
  obtain ⟨bm, lm, cm, vm, tym, frm, a1, a2, a3, a4, a5, a6, a7, a8, a9, rfl, a11⟩ := row_cells (hR.own m _ hm) (List.length_pos_iff.2 hfs)
  obtain ⟨bn, ln, cn, vn, tyn, frn, b1, b2, b3, b4, b5, b6, b7, b8, b9, rfl, b11⟩ := row_cells (hR.own n _ hn) (List.length_pos_iff.2 hes)
  simp only [Conc] at hv hu
  obtain ⟨base, len, cap, base', c1, c2, c3, rfl, c4⟩ := hu
  rw [hv.1, a1]
  rw [b1] at c1; cases c1
  have := c4 hlt
  simp only [Option.map_some, add_plain, Nat.zero_add] at this
  subst this
  have hbb : bm ≠ bn := fun e => hne (hR.inj m n _ _ bm hm hn (by rw [a1]; simp [idOf, a7]) (by rw [b1]; simp [idOf, b7, e]))
  have hfr : frm.1 = frm.2 := by rcases a3 with h | h; exact h; exact absurd h.1 h1
  have fz : ∀ o, w.frozen? ⟨bm, o, none⟩ = false := fun o => by
    unfold World.frozen?
    simp only [a2]
    obtain ⟨x, y⟩ := frm
    simp only at hfr
    simp; omega
  exact Lib.run_overlaps_apart w tS tR e ht sz (fun w => run_sizeOf hz w) ⟨bm, 0, none⟩ ⟨bn, lo * sz, none⟩ _ _ _ _ hbb tym tyn vm.length vn.length (by unfold World.shape?; rw [a2]; rfl) (by unfold World.shape?; rw [b2]; rfl)
    (by rw [b5]; exact Nat.mul_ne_zero b7 (by omega)) (fz _) (fz _)
theorem okOvl {m n lo hi : Nat} {es fs : List (List PV)} {h} (hm : h m = some (.row 11 fs)) (hn : h n = some (.row 11 es)) (hne : m ≠ n) (hfs : fs ≠ []) (hes : es ≠ []) (hlt : lo < hi) : ExtOk Try.prog 114 [.os m, .ov n 11 lo hi] h (.pv (.b false)) := by
  intro F N ρ s a w hR hh vs hc
  simp only [ConcL] at hc
  obtain ⟨v, us, rfl, hv, u, us', rfl, hu, rfl⟩ := hc
  have hsm := (hh m (by simp [tops, tn])).trans hm
  have hsn := (hh n (by simp [tops, tn])).trans hn
  refine ⟨.bool false, ?_, conc_b⟩
  rw [run_callFunc_extern (fn := (Try.prog.funcs[114]?).getD default) (by kernel_rfl) (by kernel_rfl) (by kernel_rfl) (by kernel_rfl) (e := Extern.SlicesOverlaps.overlaps #[40, 40] #[4]) (by kernel_rfl)]
  rw [overlaps_apart (tS := 40) (e := 44) (by kernel_rfl) (by kernel_rfl) (by decide) hR hsm hsn hne hfs hes hlt hv hu]
  rfl
end Go.Proofs.Ytmeecblciegkkaa.Fw
namespace Go.Proofs.Ytmeecblciegkkaa.Fw
open Go.RowKit Go.Proofs
set_option maxHeartbeats 4000000 in
theorem okIns_16_55 (es : List (List PV)) (cs : List PV) (i : Nat) (hi : i ≤ es.length) (hb : es.length ≤ 1000) (hes : ∀ c ∈ es, c.length = 11) (hcs : cs.length = 11) {h d} (h1 : h 16 = some (.row 11 es)) (h2 : h 55 = some (.row 11 [cs])) : FunOk Try.prog 65 [.os 16, .pv (.i .i64 i), .os 55] h d (.os d) [.del 16, .del 55, .new d (.row 11 (es.take i ++ cs :: es.drop i))] := by
  refine fun_own mixed fn65 (by simp) rfl fun F => ?_
  simp only [lentNames]
  by_cases he : i = es.length
  · subst he
    have e1 : es.take es.length ++ cs :: es.drop es.length = es ++ [cs] := by simp
    rw [e1]
    (try simp only [brK_e, gdK_e, skK_e, gdA_e, skA_e, pkK_e]); simp (maxSteps := 10000000) (disch := omega) only [ir65, h1, h2, go_sem, ↓reduceIte, Nat.reduceEqDiff, Nat.reduceSub, Nat.reduceLeDiff, Nat.reduceAdd, Int.reduceEq, Int.reduceLT, Int.reduceLE]
  · have hne : es ≠ [] := by intro e; subst e; simp at hi; exact he (by simpa using hi)
    (try simp only [brK_e, gdK_e, skK_e, gdA_e, skA_e, pkK_e]); simp (maxSteps := 10000000) (disch := omega) only [ir65, h1, h2, go_sem, ↓reduceIte, Nat.reduceEqDiff, Nat.reduceSub, Nat.reduceLeDiff, Nat.reduceAdd, Int.reduceEq, Int.reduceLT, Int.reduceLE]
    intro c hc
    by_cases hcap : c < es.length + 1
    · have hp : ((c : Int) < (es.length : Int) + ((1 : Nat) : Int)) = True := eq_true (by omega)
      have ek : ((es.length : Int) + ((1 : Nat) : Int) - (i : Int)).toNat = es.length + 1 - i := by omega
      (try simp only [brK_e, gdK_e, skK_e, gdA_e, skA_e, pkK_e]); simp (maxSteps := 10000000) (disch := omega) only [hp, ek, go_sem, ↓reduceIte, Nat.reduceEqDiff, Nat.reduceSub, Nat.reduceLeDiff, Nat.reduceAdd, Int.reduceEq, Int.reduceLT, Int.reduceLE]
      generalize hT : List.take i es ++ List.replicate (es.length + 1 - i) _ = T
      have hTl : T.length = es.length + 1 := by rw [← hT]; simp; omega
      have t1 : T.take i = es.take i := by
        rw [← hT, List.take_append_of_le_length (by simp; omega), List.take_take, Nat.min_self]
      have hi' : (es.take i).length = i := by simp; omega
      have m1 : min 1 (es.length + 1 - i) = 1 := by omega
      have m2 : [cs].take (es.length + 1 - i) = [cs] := List.take_of_length_le (by simp; omega)
      have hU : (es.take i ++ [cs] ++ T.drop (i + 1)).length = es.length + 1 := by simp [hTl]; omega
      have e1 : ((i : Int) + ((1 : Nat) : Int)).toNat = i + 1 := by omega
      have u1 : (es.take i ++ [cs] ++ T.drop (i + 1)).take (i + 1) = es.take i ++ [cs] := by
        rw [List.take_append_of_le_length (by simp; omega)]
        exact List.take_of_length_le (by simp; omega)
      have u2 : (es.take es.length).drop i = es.drop i := by rw [List.take_length]
      have u3 : min (es.drop i).length (es.length + 1 - (i + 1)) = es.length - i := by simp
      have u4 : (es.drop i).take (es.length + 1 - (i + 1)) = es.drop i := List.take_of_length_le (by simp)
      have u5 : (es.take i ++ [cs] ++ T.drop (i + 1)).drop (i + 1 + (es.length - i)) = [] := List.drop_of_length_le (by rw [hU]; omega)
      have u6 : es.take i ++ cs :: es.drop i = es.take i ++ [cs] ++ es.drop i := by simp
      simp only [hTl, t1, m1, m2, e1, List.length_singleton]
      simp only [hU, u1, u2, u3, u4, u5, u6, List.append_nil]
      exact ⟨by omega, by omega, trivial⟩
    · have hp : ((c : Int) < (es.length : Int) + ((1 : Nat) : Int)) = False := eq_false (by omega)
      (try simp only [brK_e, gdK_e, skK_e, gdA_e, skA_e, pkK_e]); simp (maxSteps := 10000000) (disch := omega) only [hp, go_sem, ↓reduceIte, Nat.reduceEqDiff, Nat.reduceSub, Nat.reduceLeDiff, Nat.reduceAdd, Int.reduceEq, Int.reduceLT, Int.reduceLE]
      intro g hg hgs
      have hg1 : g.length = 1 := by omega
      have e1 : ((i : Int) + ((1 : Nat) : Int)).toNat = i + 1 := by omega
      have hE : (es ++ g).length = es.length + 1 := by simp [hg1]
      refine ⟨by omega, ?_⟩
      rw [e1]
      refine call_ext (okOvl (es := es ++ g) (fs := [cs]) rfl rfl (by decide) (by simp) (by simp [hne]) (by omega)) ?_
      have v1 : ((es ++ g).take (es ++ g).length).drop i = (es ++ g).drop i := by rw [List.take_length]
      have v2 : min ((es ++ g).drop i).length ((es ++ g).length - (i + 1)) = es.length - i := by simp [hg1]; omega
      have v3 : ((es ++ g).drop i).take ((es ++ g).length - (i + 1)) = es.drop i := by
        rw [hE, List.drop_append_of_le_length hi, show es.length + 1 - (i + 1) = (es.drop i).length from by simp]
        exact List.take_left
      have v4 : (es ++ g).drop (i + 1 + (es.length - i)) = [] := List.drop_of_length_le (by omega)
      have v5 : ((es ++ g).take (i + 1) ++ es.drop i).length = es.length + 1 := by simp [hg1]; omega
      have v6 : ((es ++ g).take (i + 1) ++ es.drop i).take i = es.take i := by
        rw [List.take_append_of_le_length (by simp; omega), List.take_take, Nat.min_eq_left (by omega), List.take_append_of_le_length hi]
      have v7 : ((es ++ g).take (i + 1) ++ es.drop i).drop (i + 1) = es.drop i := by
        rw [List.drop_append_of_le_length (by simp; omega), List.drop_of_length_le (by simp; omega), List.nil_append]
      have m1 : min 1 (es.length + 1 - i) = 1 := by omega
      have m2 : [cs].take (es.length + 1 - i) = [cs] := List.take_of_length_le (by simp; omega)
      have u6 : es.take i ++ cs :: es.drop i = es.take i ++ [cs] ++ es.drop i := by simp
      (try simp only [brK_e, gdK_e, skK_e, gdA_e, skA_e, pkK_e]); simp (maxSteps := 10000000) (disch := omega) only [e1, v1, v2, v3, v4, v5, v6, v7, m1, m2, u6, go_sem, ↓reduceIte, Nat.reduceEqDiff, Nat.reduceSub, Nat.reduceLeDiff, Nat.reduceAdd, Int.reduceEq, Int.reduceLT, Int.reduceLE]
theorem load11 {cs : List PV} (h : cs.length = 11) (K : KK) : LoadK (some cs) 0 11 true K = K (.vec 11 cs) [] := by
  simp only [LoadK, ldX, eq_iff_iff]
  exact ⟨fun q => by simpa [List.take_of_length_le (Nat.le_of_eq h)] using q.2.2, fun q => ⟨by omega, .inl trivial, by simpa [List.take_of_length_le (Nat.le_of_eq h)] using q⟩⟩
/-- slices.Clone, of whatever is handed in or lent -/
theorem okClone {x : SV} {f : Bool} {z : Nat} {es : List (List PV)} {h d} (hx : lents h [x] = [.pv (.sl f z es)]) (hl : lendable [x] = true) (hz : es = [] ∨ z = 11) (hb : es.length ≤ 1000) (hs : SV.closedL [x] = true) :
    FunOk Try.prog 62 [x] h d (.os d) [.new d (.row 11 es)] := by
  refine fun_rowN mixed fn62 (by simp) hl (.inl hs) fun F => ?_
  rw [hx]
  (try simp only [brK_e, gdK_e, skK_e, gdA_e, skA_e, pkK_e]); simp (maxSteps := 10000000) (disch := omega) only [ir62, go_sem, ↓reduceIte, Nat.reduceEqDiff, Nat.reduceSub, Nat.reduceLeDiff, Nat.reduceAdd, Int.reduceEq, Int.reduceLT, Int.reduceLE]
  intro b hb'
  cases b
  · (try simp only [brK_e, gdK_e, skK_e, gdA_e, skA_e, pkK_e]); simp (maxSteps := 10000000) (disch := omega) only [go_sem, ↓reduceIte, Nat.reduceEqDiff, Nat.reduceSub, Nat.reduceLeDiff, Nat.reduceAdd, Int.reduceEq, Int.reduceLT, Int.reduceLE]
  · have he : es = [] := by
      cases es with
      | nil => rfl
      | cons c l => exact absurd (hb' (by simp)) (by simp)
    subst he
    (try simp only [brK_e, gdK_e, skK_e, gdA_e, skA_e, pkK_e]); simp (maxSteps := 10000000) (disch := omega) only [go_sem, ↓reduceIte, Nat.reduceEqDiff, Nat.reduceSub, Nat.reduceLeDiff, Nat.reduceAdd, Int.reduceEq, Int.reduceLT, Int.reduceLE]
    decide
end Go.Proofs.Ytmeecblciegkkaa.Fw
namespace Go.Proofs.Ytmeecblciegkkaa.Fw
open Go.RowKit Go.Proofs
def vJoin (a b : Vc) : Vc := fun i => max (a i) (b i)
def vMeet (a b : Vc) : Vc := fun i => min (a i) (b i)
/-- all that the one means the other one does -/
def vLe (a b : Vc) : Prop := ∀ i, i < 8 → a i ≤ b i
instance (a b : Vc) : Decidable (vLe a b) := inferInstanceAs (Decidable (∀ i, i < 8 → a i ≤ b i))
def vOrd (a b : Vc) : Int := if vEq a b then 0 else if vLe a b then -1 else if vLe b a then 1 else 2
theorem vOrd_le (a b : Vc) : vOrd a b ≤ 0 ↔ vLe a b := by
  unfold vOrd
  by_cases h : vEq a b
  · have : vLe a b := fun i hi => by rw [h i hi]; exact Nat.le_refl _
    simp [h, this]
  · by_cases h2 : vLe a b
    · simp [h, h2]
    · by_cases h3 : vLe b a <;> simp [h, h2, h3]
def someLt (a b : Vc) (k : Nat) : Prop := ¬ ∀ i, i < k → ¬ a i < b i
instance (a b : Vc) (k : Nat) : Decidable (someLt a b k) := inferInstanceAs (Decidable (¬ ∀ i, i < k → ¬ a i < b i))
theorem someLt_e (a b : Vc) (k : Nat) : someLt a b k ↔ ∃ i, i < k ∧ a i < b i := by unfold someLt; simp
def stOrder (a b : Vc) (k : Nat) : FS := mk [(7, .pv (.i .i64 k)), (5, .pv (.b (decide (someLt a b k)))), (6, .pv (.b (decide (someLt b a k)))), (2, .p 2 0), (3, .p 3 0)] [(2, some (.var (.vec 8 (vE a)))), (3, some (.var (.vec 8 (vE b))))]
theorem someLt_succ (a b : Vc) (k : Nat) : someLt a b (k + 1) ↔ someLt a b k ∨ a k < b k := by
  simp only [someLt_e]
  constructor
  · rintro ⟨i, h1, h2⟩
    by_cases e : i = k
    · subst e; exact .inr h2
    · exact .inl ⟨i, by omega, h2⟩
  · rintro (⟨i, h1, h2⟩ | h)
    · exact ⟨i, by omega, h2⟩
    · exact ⟨k, by omega, h⟩
theorem someLt_8 (a b : Vc) : someLt a b 8 ↔ ¬ vLe b a := by
  rw [someLt_e]
  constructor
  · rintro ⟨i, h1, h2⟩ h; have := h i h1; omega
  · intro h
    refine Decidable.byContradiction fun hn => h fun i hi => ?_
    refine Nat.le_of_not_lt fun hl => hn ⟨i, hi, hl⟩
theorem vEq_iff (a b : Vc) : vEq a b ↔ vLe a b ∧ vLe b a :=
  ⟨fun h => ⟨fun i hi => by rw [h i hi]; exact Nat.le_refl _, fun i hi => by rw [h i hi]; exact Nat.le_refl _⟩, fun h i hi => Nat.le_antisymm (h.1 i hi) (h.2 i hi)⟩
theorem imp_b {a b : Bool} (h : a = b) : Imp (.pv (.b a)) (.pv (.b b)) := h ▸ Imp.refl _
set_option maxHeartbeats 1000000 in
theorem okOrderR (a b : Vc) {h d} : FunOk Try.prog 17 [.vec 8 (vE a), .vec 8 (vE b)] h d (.pv (.i .i64 (vOrd a b))) [] := by
  refine fun_pure mixed fn17 (by simp) rfl rfl fun F => ?_
  (try simp only [brK_e, gdK_e, skK_e, gdA_e, skA_e, pkK_e]); simp (maxSteps := 10000000) (disch := omega) only [ir17, go_sem, ↓reduceIte, Nat.reduceEqDiff, Nat.reduceSub, Nat.reduceLeDiff, Nat.reduceAdd, Int.reduceEq, Int.reduceLT, Int.reduceLE]
  refine loop_ok mixed (stOrder a b) (fun k => k ≤ 8) (fun k => 8 - k) 0 (by simp) (weak_mk ?_ ?_) fun k hk => ?_
  · (try simp only [brK_e, gdK_e, skK_e, gdA_e, skA_e, pkK_e]); simp (maxSteps := 10000000) (disch := omega) only [go_sem, ↓reduceIte, Nat.reduceEqDiff, Nat.reduceSub, Nat.reduceLeDiff, Nat.reduceAdd, Int.reduceEq, Int.reduceLT, Int.reduceLE]
    have e : ∀ x y : Vc, ¬ someLt x y 0 := fun x y => by rw [someLt_e]; rintro ⟨i, h, _⟩; omega
    refine ⟨imp_b ?_, imp_b ?_⟩ <;> simp [e]
  · (try simp only [brK_e, gdK_e, skK_e, gdA_e, skA_e, pkK_e]); simp (maxSteps := 10000000) (disch := omega) only [go_sem, ↓reduceIte, Nat.reduceEqDiff, Nat.reduceSub, Nat.reduceLeDiff, Nat.reduceAdd, Int.reduceEq, Int.reduceLT, Int.reduceLE]
  by_cases hlt : k < 8
  · by_cases h1 : someLt a b k <;> by_cases h2 : someLt b a k
    all_goals (try simp only [brK_e, gdK_e, skK_e, gdA_e, skA_e, pkK_e]); simp (maxSteps := 10000000) (disch := omega) only [stOrder, h1, h2, go_sem, ↓reduceIte, Nat.reduceEqDiff, Nat.reduceSub, Nat.reduceLeDiff, Nat.reduceAdd, Int.reduceEq, Int.reduceLT, Int.reduceLE]
    all_goals refine loop_next (k + 1) _ _ rfl (by omega) (by omega) ?_ ?_
    all_goals (try simp only [brK_e, gdK_e, skK_e, gdA_e, skA_e, pkK_e]); simp (maxSteps := 10000000) (disch := omega) only [go_sem, ↓reduceIte, Nat.reduceEqDiff, Nat.reduceSub, Nat.reduceLeDiff, Nat.reduceAdd, Int.reduceEq, Int.reduceLT, Int.reduceLE]
    all_goals try refine ⟨imp_b ?_, imp_b ?_⟩
    all_goals try refine imp_b ?_
    all_goals simp [someLt_succ, h1, h2]
  · obtain rfl : k = 8 := by omega
    by_cases h1 : vLe a b <;> by_cases h2 : vLe b a
    all_goals (try simp only [brK_e, gdK_e, skK_e, gdA_e, skA_e, pkK_e]); simp (maxSteps := 10000000) (disch := omega) only [stOrder, someLt_8, h1, h2, go_sem, ↓reduceIte, Nat.reduceEqDiff, Nat.reduceSub, Nat.reduceLeDiff, Nat.reduceAdd, Int.reduceEq, Int.reduceLT, Int.reduceLE]
    all_goals simp [vOrd, vEq_iff, h1, h2]
end Go.Proofs.Ytmeecblciegkkaa.Fw
namespace Go.Proofs.Ytmeecblciegkkaa.Fw
open Go.RowKit Go.Proofs
/-- a number: the replica and the place -/
def idLt (r : Int) (q : Nat) (r' : Int) (q' : Nat) : Bool := decide (q < q' ∨ q = q' ∧ r < r')
theorem okLess (r : Int) (q : Nat) (r' : Int) (q' : Nat) {h d} : FunOk Try.prog 113 [.vec 2 [.i .i64 r, .i .u32 q], .vec 2 [.i .i64 r', .i .u32 q']] h d (.pv (.b (idLt r q r' q'))) [] := by
  refine fun_pure mixed fn113 (by simp) rfl rfl fun F => ?_
  by_cases h : q = q'
  · subst h
    have e : idLt r q r' q = decide (r < r') := by simp [idLt]
    (try simp only [brK_e, gdK_e, skK_e, gdA_e, skA_e, pkK_e]); simp (maxSteps := 10000000) (disch := omega) only [ir113, e, go_sem, ↓reduceIte, Nat.reduceEqDiff, Nat.reduceSub, Nat.reduceLeDiff, Nat.reduceAdd, Int.reduceEq, Int.reduceLT, Int.reduceLE]
  · have hz : ¬ (q : Int) = (q' : Int) := by omega
    have e : idLt r q r' q' = decide ((q : Int) < (q' : Int)) := by simp [idLt, h]
    (try simp only [brK_e, gdK_e, skK_e, gdA_e, skA_e, pkK_e]); simp (maxSteps := 10000000) (disch := omega) only [ir113, e, go_sem, ↓reduceIte, Nat.reduceEqDiff, Nat.reduceSub, Nat.reduceLeDiff, Nat.reduceAdd, Int.reduceEq, Int.reduceLT, Int.reduceLE]
theorem okLessR (r : Int) (q : Nat) (r' : Int) (q' : Nat) {h d} : FunOk Try.prog 67 [.vec 2 [.i .i64 r, .i .u32 q], .vec 2 [.i .i64 r', .i .u32 q']] h d (.pv (.b (idLt r q r' q'))) [] := by
  refine fun_pure mixed fn67 (by simp) rfl rfl fun F => ?_
  by_cases h : q = q'
  · subst h
    have e : idLt r q r' q = decide (r < r') := by simp [idLt]
    have hl : ¬ (q : Int) < (q : Int) := by omega
    (try simp only [brK_e, gdK_e, skK_e, gdA_e, skA_e, pkK_e]); simp (maxSteps := 10000000) (disch := omega) only [ir67, e, hl, go_sem, ↓reduceIte, Nat.reduceEqDiff, Nat.reduceSub, Nat.reduceLeDiff, Nat.reduceAdd, Int.reduceEq, Int.reduceLT, Int.reduceLE]
  · have hz : ¬ (q : Int) = (q' : Int) := by omega
    have e : idLt r q r' q' = decide ((q : Int) < (q' : Int)) := by simp [idLt, h]
    by_cases hl : (q : Int) < (q' : Int)
    · (try simp only [brK_e, gdK_e, skK_e, gdA_e, skA_e, pkK_e]); simp (maxSteps := 10000000) (disch := omega) only [ir67, e, hl, go_sem, ↓reduceIte, Nat.reduceEqDiff, Nat.reduceSub, Nat.reduceLeDiff, Nat.reduceAdd, Int.reduceEq, Int.reduceLT, Int.reduceLE]
    · (try simp only [brK_e, gdK_e, skK_e, gdA_e, skA_e, pkK_e]); simp (maxSteps := 10000000) (disch := omega) only [ir67, e, hl, go_sem, ↓reduceIte, Nat.reduceEqDiff, Nat.reduceSub, Nat.reduceLeDiff, Nat.reduceAdd, Int.reduceEq, Int.reduceLT, Int.reduceLE]
end Go.Proofs.Ytmeecblciegkkaa.Fw
namespace Go.Proofs.Ytmeecblciegkkaa.Fw
open Go.RowKit Go.Proofs
structure Ver where
  rep : Int
  seq : Nat
  data : List UInt8
  gone : Vc
def verE (v : Ver) : List PV := .i .i64 v.rep :: .i .u32 v.seq :: .s v.data :: vE v.gone
def atL : List Ver → Int → Nat → Nat → Nat × Bool
  | [], _, _, k => (k, false)
  | v :: l, r, q, k => if v.rep = r ∧ v.seq = q then (k, true) else if idLt r q v.rep v.seq = true then (k, false) else atL l r q (k + 1)
theorem ld_verId (v : Ver) (K : KK) : LoadK (some (verE v)) 0 2 true K = K (.vec 2 [.i .i64 v.rep, .i .u32 v.seq]) [] := by
  simp only [LoadK, ldX, eq_iff_iff]
  exact ⟨fun h => h.2.2, fun h => ⟨by simp [verE], .inl trivial, h⟩⟩
theorem ld_ver (v : Ver) (K : KK) : LoadK (some (verE v)) 0 11 true K = K (.vec 11 (verE v)) [] := by
  simp only [LoadK, ldX, eq_iff_iff]
  have e : ((verE v).drop 0).take 11 = verE v := List.take_of_length_le (by simp [verE, vE, arrF])
  rw [e]
  exact ⟨fun h => h.2.2, fun h => ⟨by simp [verE, vE, arrF], .inl trivial, h⟩⟩
theorem fitsId (r : Int) (q : Nat) : fits [K1.int .i64, K1.int .u32] [.i .i64 r, .i .u32 q] = True := eq_true rfl
theorem peqId_t {r r' : Int} {q q' : Nat} (h : r = r' ∧ q = q') : peq [.i .i64 r, .i .u32 q] [.i .i64 r', .i .u32 q'] = true := by
  obtain ⟨rfl, rfl⟩ := h; simp [peq]
theorem peqId_f {r r' : Int} {q q' : Nat} (h : ¬ (r = r' ∧ q = q')) : peq [.i .i64 r, .i .u32 q] [.i .i64 r', .i .u32 q'] = false := by
  simp only [peq, decide_eq_false_iff_not]
  intro e
  simp only [List.cons.injEq, PV.i.injEq, true_and, and_true] at e
  exact h ⟨e.1, by omega⟩
def stAt (f : Bool) (l : List Ver) (r : Int) (q k : Nat) : FS := mk [(10, .pv (.i .i64 k)), (9, .pv (.i .i64 l.length)), (8, .pv (.sl f 11 (l.map verE))), (3, .p 3 0), (0, .pv (.sl f 11 (l.map verE)))] [(3, some (.var (.vec 2 [.i .i64 r, .i .u32 q])))]
set_option maxHeartbeats 1000000 in
theorem okAt {x : SV} {f : Bool} {l : List Ver} (r : Int) (q : Nat) {h d} (hx : lents h [x, .vec 2 [.i .i64 r, .i .u32 q]] = [.pv (.sl f 11 (l.map verE)), .vec 2 [.i .i64 r, .i .u32 q]]) (hl : lendable [x, .vec 2 [.i .i64 r, .i .u32 q]] = true) (hn : l.length ≤ 1000) :
    FunOk Try.prog 63 [x, .vec 2 [.i .i64 r, .i .u32 q]] h d (.tup [.pv (.i .i64 (atL l r q 0).1), .pv (.b (atL l r q 0).2)]) [] := by
  refine fun_scalar mixed fn63 (by simp) hl rfl fun F => ?_
  rw [hx]
  (try simp only [brK_e, gdK_e, skK_e, gdA_e, skA_e, pkK_e]); simp (maxSteps := 10000000) (disch := omega) only [ir63, List.length_map, go_sem, ↓reduceIte, Nat.reduceEqDiff, Nat.reduceSub, Nat.reduceLeDiff, Nat.reduceAdd, Int.reduceEq, Int.reduceLT, Int.reduceLE]
  refine loop_ok mixed (stAt f l r q) (fun k => k ≤ l.length ∧ atL l r q 0 = atL (l.drop k) r q k) (fun k => l.length - k) 0 (by simp) (weak_mk ?_ ?_) fun k hk => ?_
  · (try simp only [brK_e, gdK_e, skK_e, gdA_e, skA_e, pkK_e]); simp (maxSteps := 10000000) (disch := omega) only [go_sem, ↓reduceIte, Nat.reduceEqDiff, Nat.reduceSub, Nat.reduceLeDiff, Nat.reduceAdd, Int.reduceEq, Int.reduceLT, Int.reduceLE]
  · (try simp only [brK_e, gdK_e, skK_e, gdA_e, skA_e, pkK_e]); simp (maxSteps := 10000000) (disch := omega) only [go_sem, ↓reduceIte, Nat.reduceEqDiff, Nat.reduceSub, Nat.reduceLeDiff, Nat.reduceAdd, Int.reduceEq, Int.reduceLT, Int.reduceLE]
  obtain ⟨hk1, hk2⟩ := hk
  by_cases hlt : k < l.length
  · have hd : l.drop k = l[k] :: l.drop (k + 1) := List.drop_eq_getElem_cons hlt
    have he : (l.map verE)[k]? = some (verE l[k]) := by simp [hlt]
    rw [hd] at hk2
    generalize l[k] = v at *
    simp only [atL] at hk2
    by_cases hid : v.rep = r ∧ v.seq = q
    · rw [if_pos hid] at hk2
      have hp := peqId_t hid
      (try simp only [brK_e, gdK_e, skK_e, gdA_e, skA_e, pkK_e]); simp (maxSteps := 10000000) (disch := omega) only [stAt, List.length_map, he, ld_ver, ld_verId, fitsId, hp, hk2, go_sem, ↓reduceIte, Nat.reduceEqDiff, Nat.reduceSub, Nat.reduceLeDiff, Nat.reduceAdd, Int.reduceEq, Int.reduceLT, Int.reduceLE]
    · rw [if_neg hid] at hk2
      have hp := peqId_f hid
      (try simp only [brK_e, gdK_e, skK_e, gdA_e, skA_e, pkK_e]); simp (maxSteps := 10000000) (disch := omega) only [stAt, List.length_map, he, ld_ver, ld_verId, fitsId, hp, go_sem, ↓reduceIte, Nat.reduceEqDiff, Nat.reduceSub, Nat.reduceLeDiff, Nat.reduceAdd, Int.reduceEq, Int.reduceLT, Int.reduceLE]
      refine call_with (okLess _ _ _ _) ?_
      by_cases hl : idLt r q v.rep v.seq = true
      · rw [if_pos hl] at hk2
        (try simp only [brK_e, gdK_e, skK_e, gdA_e, skA_e, pkK_e]); simp (maxSteps := 10000000) (disch := omega) only [hl, hk2, go_sem, ↓reduceIte, Nat.reduceEqDiff, Nat.reduceSub, Nat.reduceLeDiff, Nat.reduceAdd, Int.reduceEq, Int.reduceLT, Int.reduceLE]
      · rw [if_neg hl] at hk2
        have hl' : idLt r q v.rep v.seq = false := by simpa using hl
        (try simp only [brK_e, gdK_e, skK_e, gdA_e, skA_e, pkK_e]); simp (maxSteps := 10000000) (disch := omega) only [hl', go_sem, ↓reduceIte, Nat.reduceEqDiff, Nat.reduceSub, Nat.reduceLeDiff, Nat.reduceAdd, Int.reduceEq, Int.reduceLT, Int.reduceLE]
        refine loop_next (k + 1) _ _ rfl ⟨by omega, hk2⟩ (by omega) ?_ ?_
        · (try simp only [brK_e, gdK_e, skK_e, gdA_e, skA_e, pkK_e]); simp (maxSteps := 10000000) (disch := omega) only [List.length_map, go_sem, ↓reduceIte, Nat.reduceEqDiff, Nat.reduceSub, Nat.reduceLeDiff, Nat.reduceAdd, Int.reduceEq, Int.reduceLT, Int.reduceLE]
        · (try simp only [brK_e, gdK_e, skK_e, gdA_e, skA_e, pkK_e]); simp (maxSteps := 10000000) (disch := omega) only [go_sem, ↓reduceIte, Nat.reduceEqDiff, Nat.reduceSub, Nat.reduceLeDiff, Nat.reduceAdd, Int.reduceEq, Int.reduceLT, Int.reduceLE]
  · have : k = l.length := by omega
    subst this
    rw [List.drop_length] at hk2
    simp only [atL] at hk2
    rw [hk2]
    (try simp only [brK_e, gdK_e, skK_e, gdA_e, skA_e, pkK_e]); simp (maxSteps := 10000000) (disch := omega) only [stAt, List.length_map, go_sem, ↓reduceIte, Nat.reduceEqDiff, Nat.reduceSub, Nat.reduceLeDiff, Nat.reduceAdd, Int.reduceEq, Int.reduceLT, Int.reduceLE]
end Go.Proofs.Ytmeecblciegkkaa.Fw
namespace Go.Proofs.Ytmeecblciegkkaa.Fw
open Go.RowKit Go.Proofs
def withV (v : Vc) (r : Int) (q : Nat) : Vc := if 1 ≤ r ∧ r ≤ 8 then setV v (r - 1).toNat (max (v (r - 1).toNat) q) else v
set_option maxHeartbeats 1000000 in
theorem okWith (v : Vc) (r : Int) (q : Nat) {h d} : FunOk Try.prog 64 [.vec 8 (vE v), .vec 2 [.i .i64 r, .i .u32 q]] h d (.vec 8 (vE (withV v r q))) [] := by
  refine fun_pure mixed fn64 (by simp) rfl rfl fun F => ?_
  by_cases h1 : 1 ≤ r
  · by_cases h2 : r ≤ 8
    · have e : withV v r q = setV v (r - 1).toNat (max (v (r - 1).toNat) q) := by unfold withV; rw [if_pos ⟨h1, h2⟩]
      obtain ⟨k, rfl⟩ : ∃ k : Nat, r = (k : Int) + 1 := ⟨(r - 1).toNat, by omega⟩
      have ek : ((k : Int) + 1 - 1) = (k : Int) := by omega
      rw [ek, Int.toNat_natCast] at e
      rw [e]
      (try simp only [brK_e, gdK_e, skK_e, gdA_e, skA_e, pkK_e]); simp (maxSteps := 10000000) (disch := omega) only [ir64, ek, go_sem, ↓reduceIte, Nat.reduceEqDiff, Nat.reduceSub, Nat.reduceLeDiff, Nat.reduceAdd, Int.reduceEq, Int.reduceLT, Int.reduceLE]
    · have e : withV v r q = v := by unfold withV; rw [if_neg (by omega)]
      rw [e]
      (try simp only [brK_e, gdK_e, skK_e, gdA_e, skA_e, pkK_e]); simp (maxSteps := 10000000) (disch := omega) only [ir64, go_sem, ↓reduceIte, Nat.reduceEqDiff, Nat.reduceSub, Nat.reduceLeDiff, Nat.reduceAdd, Int.reduceEq, Int.reduceLT, Int.reduceLE]
  · have e : withV v r q = v := by unfold withV; rw [if_neg (by omega)]
    rw [e]
    (try simp only [brK_e, gdK_e, skK_e, gdA_e, skA_e, pkK_e]); simp (maxSteps := 10000000) (disch := omega) only [ir64, go_sem, ↓reduceIte, Nat.reduceEqDiff, Nat.reduceSub, Nat.reduceLeDiff, Nat.reduceAdd, Int.reduceEq, Int.reduceLT, Int.reduceLE]
def stJoinR (a b : Vc) (k : Nat) : FS := mk [(6, .pv (.i .i64 k)), (5, .p 5 0), (4, .p 4 0), (3, .p 3 0), (2, .p 2 0)] [(2, some (.var (.vec 8 (vE a)))), (3, some (.var (.vec 8 (vE b)))), (5, some (.var (.vec 8 (vE fun i => if i < k then vJoin a b i else 0)))), (4, some (.var (.vec 8 (vE fun _ => 0))))]
theorem okJoinR (a b : Vc) {h d} : FunOk Try.prog 116 [.vec 8 (vE a), .vec 8 (vE b)] h d (.vec 8 (vE (vJoin a b))) [] := by
  refine fun_pure mixed fn116 (by simp) rfl rfl fun F => ?_
  (try simp only [brK_e, gdK_e, skK_e, gdA_e, skA_e, pkK_e]); simp (maxSteps := 10000000) (disch := omega) only [ir116, go_sem, ↓reduceIte, Nat.reduceEqDiff, Nat.reduceSub, Nat.reduceLeDiff, Nat.reduceAdd, Int.reduceEq, Int.reduceLT, Int.reduceLE]
  refine loop_ok mixed (stJoinR a b) (fun k => k ≤ 8) (fun k => 8 - k) 0 (by simp) (weak_mk ?_ ?_) fun k hk => ?_
  · (try simp only [brK_e, gdK_e, skK_e, gdA_e, skA_e, pkK_e]); simp (maxSteps := 10000000) (disch := omega) only [go_sem, ↓reduceIte, Nat.reduceEqDiff, Nat.reduceSub, Nat.reduceLeDiff, Nat.reduceAdd, Int.reduceEq, Int.reduceLT, Int.reduceLE]
  · (try simp only [brK_e, gdK_e, skK_e, gdA_e, skA_e, pkK_e]); simp (maxSteps := 10000000) (disch := omega) only [vE_none, go_sem, ↓reduceIte, Nat.reduceEqDiff, Nat.reduceSub, Nat.reduceLeDiff, Nat.reduceAdd, Int.reduceEq, Int.reduceLT, Int.reduceLE]
  by_cases hlt : k < 8
  · by_cases hc : a k < b k
    · (try simp only [brK_e, gdK_e, skK_e, gdA_e, skA_e, pkK_e]); simp (maxSteps := 10000000) (disch := omega) only [stJoinR, go_sem, ↓reduceIte, Nat.reduceEqDiff, Nat.reduceSub, Nat.reduceLeDiff, Nat.reduceAdd, Int.reduceEq, Int.reduceLT, Int.reduceLE]
      refine loop_next (k + 1) _ _ rfl (by omega) (by omega) ?_ ?_
      · (try simp only [brK_e, gdK_e, skK_e, gdA_e, skA_e, pkK_e]); simp (maxSteps := 10000000) (disch := omega) only [go_sem, ↓reduceIte, Nat.reduceEqDiff, Nat.reduceSub, Nat.reduceLeDiff, Nat.reduceAdd, Int.reduceEq, Int.reduceLT, Int.reduceLE]
      · (try simp only [brK_e, gdK_e, skK_e, gdA_e, skA_e, pkK_e]); simp (maxSteps := 10000000) (disch := omega) only [go_sem, ↓reduceIte, Nat.reduceEqDiff, Nat.reduceSub, Nat.reduceLeDiff, Nat.reduceAdd, Int.reduceEq, Int.reduceLT, Int.reduceLE]
        exact imp_vec (vE_ext fun i hi => by simp only [setV, vJoin]; grind)
    · (try simp only [brK_e, gdK_e, skK_e, gdA_e, skA_e, pkK_e]); simp (maxSteps := 10000000) (disch := omega) only [stJoinR, go_sem, ↓reduceIte, Nat.reduceEqDiff, Nat.reduceSub, Nat.reduceLeDiff, Nat.reduceAdd, Int.reduceEq, Int.reduceLT, Int.reduceLE]
      refine loop_next (k + 1) _ _ rfl (by omega) (by omega) ?_ ?_
      · (try simp only [brK_e, gdK_e, skK_e, gdA_e, skA_e, pkK_e]); simp (maxSteps := 10000000) (disch := omega) only [go_sem, ↓reduceIte, Nat.reduceEqDiff, Nat.reduceSub, Nat.reduceLeDiff, Nat.reduceAdd, Int.reduceEq, Int.reduceLT, Int.reduceLE]
      · (try simp only [brK_e, gdK_e, skK_e, gdA_e, skA_e, pkK_e]); simp (maxSteps := 10000000) (disch := omega) only [go_sem, ↓reduceIte, Nat.reduceEqDiff, Nat.reduceSub, Nat.reduceLeDiff, Nat.reduceAdd, Int.reduceEq, Int.reduceLT, Int.reduceLE]
        exact imp_vec (vE_ext fun i hi => by simp only [setV, vJoin]; grind)
  · (try simp only [brK_e, gdK_e, skK_e, gdA_e, skA_e, pkK_e]); simp (maxSteps := 10000000) (disch := omega) only [stJoinR, vE_all, go_sem, ↓reduceIte, Nat.reduceEqDiff, Nat.reduceSub, Nat.reduceLeDiff, Nat.reduceAdd, Int.reduceEq, Int.reduceLT, Int.reduceLE]
def oneV (r : Int) (q : Nat) : Vc := fun i => if (i : Int) + 1 = r then q else 0
def stOneR (r : Int) (q k : Nat) : FS := mk [(4, .pv (.i .i64 k)), (3, .p 3 0), (2, .p 2 0), (1, .p 1 0)] [(1, some (.var (.vec 2 [.i .i64 r, .i .u32 q]))), (3, some (.var (.vec 8 (vE fun i => if i < k then oneV r q i else 0)))), (2, some (.var (.vec 8 (vE fun _ => 0))))]
theorem okOneR (r : Int) (q : Nat) {h d} : FunOk Try.prog 117 [.vec 2 [.i .i64 r, .i .u32 q]] h d (.vec 8 (vE (oneV r q))) [] := by
  refine fun_pure mixed fn117 (by simp) rfl rfl fun F => ?_
  (try simp only [brK_e, gdK_e, skK_e, gdA_e, skA_e, pkK_e]); simp (maxSteps := 10000000) (disch := omega) only [ir117, go_sem, ↓reduceIte, Nat.reduceEqDiff, Nat.reduceSub, Nat.reduceLeDiff, Nat.reduceAdd, Int.reduceEq, Int.reduceLT, Int.reduceLE]
  refine loop_ok mixed (stOneR r q) (fun k => k ≤ 8) (fun k => 8 - k) 0 (by simp) (weak_mk ?_ ?_) fun k hk => ?_
  · (try simp only [brK_e, gdK_e, skK_e, gdA_e, skA_e, pkK_e]); simp (maxSteps := 10000000) (disch := omega) only [go_sem, ↓reduceIte, Nat.reduceEqDiff, Nat.reduceSub, Nat.reduceLeDiff, Nat.reduceAdd, Int.reduceEq, Int.reduceLT, Int.reduceLE]
  · (try simp only [brK_e, gdK_e, skK_e, gdA_e, skA_e, pkK_e]); simp (maxSteps := 10000000) (disch := omega) only [vE_none, go_sem, ↓reduceIte, Nat.reduceEqDiff, Nat.reduceSub, Nat.reduceLeDiff, Nat.reduceAdd, Int.reduceEq, Int.reduceLT, Int.reduceLE]
  by_cases hlt : k < 8
  · by_cases hc : (k : Int) + 1 = r
    · (try simp only [brK_e, gdK_e, skK_e, gdA_e, skA_e, pkK_e]); simp (maxSteps := 10000000) (disch := omega) only [stOneR, hc, go_sem, ↓reduceIte, Nat.reduceEqDiff, Nat.reduceSub, Nat.reduceLeDiff, Nat.reduceAdd, Int.reduceEq, Int.reduceLT, Int.reduceLE]
      refine loop_next (k + 1) _ _ rfl (by omega) (by omega) ?_ ?_
      · (try simp only [brK_e, gdK_e, skK_e, gdA_e, skA_e, pkK_e]); simp (maxSteps := 10000000) (disch := omega) only [go_sem, ↓reduceIte, Nat.reduceEqDiff, Nat.reduceSub, Nat.reduceLeDiff, Nat.reduceAdd, Int.reduceEq, Int.reduceLT, Int.reduceLE]
      · (try simp only [brK_e, gdK_e, skK_e, gdA_e, skA_e, pkK_e]); simp (maxSteps := 10000000) (disch := omega) only [go_sem, ↓reduceIte, Nat.reduceEqDiff, Nat.reduceSub, Nat.reduceLeDiff, Nat.reduceAdd, Int.reduceEq, Int.reduceLT, Int.reduceLE]
        exact imp_vec (vE_ext fun i hi => by simp only [setV, oneV]; grind)
    · (try simp only [brK_e, gdK_e, skK_e, gdA_e, skA_e, pkK_e]); simp (maxSteps := 10000000) (disch := omega) only [stOneR, hc, go_sem, ↓reduceIte, Nat.reduceEqDiff, Nat.reduceSub, Nat.reduceLeDiff, Nat.reduceAdd, Int.reduceEq, Int.reduceLT, Int.reduceLE]
      refine loop_next (k + 1) _ _ rfl (by omega) (by omega) ?_ ?_
      · (try simp only [brK_e, gdK_e, skK_e, gdA_e, skA_e, pkK_e]); simp (maxSteps := 10000000) (disch := omega) only [go_sem, ↓reduceIte, Nat.reduceEqDiff, Nat.reduceSub, Nat.reduceLeDiff, Nat.reduceAdd, Int.reduceEq, Int.reduceLT, Int.reduceLE]
      · (try simp only [brK_e, gdK_e, skK_e, gdA_e, skA_e, pkK_e]); simp (maxSteps := 10000000) (disch := omega) only [go_sem, ↓reduceIte, Nat.reduceEqDiff, Nat.reduceSub, Nat.reduceLeDiff, Nat.reduceAdd, Int.reduceEq, Int.reduceLT, Int.reduceLE]
        exact imp_vec (vE_ext fun i hi => by simp only [setV, oneV]; grind)
  · (try simp only [brK_e, gdK_e, skK_e, gdA_e, skA_e, pkK_e]); simp (maxSteps := 10000000) (disch := omega) only [stOneR, vE_all, go_sem, ↓reduceIte, Nat.reduceEqDiff, Nat.reduceSub, Nat.reduceLeDiff, Nat.reduceAdd, Int.reduceEq, Int.reduceLT, Int.reduceLE]
theorem okWithR (v : Vc) (r : Int) (q : Nat) {h d} : FunOk Try.prog 68 [.vec 8 (vE v), .vec 2 [.i .i64 r, .i .u32 q]] h d (.vec 8 (vE (vJoin v (oneV r q)))) [] := by
  refine fun_pure mixed fn68 (by simp) rfl rfl fun F => ?_
  (try simp only [brK_e, gdK_e, skK_e, gdA_e, skA_e, pkK_e]); simp (maxSteps := 10000000) (disch := omega) only [ir68, go_sem, ↓reduceIte, Nat.reduceEqDiff, Nat.reduceSub, Nat.reduceLeDiff, Nat.reduceAdd, Int.reduceEq, Int.reduceLT, Int.reduceLE]
  refine call_with (okOneR _ _) ?_
  (try simp only [brK_e, gdK_e, skK_e, gdA_e, skA_e, pkK_e]); simp (maxSteps := 10000000) (disch := omega) only [go_sem, ↓reduceIte, Nat.reduceEqDiff, Nat.reduceSub, Nat.reduceLeDiff, Nat.reduceAdd, Int.reduceEq, Int.reduceLT, Int.reduceLE]
  refine call_with (okJoinR _ _) ?_
  (try simp only [brK_e, gdK_e, skK_e, gdA_e, skA_e, pkK_e]); simp (maxSteps := 10000000) (disch := omega) only [go_sem, ↓reduceIte, Nat.reduceEqDiff, Nat.reduceSub, Nat.reduceLeDiff, Nat.reduceAdd, Int.reduceEq, Int.reduceLT, Int.reduceLE]
theorem with_one (v : Vc) (r : Int) (q : Nat) : ∀ i, i < 8 → withV v r q i = vJoin v (oneV r q) i := by
  intro i hi
  unfold withV
  split
  · simp only [setV, vJoin, oneV]; grind
  · simp only [vJoin, oneV]; grind
end Go.Proofs.Ytmeecblciegkkaa.Fw
namespace Go.Proofs.Ytmeecblciegkkaa.Fw
open Go.RowKit Go.Proofs
theorem ld_verBy (v : Ver) (K : KK) : LoadK (some (verE v)) 3 8 true K = K (.vec 8 (vE v.gone)) [] := by
  simp only [LoadK, ldX, eq_iff_iff]
  have e : ((verE v).drop 3).take 8 = vE v.gone := List.take_of_length_le (by simp [verE, vE, arrF])
  rw [e]
  exact ⟨fun h => h.2.2, fun h => ⟨by simp [verE, vE, arrF], .inl trivial, h⟩⟩
theorem okHead (v : Ver) {h d} : FunOk Try.prog 32 [.vec 11 (verE v)] h d (.pv (.b (decide (vEq v.gone fun _ => 0)))) [] := by
  refine fun_pure mixed fn32 (by simp) rfl rfl fun F => ?_
  (try simp only [brK_e, gdK_e, skK_e, gdA_e, skA_e, pkK_e]); simp (maxSteps := 10000000) (disch := omega) only [ir32, ld_verBy, go_sem, ↓reduceIte, Nat.reduceEqDiff, Nat.reduceSub, Nat.reduceLeDiff, Nat.reduceAdd, Int.reduceEq, Int.reduceLT, Int.reduceLE]
def headP (v : Ver) : Bool := decide (vEq v.gone fun _ => 0)
theorem verE_len (v : Ver) : (verE v).length = 11 := by simp [verE, vE, arrF]
theorem verE_flat (l : List Ver) : ∀ c ∈ l.map verE, c.all PV.flat = true := by
  intro c hc
  obtain ⟨v, _, rfl⟩ := List.mem_map.1 hc
  simp [verE, vE, arrF, PV.flat]
def stHeads (f : Bool) (l : List Ver) (k : Nat) : FS := mk [(8, .pv (.i .i64 k)), (7, .pv (.i .i64 l.length)), (6, .pv (.sl f 11 (l.map verE))), (3, .os 40)] [(40, some (.row 11 (((l.take k).filter headP).map verE)))]
set_option maxHeartbeats 1000000 in
theorem okHeads {x : SV} {f : Bool} {l : List Ver} {h d} (hx : lents h [x] = [.pv (.sl f 11 (l.map verE))]) (hl : lendable [x] = true) (hn : l.length ≤ 1000) :
    FunOk Try.prog 24 [x] h d (.os d) [.new d (.row 11 ((l.filter headP).map verE))] := by
  refine fun_row mixed fn24 (by simp) hl (.inr (verE_flat _)) fun F => ?_
  rw [hx]
  (try simp only [brK_e, gdK_e, skK_e, gdA_e, skA_e, pkK_e]); simp (maxSteps := 10000000) (disch := omega) only [ir24, List.length_map, go_sem, ↓reduceIte, Nat.reduceEqDiff, Nat.reduceSub, Nat.reduceLeDiff, Nat.reduceAdd, Int.reduceEq, Int.reduceLT, Int.reduceLE]
  refine loop_ok mixed (stHeads f l) (fun k => k ≤ l.length) (fun k => l.length - k) 0 (by simp) (wk_nil 3 40 11 rfl (by omega) (weak_mk ?_ ?_)) fun k hk => ?_
  · (try simp only [brK_e, gdK_e, skK_e, gdA_e, skA_e, pkK_e]); simp (maxSteps := 10000000) (disch := omega) only [go_sem, ↓reduceIte, Nat.reduceEqDiff, Nat.reduceSub, Nat.reduceLeDiff, Nat.reduceAdd, Int.reduceEq, Int.reduceLT, Int.reduceLE]
  · (try simp only [brK_e, gdK_e, skK_e, gdA_e, skA_e, pkK_e]); simp (maxSteps := 10000000) (disch := omega) only [go_sem, ↓reduceIte, Nat.reduceEqDiff, Nat.reduceSub, Nat.reduceLeDiff, Nat.reduceAdd, Int.reduceEq, Int.reduceLT, Int.reduceLE]
    rfl
  by_cases hlt : k < l.length
  · have he : (l.map verE)[k]? = some (verE l[k]) := by simp [hlt]
    have ht : l.take (k + 1) = l.take k ++ [l[k]] := by rw [List.take_add_one, List.getElem?_eq_getElem hlt]; rfl
    have hb : ((l.take k).filter headP).length ≤ k := Nat.le_trans (List.length_filter_le _ _) (by simp; omega)
    generalize l[k] = v at *
    (try simp only [brK_e, gdK_e, skK_e, gdA_e, skA_e, pkK_e]); simp (maxSteps := 10000000) (disch := omega) only [stHeads, List.length_map, he, ld_ver, go_sem, ↓reduceIte, Nat.reduceEqDiff, Nat.reduceSub, Nat.reduceLeDiff, Nat.reduceAdd, Int.reduceEq, Int.reduceLT, Int.reduceLE]
    refine call_with (okHead v) ?_
    have hv := verE_len v
    by_cases hp : vEq v.gone fun _ => 0
    · have hh : headP v = true := by simp [headP, hp]
      (try simp only [brK_e, gdK_e, skK_e, gdA_e, skA_e, pkK_e]); simp (maxSteps := 10000000) (disch := omega) only [hp, ld_ver, hv, List.length_map, go_sem, ↓reduceIte, Nat.reduceEqDiff, Nat.reduceSub, Nat.reduceLeDiff, Nat.reduceAdd, Int.reduceEq, Int.reduceLT, Int.reduceLE]
      refine ⟨k + 1, by omega, by omega, wk_ren 17 40 (by decide) rfl (weak_mk ?_ ?_)⟩
      · (try simp only [brK_e, gdK_e, skK_e, gdA_e, skA_e, pkK_e]); simp (maxSteps := 10000000) (disch := omega) only [List.length_map, go_sem, ↓reduceIte, Nat.reduceEqDiff, Nat.reduceSub, Nat.reduceLeDiff, Nat.reduceAdd, Int.reduceEq, Int.reduceLT, Int.reduceLE]
      · (try simp only [brK_e, gdK_e, skK_e, gdA_e, skA_e, pkK_e]); simp (maxSteps := 10000000) (disch := omega) only [ht, List.filter_append, hh, List.map_append, go_sem, ↓reduceIte, Nat.reduceEqDiff, Nat.reduceSub, Nat.reduceLeDiff, Nat.reduceAdd, Int.reduceEq, Int.reduceLT, Int.reduceLE]
        simp [hh]
    · have hh : headP v = false := by simp [headP, hp]
      (try simp only [brK_e, gdK_e, skK_e, gdA_e, skA_e, pkK_e]); simp (maxSteps := 10000000) (disch := omega) only [hp, go_sem, ↓reduceIte, Nat.reduceEqDiff, Nat.reduceSub, Nat.reduceLeDiff, Nat.reduceAdd, Int.reduceEq, Int.reduceLT, Int.reduceLE]
      refine loop_next (k + 1) _ _ rfl (by omega) (by omega) ?_ ?_
      · (try simp only [brK_e, gdK_e, skK_e, gdA_e, skA_e, pkK_e]); simp (maxSteps := 10000000) (disch := omega) only [List.length_map, go_sem, ↓reduceIte, Nat.reduceEqDiff, Nat.reduceSub, Nat.reduceLeDiff, Nat.reduceAdd, Int.reduceEq, Int.reduceLT, Int.reduceLE]
      · (try simp only [brK_e, gdK_e, skK_e, gdA_e, skA_e, pkK_e]); simp (maxSteps := 10000000) (disch := omega) only [ht, List.filter_append, hh, List.map_append, go_sem, ↓reduceIte, Nat.reduceEqDiff, Nat.reduceSub, Nat.reduceLeDiff, Nat.reduceAdd, Int.reduceEq, Int.reduceLT, Int.reduceLE]
        simp [hh]
  · obtain rfl : k = l.length := by omega
    have e := List.take_length (l := l)
    (try simp only [brK_e, gdK_e, skK_e, gdA_e, skA_e, pkK_e]); simp (maxSteps := 10000000) (disch := omega) only [stHeads, List.length_map, e, go_sem, ↓reduceIte, Nat.reduceEqDiff, Nat.reduceSub, Nat.reduceLeDiff, Nat.reduceAdd, Int.reduceEq, Int.reduceLT, Int.reduceLE]
end Go.Proofs.Ytmeecblciegkkaa.Fw
namespace Go.Proofs.Ytmeecblciegkkaa.Fw
open Go.RowKit Go.Proofs
theorem seg_by (v : Vc) (i : Nat) (hi : i < 8) : (vE v)[i]? = some (.i .u32 (v i)) := by
  have : i = 0 ∨ i = 1 ∨ i = 2 ∨ i = 3 ∨ i = 4 ∨ i = 5 ∨ i = 6 ∨ i = 7 := by omega
  rcases this with rfl | rfl | rfl | rfl | rfl | rfl | rfl | rfl <;> rfl
def entSV (v : Vc) : SV := .agg [.pv (.i .i64 0), .pv (.i .u32 0), .pv (.i .i64 0), .pv (.i .u32 0), .pv (.s []), .pv (.i .i64 0), .pv (.i .u32 0), .vec 8 (vE v)]
theorem ld_ent (v : Vc) {k : Nat} (hk : k < 8) (K : KK) : LoadK (some (PV.i IntKind.i64 0 :: PV.i IntKind.u32 0 :: PV.i IntKind.i64 0 :: PV.i IntKind.u32 0 :: PV.s [] :: PV.i IntKind.i64 0 :: PV.i IntKind.u32 0 :: vE v)) (7 + k) 1 false K = K (.pv (.i .u32 (v k))) [] := by
  have : k = 0 ∨ k = 1 ∨ k = 2 ∨ k = 3 ∨ k = 4 ∨ k = 5 ∨ k = 6 ∨ k = 7 := by omega
  simp only [LoadK, eq_iff_iff]
  have hl : (PV.i IntKind.i64 0 :: PV.i IntKind.u32 0 :: PV.i IntKind.i64 0 :: PV.i IntKind.u32 0 :: PV.s [] :: PV.i IntKind.i64 0 :: PV.i IntKind.u32 0 :: vE v).length = 15 := rfl
  rcases this with rfl | rfl | rfl | rfl | rfl | rfl | rfl | rfl <;> exact ⟨fun h => h.2.2, fun h => ⟨by rw [hl]; omega, .inr trivial, h⟩⟩
def stAlive (v : Vc) (k : Nat) : FS := mk [(3, .pv (.i .i64 k)), (1, .p 1 0)] [(1, some (.var (entSV v)))]
theorem okAliveR (v : Vc) {h d} : FunOk Try.prog 69 [entSV v] h d (.pv (.b (decide (vEq v fun _ => 0)))) [] := by
  refine fun_pure mixed fn69 (by simp) rfl rfl fun F => ?_
  (try simp only [brK_e, gdK_e, skK_e, gdA_e, skA_e, pkK_e]); simp (maxSteps := 10000000) (disch := omega) only [ir69, entSV, go_sem, ↓reduceIte, Nat.reduceEqDiff, Nat.reduceSub, Nat.reduceLeDiff, Nat.reduceAdd, Int.reduceEq, Int.reduceLT, Int.reduceLE]
  refine loop_ok mixed (stAlive v) (fun k => k ≤ 8 ∧ ∀ i, i < k → v i = 0) (fun k => 8 - k) 0 (by simp) (weak_mk ?_ ?_) fun k hk => ?_
  · (try simp only [brK_e, gdK_e, skK_e, gdA_e, skA_e, pkK_e]); simp (maxSteps := 10000000) (disch := omega) only [go_sem, ↓reduceIte, Nat.reduceEqDiff, Nat.reduceSub, Nat.reduceLeDiff, Nat.reduceAdd, Int.reduceEq, Int.reduceLT, Int.reduceLE]
  · (try simp only [brK_e, gdK_e, skK_e, gdA_e, skA_e, pkK_e]); simp (maxSteps := 10000000) (disch := omega) only [entSV, go_sem, ↓reduceIte, Nat.reduceEqDiff, Nat.reduceSub, Nat.reduceLeDiff, Nat.reduceAdd, Int.reduceEq, Int.reduceLT, Int.reduceLE]
  obtain ⟨hk1, hk2⟩ := hk
  by_cases hlt : k < 8
  · by_cases hc : v k = 0
    · have hl := ld_ent v hlt
      rw [hc] at hl
      (try simp only [brK_e, gdK_e, skK_e, gdA_e, skA_e, pkK_e]); simp (maxSteps := 10000000) (disch := omega) only [stAlive, entSV, hl, go_sem, ↓reduceIte, Nat.reduceEqDiff, Nat.reduceSub, Nat.reduceLeDiff, Nat.reduceAdd, Int.reduceEq, Int.reduceLT, Int.reduceLE]
      refine loop_next (k + 1) _ _ rfl ⟨by omega, fun i hi => ?_⟩ (by omega) ?_ ?_
      · rcases Nat.lt_succ_iff_lt_or_eq.1 hi with h | rfl
        · exact hk2 i h
        · exact hc
      · (try simp only [brK_e, gdK_e, skK_e, gdA_e, skA_e, pkK_e]); simp (maxSteps := 10000000) (disch := omega) only [go_sem, ↓reduceIte, Nat.reduceEqDiff, Nat.reduceSub, Nat.reduceLeDiff, Nat.reduceAdd, Int.reduceEq, Int.reduceLT, Int.reduceLE]
      · (try simp only [brK_e, gdK_e, skK_e, gdA_e, skA_e, pkK_e]); simp (maxSteps := 10000000) (disch := omega) only [entSV, go_sem, ↓reduceIte, Nat.reduceEqDiff, Nat.reduceSub, Nat.reduceLeDiff, Nat.reduceAdd, Int.reduceEq, Int.reduceLT, Int.reduceLE]
    · have hl := ld_ent v hlt
      have hz : ¬ (v k : Int) = 0 := by omega
      have he : ¬ vEq v fun _ => 0 := fun h => hc (h k hlt)
      (try simp only [brK_e, gdK_e, skK_e, gdA_e, skA_e, pkK_e]); simp (maxSteps := 10000000) (disch := omega) only [stAlive, entSV, hl, he, go_sem, ↓reduceIte, Nat.reduceEqDiff, Nat.reduceSub, Nat.reduceLeDiff, Nat.reduceAdd, Int.reduceEq, Int.reduceLT, Int.reduceLE]
  · have he : vEq v fun _ => 0 := fun i hi => hk2 i (by omega)
    (try simp only [brK_e, gdK_e, skK_e, gdA_e, skA_e, pkK_e]); simp (maxSteps := 10000000) (disch := omega) only [stAlive, entSV, he, go_sem, ↓reduceIte, Nat.reduceEqDiff, Nat.reduceSub, Nat.reduceLeDiff, Nat.reduceAdd, Int.reduceEq, Int.reduceLT, Int.reduceLE]
theorem okHeadR (v : Ver) {h d} : FunOk Try.prog 33 [.vec 11 (verE v)] h d (.pv (.b (headP v))) [] := by
  refine fun_pure mixed fn33 (by simp) rfl rfl fun F => ?_
  (try simp only [brK_e, gdK_e, skK_e, gdA_e, skA_e, pkK_e]); simp (maxSteps := 10000000) (disch := omega) only [ir33, ld_verBy, go_sem, ↓reduceIte, Nat.reduceEqDiff, Nat.reduceSub, Nat.reduceLeDiff, Nat.reduceAdd, Int.reduceEq, Int.reduceLT, Int.reduceLE]
  refine call_with (okAliveR v.gone) ?_
  (try simp only [brK_e, gdK_e, skK_e, gdA_e, skA_e, pkK_e]); simp (maxSteps := 10000000) (disch := omega) only [headP, go_sem, ↓reduceIte, Nat.reduceEqDiff, Nat.reduceSub, Nat.reduceLeDiff, Nat.reduceAdd, Int.reduceEq, Int.reduceLT, Int.reduceLE]
def stHeadsR (f : Bool) (l : List Ver) (k : Nat) : FS := mk [(4, .pv (.i .i64 k)), (0, .pv (.sl f 11 (l.map verE))), (3, .os 40)] [(40, some (.row 11 (((l.take k).filter headP).map verE)))]
set_option maxHeartbeats 1000000 in
theorem okHeadsR {x : SV} {f : Bool} {l : List Ver} {h d} (hx : lents h [x] = [.pv (.sl f 11 (l.map verE))]) (hl : lendable [x] = true) (hn : l.length ≤ 1000) :
    FunOk Try.prog 31 [x] h d (.os d) [.new d (.row 11 ((l.filter headP).map verE))] := by
  refine fun_row mixed fn31 (by simp) hl (.inr (verE_flat _)) fun F => ?_
  rw [hx]
  (try simp only [brK_e, gdK_e, skK_e, gdA_e, skA_e, pkK_e]); simp (maxSteps := 10000000) (disch := omega) only [ir31, List.length_map, go_sem, ↓reduceIte, Nat.reduceEqDiff, Nat.reduceSub, Nat.reduceLeDiff, Nat.reduceAdd, Int.reduceEq, Int.reduceLT, Int.reduceLE]
  refine loop_ok mixed (stHeadsR f l) (fun k => k ≤ l.length) (fun k => l.length - k) 0 (by simp) (wk_nil 3 40 11 rfl (by omega) (weak_mk ?_ ?_)) fun k hk => ?_
  · (try simp only [brK_e, gdK_e, skK_e, gdA_e, skA_e, pkK_e]); simp (maxSteps := 10000000) (disch := omega) only [go_sem, ↓reduceIte, Nat.reduceEqDiff, Nat.reduceSub, Nat.reduceLeDiff, Nat.reduceAdd, Int.reduceEq, Int.reduceLT, Int.reduceLE]
  · (try simp only [brK_e, gdK_e, skK_e, gdA_e, skA_e, pkK_e]); simp (maxSteps := 10000000) (disch := omega) only [go_sem, ↓reduceIte, Nat.reduceEqDiff, Nat.reduceSub, Nat.reduceLeDiff, Nat.reduceAdd, Int.reduceEq, Int.reduceLT, Int.reduceLE]
    rfl
  by_cases hlt : k < l.length
  · have he : (l.map verE)[k]? = some (verE l[k]) := by simp [hlt]
    have ht : l.take (k + 1) = l.take k ++ [l[k]] := by rw [List.take_add_one, List.getElem?_eq_getElem hlt]; rfl
    have hb : ((l.take k).filter headP).length ≤ k := Nat.le_trans (List.length_filter_le _ _) (by simp; omega)
    generalize l[k] = v at *
    (try simp only [brK_e, gdK_e, skK_e, gdA_e, skA_e, pkK_e]); simp (maxSteps := 10000000) (disch := omega) only [stHeadsR, List.length_map, he, ld_ver, go_sem, ↓reduceIte, Nat.reduceEqDiff, Nat.reduceSub, Nat.reduceLeDiff, Nat.reduceAdd, Int.reduceEq, Int.reduceLT, Int.reduceLE]
    refine call_with (okHeadR v) ?_
    have hv := verE_len v
    by_cases hh : headP v = true
    · (try simp only [brK_e, gdK_e, skK_e, gdA_e, skA_e, pkK_e]); simp (maxSteps := 10000000) (disch := omega) only [hh, he, ld_ver, hv, List.length_map, go_sem, ↓reduceIte, Nat.reduceEqDiff, Nat.reduceSub, Nat.reduceLeDiff, Nat.reduceAdd, Int.reduceEq, Int.reduceLT, Int.reduceLE]
      refine ⟨k + 1, by omega, by omega, wk_ren 22 40 (by decide) rfl (weak_mk ?_ ?_)⟩
      · (try simp only [brK_e, gdK_e, skK_e, gdA_e, skA_e, pkK_e]); simp (maxSteps := 10000000) (disch := omega) only [go_sem, ↓reduceIte, Nat.reduceEqDiff, Nat.reduceSub, Nat.reduceLeDiff, Nat.reduceAdd, Int.reduceEq, Int.reduceLT, Int.reduceLE]
      · (try simp only [brK_e, gdK_e, skK_e, gdA_e, skA_e, pkK_e]); simp (maxSteps := 10000000) (disch := omega) only [ht, List.filter_append, hh, List.map_append, go_sem, ↓reduceIte, Nat.reduceEqDiff, Nat.reduceSub, Nat.reduceLeDiff, Nat.reduceAdd, Int.reduceEq, Int.reduceLT, Int.reduceLE]
        simp [hh]
    · have hh' : headP v = false := by simpa using hh
      (try simp only [brK_e, gdK_e, skK_e, gdA_e, skA_e, pkK_e]); simp (maxSteps := 10000000) (disch := omega) only [hh', go_sem, ↓reduceIte, Nat.reduceEqDiff, Nat.reduceSub, Nat.reduceLeDiff, Nat.reduceAdd, Int.reduceEq, Int.reduceLT, Int.reduceLE]
      refine loop_next (k + 1) _ _ rfl (by omega) (by omega) ?_ ?_
      · (try simp only [brK_e, gdK_e, skK_e, gdA_e, skA_e, pkK_e]); simp (maxSteps := 10000000) (disch := omega) only [go_sem, ↓reduceIte, Nat.reduceEqDiff, Nat.reduceSub, Nat.reduceLeDiff, Nat.reduceAdd, Int.reduceEq, Int.reduceLT, Int.reduceLE]
      · (try simp only [brK_e, gdK_e, skK_e, gdA_e, skA_e, pkK_e]); simp (maxSteps := 10000000) (disch := omega) only [ht, List.filter_append, hh', List.map_append, go_sem, ↓reduceIte, Nat.reduceEqDiff, Nat.reduceSub, Nat.reduceLeDiff, Nat.reduceAdd, Int.reduceEq, Int.reduceLT, Int.reduceLE]
        simp [hh']
  · obtain rfl : k = l.length := by omega
    have e := List.take_length (l := l)
    (try simp only [brK_e, gdK_e, skK_e, gdA_e, skA_e, pkK_e]); simp (maxSteps := 10000000) (disch := omega) only [stHeadsR, List.length_map, e, go_sem, ↓reduceIte, Nat.reduceEqDiff, Nat.reduceSub, Nat.reduceLeDiff, Nat.reduceAdd, Int.reduceEq, Int.reduceLT, Int.reduceLE]
end Go.Proofs.Ytmeecblciegkkaa.Fw
namespace Go.Proofs.Ytmeecblciegkkaa.Fw
open Go.RowKit Go.Proofs
theorem fits_ver (v : Ver) : fits [K1.int .i64, K1.int .u32, .str, .int .u32, .int .u32, .int .u32, .int .u32, .int .u32, .int .u32, .int .u32, .int .u32] (verE v) = True := eq_true rfl
theorem peq_verRefl (c : List PV) : peq c c = true := by simp [peq]
def stSame (f g : Bool) (l m : List Ver) (k : Nat) : FS := mk [(5, .pv (.i .i64 k)), (0, .pv (.sl f 11 (l.map verE))), (1, .pv (.sl g 11 (m.map verE)))] []
/-- two lists with the same cells -/
theorem okSame {x y : SV} {f g : Bool} {l m : List Ver} {h d} (hx : lents h [x, y] = [.pv (.sl f 11 (l.map verE)), .pv (.sl g 11 (m.map verE))]) (hl : lendable [x, y] = true) (he : l.map verE = m.map verE) (hn : l.length ≤ 1000) :
    FunOk Try.prog 26 [x, y] h d (.pv (.b true)) [] := by
  refine fun_scalar mixed fn26 (by simp) hl rfl fun F => ?_
  have hlen : l.length = m.length := by simpa using congrArg List.length he
  rw [hx]
  (try simp only [brK_e, gdK_e, skK_e, gdA_e, skA_e, pkK_e]); simp (maxSteps := 10000000) (disch := omega) only [ir26, List.length_map, hlen, go_sem, ↓reduceIte, Nat.reduceEqDiff, Nat.reduceSub, Nat.reduceLeDiff, Nat.reduceAdd, Int.reduceEq, Int.reduceLT, Int.reduceLE]
  refine loop_ok mixed (stSame f g l m) (fun k => k ≤ m.length) (fun k => m.length - k) 0 (by simp) (weak_mk ?_ ?_) fun k hk => ?_
  · (try simp only [brK_e, gdK_e, skK_e, gdA_e, skA_e, pkK_e]); simp (maxSteps := 10000000) (disch := omega) only [go_sem, ↓reduceIte, Nat.reduceEqDiff, Nat.reduceSub, Nat.reduceLeDiff, Nat.reduceAdd, Int.reduceEq, Int.reduceLT, Int.reduceLE]
  · (try simp only [brK_e, gdK_e, skK_e, gdA_e, skA_e, pkK_e]); simp (maxSteps := 10000000) (disch := omega) only [go_sem, ↓reduceIte, Nat.reduceEqDiff, Nat.reduceSub, Nat.reduceLeDiff, Nat.reduceAdd, Int.reduceEq, Int.reduceLT, Int.reduceLE]
  by_cases hlt : k < m.length
  · have h2 : (m.map verE)[k]? = some (verE m[k]) := by simp [hlt]
    have h1 : (l.map verE)[k]? = some (verE m[k]) := by rw [he]; exact h2
    generalize m[k] = v at *
    have hp := peq_verRefl (verE v)
    have hf := fits_ver v
    (try simp only [brK_e, gdK_e, skK_e, gdA_e, skA_e, pkK_e]); simp (maxSteps := 10000000) (disch := omega) only [stSame, List.length_map, hlen, h1, h2, ld_ver, hp, hf, go_sem, ↓reduceIte, Nat.reduceEqDiff, Nat.reduceSub, Nat.reduceLeDiff, Nat.reduceAdd, Int.reduceEq, Int.reduceLT, Int.reduceLE]
    refine loop_next (k + 1) _ _ rfl (by omega) (by omega) ?_ ?_
    · (try simp only [brK_e, gdK_e, skK_e, gdA_e, skA_e, pkK_e]); simp (maxSteps := 10000000) (disch := omega) only [go_sem, ↓reduceIte, Nat.reduceEqDiff, Nat.reduceSub, Nat.reduceLeDiff, Nat.reduceAdd, Int.reduceEq, Int.reduceLT, Int.reduceLE]
    · (try simp only [brK_e, gdK_e, skK_e, gdA_e, skA_e, pkK_e]); simp (maxSteps := 10000000) (disch := omega) only [go_sem, ↓reduceIte, Nat.reduceEqDiff, Nat.reduceSub, Nat.reduceLeDiff, Nat.reduceAdd, Int.reduceEq, Int.reduceLT, Int.reduceLE]
  · (try simp only [brK_e, gdK_e, skK_e, gdA_e, skA_e, pkK_e]); simp (maxSteps := 10000000) (disch := omega) only [stSame, List.length_map, hlen, go_sem, ↓reduceIte, Nat.reduceEqDiff, Nat.reduceSub, Nat.reduceLeDiff, Nat.reduceAdd, Int.reduceEq, Int.reduceLT, Int.reduceLE]
end Go.Proofs.Ytmeecblciegkkaa.Fw
namespace Go.Proofs.Ytmeecblciegkkaa.Fw
open Go.RowKit Go.Proofs
/-- is a number there? the place of the first that bears it -/
def findV : List Ver → Int → Nat → Option Ver
  | [], _, _ => none
  | v :: l, r, q => if v.rep = r ∧ v.seq = q then some v else findV l r q
def stHas (f : Bool) (l : List Ver) (r : Int) (q k : Nat) : FS := mk [(5, .pv (.i .i64 k)), (0, .pv (.sl f 11 (l.map verE))), (3, .p 3 0)] [(3, some (.var (.vec 2 [.i .i64 r, .i .u32 q])))]
theorem okHas {x : SV} {f : Bool} {l : List Ver} (r : Int) (q : Nat) {h d} (hx : lents h [x, .vec 2 [.i .i64 r, .i .u32 q]] = [.pv (.sl f 11 (l.map verE)), .vec 2 [.i .i64 r, .i .u32 q]]) (hl : lendable [x, .vec 2 [.i .i64 r, .i .u32 q]] = true) (hn : l.length ≤ 1000) :
    FunOk Try.prog 66 [x, .vec 2 [.i .i64 r, .i .u32 q]] h d (.pv (.b (findV l r q).isSome)) [] := by
  refine fun_scalar mixed fn66 (by simp) hl rfl fun F => ?_
  rw [hx]
  (try simp only [brK_e, gdK_e, skK_e, gdA_e, skA_e, pkK_e]); simp (maxSteps := 10000000) (disch := omega) only [ir66, List.length_map, go_sem, ↓reduceIte, Nat.reduceEqDiff, Nat.reduceSub, Nat.reduceLeDiff, Nat.reduceAdd, Int.reduceEq, Int.reduceLT, Int.reduceLE]
  refine loop_ok mixed (stHas f l r q) (fun k => k ≤ l.length ∧ findV l r q = findV (l.drop k) r q) (fun k => l.length - k) 0 (by simp) (weak_mk ?_ ?_) fun k hk => ?_
  · (try simp only [brK_e, gdK_e, skK_e, gdA_e, skA_e, pkK_e]); simp (maxSteps := 10000000) (disch := omega) only [go_sem, ↓reduceIte, Nat.reduceEqDiff, Nat.reduceSub, Nat.reduceLeDiff, Nat.reduceAdd, Int.reduceEq, Int.reduceLT, Int.reduceLE]
  · (try simp only [brK_e, gdK_e, skK_e, gdA_e, skA_e, pkK_e]); simp (maxSteps := 10000000) (disch := omega) only [go_sem, ↓reduceIte, Nat.reduceEqDiff, Nat.reduceSub, Nat.reduceLeDiff, Nat.reduceAdd, Int.reduceEq, Int.reduceLT, Int.reduceLE]
  obtain ⟨hk1, hk2⟩ := hk
  by_cases hlt : k < l.length
  · have hd : l.drop k = l[k] :: l.drop (k + 1) := List.drop_eq_getElem_cons hlt
    have he : (l.map verE)[k]? = some (verE l[k]) := by simp [hlt]
    rw [hd] at hk2
    generalize l[k] = v at *
    simp only [findV] at hk2
    by_cases hid : v.rep = r ∧ v.seq = q
    · rw [if_pos hid] at hk2
      have hp := peqId_t hid
      (try simp only [brK_e, gdK_e, skK_e, gdA_e, skA_e, pkK_e]); simp (maxSteps := 10000000) (disch := omega) only [stHas, List.length_map, he, ld_verId, fitsId, hp, hk2, Option.isSome_some, go_sem, ↓reduceIte, Nat.reduceEqDiff, Nat.reduceSub, Nat.reduceLeDiff, Nat.reduceAdd, Int.reduceEq, Int.reduceLT, Int.reduceLE]
    · rw [if_neg hid] at hk2
      have hp := peqId_f hid
      (try simp only [brK_e, gdK_e, skK_e, gdA_e, skA_e, pkK_e]); simp (maxSteps := 10000000) (disch := omega) only [stHas, List.length_map, he, ld_verId, fitsId, hp, go_sem, ↓reduceIte, Nat.reduceEqDiff, Nat.reduceSub, Nat.reduceLeDiff, Nat.reduceAdd, Int.reduceEq, Int.reduceLT, Int.reduceLE]
      refine loop_next (k + 1) _ _ rfl ⟨by omega, hk2⟩ (by omega) ?_ ?_
      · (try simp only [brK_e, gdK_e, skK_e, gdA_e, skA_e, pkK_e]); simp (maxSteps := 10000000) (disch := omega) only [go_sem, ↓reduceIte, Nat.reduceEqDiff, Nat.reduceSub, Nat.reduceLeDiff, Nat.reduceAdd, Int.reduceEq, Int.reduceLT, Int.reduceLE]
      · (try simp only [brK_e, gdK_e, skK_e, gdA_e, skA_e, pkK_e]); simp (maxSteps := 10000000) (disch := omega) only [go_sem, ↓reduceIte, Nat.reduceEqDiff, Nat.reduceSub, Nat.reduceLeDiff, Nat.reduceAdd, Int.reduceEq, Int.reduceLT, Int.reduceLE]
  · have : k = l.length := by omega
    subst this
    rw [List.drop_length] at hk2
    simp only [findV] at hk2
    rw [hk2]
    (try simp only [brK_e, gdK_e, skK_e, gdA_e, skA_e, pkK_e]); simp (maxSteps := 10000000) (disch := omega) only [stHas, List.length_map, Option.isSome_none, go_sem, ↓reduceIte, Nat.reduceEqDiff, Nat.reduceSub, Nat.reduceLeDiff, Nat.reduceAdd, Int.reduceEq, Int.reduceLT, Int.reduceLE]
end Go.Proofs.Ytmeecblciegkkaa.Fw
namespace Go.Proofs.Ytmeecblciegkkaa.Fw
open Go.RowKit Go.Proofs
def sameId (v : Ver) (r : Int) (q : Nat) : Prop := v.rep = r ∧ v.seq = q
instance (v : Ver) (r : Int) (q : Nat) : Decidable (sameId v r q) := inferInstanceAs (Decidable (_ ∧ _))
/-- in order -/
def FineV (l : List Ver) : Prop := ∀ i, (h : i + 1 < l.length) → idLt l[i].rep l[i].seq l[i + 1].rep l[i + 1].seq = true
open Classical in
noncomputable def fineB (l : List Ver) : Bool := decide (FineV l)
theorem fineB_t {l : List Ver} (h : FineV l) : fineB l = true := by simp [fineB, h]
theorem fineB_f {l : List Ver} (h : ¬ FineV l) : fineB l = false := by simp [fineB, h]
def stFine (f : Bool) (l : List Ver) (j : Nat) : FS := mk [(3, .pv (.i .i64 ((j + 1 : Nat) : Int))), (0, .pv (.sl f 11 (l.map verE)))] []
theorem okFine {x : SV} {f : Bool} {l : List Ver} {h d} (hx : lents h [x] = [.pv (.sl f 11 (l.map verE))]) (hl : lendable [x] = true) (hn : l.length ≤ 1000) :
    FunOk Try.prog 61 [x] h d (.pv (.b (fineB l))) [] := by
  refine fun_scalar mixed fn61 (by simp) hl rfl fun F => ?_
  rw [hx]
  (try simp only [brK_e, gdK_e, skK_e, gdA_e, skA_e, pkK_e]); simp (maxSteps := 10000000) (disch := omega) only [ir61, List.length_map, go_sem, ↓reduceIte, Nat.reduceEqDiff, Nat.reduceSub, Nat.reduceLeDiff, Nat.reduceAdd, Int.reduceEq, Int.reduceLT, Int.reduceLE]
  refine loop_ok mixed (stFine f l) (fun k => ∀ i, (hi : i + 1 < l.length) → i < k → idLt l[i].rep l[i].seq l[i + 1].rep l[i + 1].seq = true) (fun k => l.length - k) 0 (by simp) (weak_mk ?_ ?_) fun k hk => ?_
  · (try simp only [brK_e, gdK_e, skK_e, gdA_e, skA_e, pkK_e]); simp (maxSteps := 10000000) (disch := omega) only [go_sem, ↓reduceIte, Nat.reduceEqDiff, Nat.reduceSub, Nat.reduceLeDiff, Nat.reduceAdd, Int.reduceEq, Int.reduceLT, Int.reduceLE]
  · (try simp only [brK_e, gdK_e, skK_e, gdA_e, skA_e, pkK_e]); simp (maxSteps := 10000000) (disch := omega) only [go_sem, ↓reduceIte, Nat.reduceEqDiff, Nat.reduceSub, Nat.reduceLeDiff, Nat.reduceAdd, Int.reduceEq, Int.reduceLT, Int.reduceLE]
  by_cases hlt : k + 1 < l.length
  · have he : (l.map verE)[k]? = some (verE l[k]) := by simp [show k < l.length by omega]
    have he' : (l.map verE)[k + 1]? = some (verE l[k + 1]) := by simp [hlt]
    have ek : (((k + 1 : Nat) : Int) - 1).toNat = k := by omega
    by_cases hd : idLt l[k].rep l[k].seq l[k + 1].rep l[k + 1].seq = true
    · (try simp only [brK_e, gdK_e, skK_e, gdA_e, skA_e, pkK_e]); simp (maxSteps := 10000000) (disch := omega) only [stFine, List.length_map, he, he', ek, ld_verId, go_sem, ↓reduceIte, Nat.reduceEqDiff, Nat.reduceSub, Nat.reduceLeDiff, Nat.reduceAdd, Int.reduceEq, Int.reduceLT, Int.reduceLE]
      refine call_with (okLessR _ _ _ _) ?_
      (try simp only [brK_e, gdK_e, skK_e, gdA_e, skA_e, pkK_e]); simp (maxSteps := 10000000) (disch := omega) only [hd, go_sem, ↓reduceIte, Nat.reduceEqDiff, Nat.reduceSub, Nat.reduceLeDiff, Nat.reduceAdd, Int.reduceEq, Int.reduceLT, Int.reduceLE]
      refine loop_next (k + 1) _ _ rfl (fun i hi hik => ?_) (by omega) ?_ ?_
      · by_cases e : i = k
        · subst e; exact hd
        · exact hk i hi (by omega)
      · (try simp only [brK_e, gdK_e, skK_e, gdA_e, skA_e, pkK_e]); simp (maxSteps := 10000000) (disch := omega) only [go_sem, ↓reduceIte, Nat.reduceEqDiff, Nat.reduceSub, Nat.reduceLeDiff, Nat.reduceAdd, Int.reduceEq, Int.reduceLT, Int.reduceLE]
      · (try simp only [brK_e, gdK_e, skK_e, gdA_e, skA_e, pkK_e]); simp (maxSteps := 10000000) (disch := omega) only [go_sem, ↓reduceIte, Nat.reduceEqDiff, Nat.reduceSub, Nat.reduceLeDiff, Nat.reduceAdd, Int.reduceEq, Int.reduceLT, Int.reduceLE]
    · have hf := fineB_f (l := l) fun h => hd (h k hlt)
      have hd' : idLt l[k].rep l[k].seq l[k + 1].rep l[k + 1].seq = false := by simpa using hd
      (try simp only [brK_e, gdK_e, skK_e, gdA_e, skA_e, pkK_e]); simp (maxSteps := 10000000) (disch := omega) only [stFine, List.length_map, he, he', ek, ld_verId, go_sem, ↓reduceIte, Nat.reduceEqDiff, Nat.reduceSub, Nat.reduceLeDiff, Nat.reduceAdd, Int.reduceEq, Int.reduceLT, Int.reduceLE]
      refine call_with (okLessR _ _ _ _) ?_
      (try simp only [brK_e, gdK_e, skK_e, gdA_e, skA_e, pkK_e]); simp (maxSteps := 10000000) (disch := omega) only [hd', hf, go_sem, ↓reduceIte, Nat.reduceEqDiff, Nat.reduceSub, Nat.reduceLeDiff, Nat.reduceAdd, Int.reduceEq, Int.reduceLT, Int.reduceLE]
  · have hf := fineB_t (l := l) fun i hi => hk i hi (by omega)
    (try simp only [brK_e, gdK_e, skK_e, gdA_e, skA_e, pkK_e]); simp (maxSteps := 10000000) (disch := omega) only [stFine, List.length_map, hf, go_sem, ↓reduceIte, Nat.reduceEqDiff, Nat.reduceSub, Nat.reduceLeDiff, Nat.reduceAdd, Int.reduceEq, Int.reduceLT, Int.reduceLE]
def FitsV (l : List Ver) : Prop := l.length ≤ 30 ∧ FineV l ∧ ∀ v ∈ l, v.data.length ≤ 300
open Classical in
noncomputable def fitsB (l : List Ver) : Bool := decide (FitsV l)
theorem fitsB_t {l : List Ver} (h : FitsV l) : fitsB l = true := by simp [fitsB, h]
theorem fitsB_f {l : List Ver} (h : ¬ FitsV l) : fitsB l = false := by simp [fitsB, h]
theorem fitsB_iff {l : List Ver} : fitsB l = true ↔ FitsV l := by simp [fitsB]
theorem ld_verData (v : Ver) (K : KK) : LoadK (some (verE v)) 2 1 false K = K (.pv (.s v.data)) [] := by
  simp only [LoadK, ldX, eq_iff_iff]
  exact ⟨fun h => h.2.2, fun h => ⟨by simp [verE], .inr trivial, h⟩⟩
def stFits (f : Bool) (l : List Ver) (k : Nat) : FS := mk [(15, .pv (.i .i64 k)), (14, .pv (.i .i64 l.length)), (13, .pv (.sl f 11 (l.map verE))), (0, .pv (.sl f 11 (l.map verE)))] []
set_option maxHeartbeats 1000000 in
theorem okFits {x : SV} {f : Bool} {l : List Ver} {h d} (hx : lents h [x] = [.pv (.sl f 11 (l.map verE))]) (hl : lendable [x] = true) :
    FunOk Try.prog 23 [x] h d (.pv (.b (fitsB l))) [] := by
  refine fun_scalar mixed fn23 (by simp) hl rfl fun F => ?_
  rw [hx]
  by_cases h30 : 30 < (l.length : Int)
  · have hf := fitsB_f (l := l) fun h => by have := h.1; omega
    (try simp only [brK_e, gdK_e, skK_e, gdA_e, skA_e, pkK_e]); simp (maxSteps := 10000000) (disch := omega) only [ir23, List.length_map, hf, go_sem, ↓reduceIte, Nat.reduceEqDiff, Nat.reduceSub, Nat.reduceLeDiff, Nat.reduceAdd, Int.reduceEq, Int.reduceLT, Int.reduceLE]
  (try simp only [brK_e, gdK_e, skK_e, gdA_e, skA_e, pkK_e]); simp (maxSteps := 10000000) (disch := omega) only [ir23, List.length_map, go_sem, ↓reduceIte, Nat.reduceEqDiff, Nat.reduceSub, Nat.reduceLeDiff, Nat.reduceAdd, Int.reduceEq, Int.reduceLT, Int.reduceLE]
  refine call_with (okFine (l := l) rfl rfl (by omega)) ?_
  by_cases hF : FineV l
  · have e := fineB_t hF
    (try simp only [brK_e, gdK_e, skK_e, gdA_e, skA_e, pkK_e]); simp (maxSteps := 10000000) (disch := omega) only [e, go_sem, ↓reduceIte, Nat.reduceEqDiff, Nat.reduceSub, Nat.reduceLeDiff, Nat.reduceAdd, Int.reduceEq, Int.reduceLT, Int.reduceLE]
    refine loop_ok mixed (stFits f l) (fun k => k ≤ l.length ∧ ∀ v ∈ l.take k, v.data.length ≤ 300) (fun k => l.length - k) 0 (by simp) (weak_mk ?_ ?_) fun k hk => ?_
    · (try simp only [brK_e, gdK_e, skK_e, gdA_e, skA_e, pkK_e]); simp (maxSteps := 10000000) (disch := omega) only [List.length_map, go_sem, ↓reduceIte, Nat.reduceEqDiff, Nat.reduceSub, Nat.reduceLeDiff, Nat.reduceAdd, Int.reduceEq, Int.reduceLT, Int.reduceLE]
    · (try simp only [brK_e, gdK_e, skK_e, gdA_e, skA_e, pkK_e]); simp (maxSteps := 10000000) (disch := omega) only [go_sem, ↓reduceIte, Nat.reduceEqDiff, Nat.reduceSub, Nat.reduceLeDiff, Nat.reduceAdd, Int.reduceEq, Int.reduceLT, Int.reduceLE]
    obtain ⟨hk1, hk2⟩ := hk
    by_cases hlt : k < l.length
    · have he : (l.map verE)[k]? = some (verE l[k]) := by simp [hlt]
      have ht : l.take (k + 1) = l.take k ++ [l[k]] := by rw [List.take_add_one, List.getElem?_eq_getElem hlt]; rfl
      have hm : l[k] ∈ l := List.getElem_mem hlt
      generalize l[k] = v at *
      have hv := verE_len v
      by_cases hd : 300 < (v.data.length : Int)
      · have hf := fitsB_f (l := l) fun h => by have := h.2.2 v hm; omega
        (try simp only [brK_e, gdK_e, skK_e, gdA_e, skA_e, pkK_e]); simp (maxSteps := 10000000) (disch := omega) only [stFits, List.length_map, he, ld_ver, hv, ld_verData, hf, go_sem, ↓reduceIte, Nat.reduceEqDiff, Nat.reduceSub, Nat.reduceLeDiff, Nat.reduceAdd, Int.reduceEq, Int.reduceLT, Int.reduceLE]
      · (try simp only [brK_e, gdK_e, skK_e, gdA_e, skA_e, pkK_e]); simp (maxSteps := 10000000) (disch := omega) only [stFits, List.length_map, he, ld_ver, hv, ld_verData, go_sem, ↓reduceIte, Nat.reduceEqDiff, Nat.reduceSub, Nat.reduceLeDiff, Nat.reduceAdd, Int.reduceEq, Int.reduceLT, Int.reduceLE]
        refine loop_next (k + 1) _ _ rfl ⟨by omega, fun u hu => ?_⟩ (by omega) ?_ ?_
        · rw [ht] at hu
          rcases List.mem_append.1 hu with hu | hu
          · exact hk2 u hu
          · simp at hu; subst hu; omega
        · (try simp only [brK_e, gdK_e, skK_e, gdA_e, skA_e, pkK_e]); simp (maxSteps := 10000000) (disch := omega) only [List.length_map, go_sem, ↓reduceIte, Nat.reduceEqDiff, Nat.reduceSub, Nat.reduceLeDiff, Nat.reduceAdd, Int.reduceEq, Int.reduceLT, Int.reduceLE]
        · (try simp only [brK_e, gdK_e, skK_e, gdA_e, skA_e, pkK_e]); simp (maxSteps := 10000000) (disch := omega) only [go_sem, ↓reduceIte, Nat.reduceEqDiff, Nat.reduceSub, Nat.reduceLeDiff, Nat.reduceAdd, Int.reduceEq, Int.reduceLT, Int.reduceLE]
    · obtain rfl : k = l.length := by omega
      rw [List.take_length] at hk2
      have hf := fitsB_t (l := l) ⟨by omega, hF, hk2⟩
      (try simp only [brK_e, gdK_e, skK_e, gdA_e, skA_e, pkK_e]); simp (maxSteps := 10000000) (disch := omega) only [stFits, List.length_map, hf, go_sem, ↓reduceIte, Nat.reduceEqDiff, Nat.reduceSub, Nat.reduceLeDiff, Nat.reduceAdd, Int.reduceEq, Int.reduceLT, Int.reduceLE]
  · have e := fineB_f hF
    have hf := fitsB_f (l := l) fun h => hF h.2.1
    (try simp only [brK_e, gdK_e, skK_e, gdA_e, skA_e, pkK_e]); simp (maxSteps := 10000000) (disch := omega) only [e, hf, go_sem, ↓reduceIte, Nat.reduceEqDiff, Nat.reduceSub, Nat.reduceLeDiff, Nat.reduceAdd, Int.reduceEq, Int.reduceLT, Int.reduceLE]
end Go.Proofs.Ytmeecblciegkkaa.Fw
namespace Go.Proofs.Ytmeecblciegkkaa.Fw
open Go.RowKit Go.Proofs
theorem idLt_iff {r : Int} {q : Nat} {r' : Int} {q' : Nat} : idLt r q r' q' = true ↔ (q < q' ∨ q = q' ∧ r < r') := by simp [idLt]
theorem idLt_trans {r : Int} {q : Nat} {r' : Int} {q' : Nat} {r'' : Int} {q'' : Nat} (h : idLt r q r' q' = true) (k : idLt r' q' r'' q'' = true) : idLt r q r'' q'' = true := by
  rw [idLt_iff] at *; omega
theorem idLt_ne {r : Int} {q : Nat} {r' : Int} {q' : Nat} (h : idLt r q r' q' = true) : ¬ (r = r' ∧ q = q') := by
  rw [idLt_iff] at h; omega
theorem idLt_as {r : Int} {q : Nat} {r' : Int} {q' : Nat} (h : idLt r q r' q' = true) : ¬ idLt r' q' r q = true := by
  rw [idLt_iff] at *; omega
theorem idLt_tot {r : Int} {q : Nat} {r' : Int} {q' : Nat} (h : ¬ (r = r' ∧ q = q')) (k : ¬ idLt r q r' q' = true) : idLt r' q' r q = true := by
  rw [idLt_iff] at *; omega
def SortedV (l : List Ver) : Prop := l.Pairwise fun a b => idLt a.rep a.seq b.rep b.seq = true
theorem fine_sorted : ∀ {l : List Ver}, FineV l → SortedV l
  | [], _ => List.Pairwise.nil
  | [v], _ => List.pairwise_singleton _ _
  | v :: u :: l, h => by
    have h1 : idLt v.rep v.seq u.rep u.seq = true := h 0 (by simp)
    have h2 := fine_sorted (l := u :: l) fun i hi => h (i + 1) (by simpa using hi)
    refine List.Pairwise.cons (fun w hw => ?_) h2
    rcases List.mem_cons.1 hw with rfl | hw
    · exact h1
    · exact idLt_trans h1 (List.rel_of_pairwise_cons h2 hw)
theorem sorted_fine {l : List Ver} (h : SortedV l) : FineV l := fun i hi => List.pairwise_iff_getElem.1 h i (i + 1) (by omega) hi (by omega)
/-- what 'at' tells -/
theorem atL_true : ∀ {l : List Ver} {r q k i}, atL l r q k = (i, true) → k ≤ i ∧ ∃ v, l[i - k]? = some v ∧ sameId v r q ∧ findV l r q = some v
  | [], r, q, k, i, h => by simp [atL] at h
  | v :: l, r, q, k, i, h => by
    simp only [atL] at h
    split at h
    · rename_i hs
      cases h
      exact ⟨Nat.le_refl _, v, by simp, hs, by simp [findV, hs]⟩
    · rename_i hs
      split at h
      · cases h
      · obtain ⟨h1, u, h2, h3, h4⟩ := atL_true h
        refine ⟨by omega, u, ?_, h3, by simp only [findV]; rw [if_neg hs]; exact h4⟩
        rw [show i - k = (i - (k + 1)) + 1 by omega, List.getElem?_cons_succ]; exact h2
theorem atL_false : ∀ {l : List Ver} {r q k i}, SortedV l → atL l r q k = (i, false) → k ≤ i ∧ i - k ≤ l.length ∧ findV l r q = none ∧ (∀ v ∈ l, ¬ sameId v r q) ∧ (∀ v ∈ l.take (i - k), idLt v.rep v.seq r q = true) ∧ ∀ v ∈ l.drop (i - k), idLt r q v.rep v.seq = true
  | [], r, q, k, i, _, h => by simp only [atL] at h; cases h; simp [findV]
  | v :: l, r, q, k, i, hs, h => by
    obtain ⟨h1, h2⟩ := List.pairwise_cons.1 hs
    simp only [atL] at h
    split at h
    · cases h
    · rename_i hn
      split at h
      · rename_i hlt
        cases h
        have hall : ∀ u ∈ v :: l, idLt r q u.rep u.seq = true := fun u hu => by
          rcases List.mem_cons.1 hu with rfl | hu
          · exact hlt
          · exact idLt_trans hlt (h1 u hu)
        have hno : ∀ u ∈ v :: l, ¬ sameId u r q := fun u hu e => idLt_ne (hall u hu) ⟨e.1.symm, e.2.symm⟩
        refine ⟨Nat.le_refl _, by simp, ?_, hno, by simp, by simpa using hall⟩
        have : ∀ m : List Ver, (∀ u ∈ m, ¬ sameId u r q) → findV m r q = none := fun m hm => by
          induction m with
          | nil => rfl
          | cons u m ih => simp only [findV]; rw [if_neg (show ¬ (u.rep = r ∧ u.seq = q) from hm u List.mem_cons_self)]; exact ih fun x hx => hm x (List.mem_cons_of_mem _ hx)
        exact this _ hno
      · rename_i hge
        obtain ⟨g1, g2, g3, g4, g5, g6⟩ := atL_false h2 h
        have e : i - k = (i - (k + 1)) + 1 := by omega
        refine ⟨by omega, by rw [e]; simpa using g2, by simp only [findV]; rw [if_neg hn]; exact g3, fun u hu => ?_, ?_, ?_⟩
        · rcases List.mem_cons.1 hu with rfl | hu
          · exact hn
          · exact g4 u hu
        · rw [e, List.take_succ_cons]
          intro u hu
          rcases List.mem_cons.1 hu with rfl | hu
          · exact idLt_tot (fun e => hn ⟨e.1.symm, e.2.symm⟩) hge
          · exact g5 u hu
        · rw [e, List.drop_succ_cons]; exact g6
theorem findV_none {l : List Ver} {r : Int} {q : Nat} : findV l r q = none ↔ ∀ v ∈ l, ¬ sameId v r q := by
  induction l with
  | nil => simp [findV]
  | cons u m ih =>
    simp only [findV]
    by_cases h : u.rep = r ∧ u.seq = q
    · rw [if_pos h]
      exact ⟨fun e => (nomatch e), fun e => absurd h (e u List.mem_cons_self)⟩
    · rw [if_neg h, ih]
      simp only [List.mem_cons, forall_eq_or_imp]
      exact ⟨fun e => ⟨h, e⟩, fun e => e.2⟩
theorem findV_mem {l : List Ver} {r : Int} {q : Nat} {v : Ver} (h : findV l r q = some v) : v ∈ l ∧ sameId v r q := by
  induction l with
  | nil => simp [findV] at h
  | cons u m ih =>
    simp only [findV] at h
    by_cases e : u.rep = r ∧ u.seq = q
    · rw [if_pos e] at h; cases h; exact ⟨List.mem_cons_self, e⟩
    · rw [if_neg e] at h; exact ⟨List.mem_cons_of_mem _ (ih h).1, (ih h).2⟩
def dataV (l : List Ver) (r : Int) (q : Nat) : List UInt8 × Int := if r = 0 ∧ q = 0 then ([], 0) else match findV l r q with
  | some v => (v.data, 0)
  | none => ([], 2)
theorem dataV_0 {l : List Ver} {r : Int} {q : Nat} (h : r = 0 ∧ q = 0) : dataV l r q = ([], 0) := by simp [dataV, h]
theorem dataV_s {l : List Ver} {r : Int} {q : Nat} {v : Ver} (h : ¬ (r = 0 ∧ q = 0)) (k : findV l r q = some v) : dataV l r q = (v.data, 0) := by unfold dataV; rw [if_neg h, k]
theorem dataV_n {l : List Ver} {r : Int} {q : Nat} (h : ¬ (r = 0 ∧ q = 0)) (k : findV l r q = none) : dataV l r q = ([], 2) := by unfold dataV; rw [if_neg h, k]
theorem peqZ_t : peq [.i .i64 0, .i .u32 0] [.i .i64 0, .i .u32 0] = true := by simp [peq]
theorem peqZ_f {r : Int} {q : Nat} (h : ¬ (r = 0 ∧ q = 0)) : peq [.i .i64 r, .i .u32 q] [.i .i64 0, .i .u32 0] = false := peqId_f (q' := 0) fun e => h e
theorem fitsIdZ : fits [K1.int .i64, K1.int .u32] [.i .i64 0, .i .u32 0] = True := eq_true rfl
set_option maxHeartbeats 1000000 in
theorem okData {x : SV} {f : Bool} {l : List Ver} (r : Int) (q : Nat) {h d} (hx : lents h [x, .vec 2 [.i .i64 r, .i .u32 q]] = [.pv (.sl f 11 (l.map verE)), .vec 2 [.i .i64 r, .i .u32 q]]) (hl : lendable [x, .vec 2 [.i .i64 r, .i .u32 q]] = true) (hs : SortedV l) (hn : l.length ≤ 1000) :
    FunOk Try.prog 29 [x, .vec 2 [.i .i64 r, .i .u32 q]] h d (.tup [.pv (.s (dataV l r q).1), .pv (.i .i64 (dataV l r q).2)]) [] := by
  refine fun_scalar mixed fn29 (by simp) hl rfl fun F => ?_
  rw [hx]
  by_cases hz : r = 0 ∧ q = 0
  · have e := dataV_0 (l := l) hz
    rw [e]
    obtain ⟨rfl, rfl⟩ := hz
    have e1 := peqZ_t
    have e2 := fitsIdZ
    (try simp only [brK_e, gdK_e, skK_e, gdA_e, skA_e, pkK_e]); simp (maxSteps := 10000000) (disch := omega) only [ir29, e1, e2, Int.natCast_zero, go_sem, ↓reduceIte, Nat.reduceEqDiff, Nat.reduceSub, Nat.reduceLeDiff, Nat.reduceAdd, Int.reduceEq, Int.reduceLT, Int.reduceLE]
  · have hp := peqZ_f hz
    (try simp only [brK_e, gdK_e, skK_e, gdA_e, skA_e, pkK_e]); simp (maxSteps := 10000000) (disch := omega) only [ir29, fitsIdZ, fitsId, hp, go_sem, ↓reduceIte, Nat.reduceEqDiff, Nat.reduceSub, Nat.reduceLeDiff, Nat.reduceAdd, Int.reduceEq, Int.reduceLT, Int.reduceLE]
    refine call_with (okAt (l := l) r q rfl rfl hn) ?_
    rcases ha : atL l r q 0 with ⟨i, b⟩
    cases b with
    | true =>
      obtain ⟨_, v, h2, h3, h4⟩ := atL_true ha
      rw [dataV_s hz h4]
      have he : (l.map verE)[i]? = some (verE v) := by rw [List.getElem?_map, show l[i]? = some v from by simpa using h2]; rfl
      have hi : i < l.length := by
        have := (List.getElem?_eq_some_iff.1 h2).1; simpa using this
      (try simp only [brK_e, gdK_e, skK_e, gdA_e, skA_e, pkK_e]); simp (maxSteps := 10000000) (disch := omega) only [List.length_map, he, ld_verData, go_sem, ↓reduceIte, Nat.reduceEqDiff, Nat.reduceSub, Nat.reduceLeDiff, Nat.reduceAdd, Int.reduceEq, Int.reduceLT, Int.reduceLE]
    | false =>
      obtain ⟨_, _, h3, _⟩ := atL_false hs ha
      rw [dataV_n hz h3]
      (try simp only [brK_e, gdK_e, skK_e, gdA_e, skA_e, pkK_e]); simp (maxSteps := 10000000) (disch := omega) only [go_sem, ↓reduceIte, Nat.reduceEqDiff, Nat.reduceSub, Nat.reduceLeDiff, Nat.reduceAdd, Int.reduceEq, Int.reduceLT, Int.reduceLE]
def stDataR (f : Bool) (l : List Ver) (r : Int) (q k : Nat) : FS := mk [(6, .pv (.i .i64 k)), (0, .pv (.sl f 11 (l.map verE))), (3, .p 3 0)] [(3, some (.var (.vec 2 [.i .i64 r, .i .u32 q])))]
set_option maxHeartbeats 1000000 in
theorem okDataR {x : SV} {f : Bool} {l : List Ver} (r : Int) (q : Nat) {h d} (hx : lents h [x, .vec 2 [.i .i64 r, .i .u32 q]] = [.pv (.sl f 11 (l.map verE)), .vec 2 [.i .i64 r, .i .u32 q]]) (hl : lendable [x, .vec 2 [.i .i64 r, .i .u32 q]] = true) (hn : l.length ≤ 1000) :
    FunOk Try.prog 30 [x, .vec 2 [.i .i64 r, .i .u32 q]] h d (.tup [.pv (.s (dataV l r q).1), .pv (.i .i64 (dataV l r q).2)]) [] := by
  refine fun_scalar mixed fn30 (by simp) hl rfl fun F => ?_
  rw [hx]
  by_cases hz : r = 0 ∧ q = 0
  · have e := dataV_0 (l := l) hz
    rw [e]
    obtain ⟨rfl, rfl⟩ := hz
    (try simp only [brK_e, gdK_e, skK_e, gdA_e, skA_e, pkK_e]); simp (maxSteps := 10000000) (disch := omega) only [ir30, Int.natCast_zero, go_sem, ↓reduceIte, Nat.reduceEqDiff, Nat.reduceSub, Nat.reduceLeDiff, Nat.reduceAdd, Int.reduceEq, Int.reduceLT, Int.reduceLE]
  · have hk : ∀ K : Prop, K → K := fun _ h => h
    by_cases hr : r = 0
    · subst hr
      have hq : ¬ (q : Int) = 0 := by omega
      (try simp only [brK_e, gdK_e, skK_e, gdA_e, skA_e, pkK_e]); simp (maxSteps := 10000000) (disch := omega) only [ir30, hq, go_sem, ↓reduceIte, Nat.reduceEqDiff, Nat.reduceSub, Nat.reduceLeDiff, Nat.reduceAdd, Int.reduceEq, Int.reduceLT, Int.reduceLE]
      refine loop_ok mixed (stDataR f l 0 q) (fun k => k ≤ l.length ∧ findV l 0 q = findV (l.drop k) 0 q) (fun k => l.length - k) 0 (by simp) (weak_mk ?_ ?_) fun k hk => ?_
      · (try simp only [brK_e, gdK_e, skK_e, gdA_e, skA_e, pkK_e]); simp (maxSteps := 10000000) (disch := omega) only [go_sem, ↓reduceIte, Nat.reduceEqDiff, Nat.reduceSub, Nat.reduceLeDiff, Nat.reduceAdd, Int.reduceEq, Int.reduceLT, Int.reduceLE]
      · (try simp only [brK_e, gdK_e, skK_e, gdA_e, skA_e, pkK_e]); simp (maxSteps := 10000000) (disch := omega) only [go_sem, ↓reduceIte, Nat.reduceEqDiff, Nat.reduceSub, Nat.reduceLeDiff, Nat.reduceAdd, Int.reduceEq, Int.reduceLT, Int.reduceLE]
      obtain ⟨hk1, hk2⟩ := hk
      by_cases hlt : k < l.length
      · have hd : l.drop k = l[k] :: l.drop (k + 1) := List.drop_eq_getElem_cons hlt
        have he : (l.map verE)[k]? = some (verE l[k]) := by simp [hlt]
        rw [hd] at hk2
        generalize l[k] = v at *
        simp only [findV] at hk2
        by_cases hid : v.rep = 0 ∧ v.seq = q
        · rw [if_pos hid] at hk2
          have hp := peqId_t hid
          rw [dataV_s hz hk2]
          (try simp only [brK_e, gdK_e, skK_e, gdA_e, skA_e, pkK_e]); simp (maxSteps := 10000000) (disch := omega) only [stDataR, List.length_map, he, ld_verId, fitsId, hp, ld_verData, go_sem, ↓reduceIte, Nat.reduceEqDiff, Nat.reduceSub, Nat.reduceLeDiff, Nat.reduceAdd, Int.reduceEq, Int.reduceLT, Int.reduceLE]
        · rw [if_neg hid] at hk2
          have hp := peqId_f hid
          (try simp only [brK_e, gdK_e, skK_e, gdA_e, skA_e, pkK_e]); simp (maxSteps := 10000000) (disch := omega) only [stDataR, List.length_map, he, ld_verId, fitsId, hp, go_sem, ↓reduceIte, Nat.reduceEqDiff, Nat.reduceSub, Nat.reduceLeDiff, Nat.reduceAdd, Int.reduceEq, Int.reduceLT, Int.reduceLE]
          refine loop_next (k + 1) _ _ rfl ⟨by omega, hk2⟩ (by omega) ?_ ?_
          · (try simp only [brK_e, gdK_e, skK_e, gdA_e, skA_e, pkK_e]); simp (maxSteps := 10000000) (disch := omega) only [go_sem, ↓reduceIte, Nat.reduceEqDiff, Nat.reduceSub, Nat.reduceLeDiff, Nat.reduceAdd, Int.reduceEq, Int.reduceLT, Int.reduceLE]
          · (try simp only [brK_e, gdK_e, skK_e, gdA_e, skA_e, pkK_e]); simp (maxSteps := 10000000) (disch := omega) only [go_sem, ↓reduceIte, Nat.reduceEqDiff, Nat.reduceSub, Nat.reduceLeDiff, Nat.reduceAdd, Int.reduceEq, Int.reduceLT, Int.reduceLE]
      · obtain rfl : k = l.length := by omega
        rw [List.drop_length] at hk2
        rw [dataV_n hz hk2]
        (try simp only [brK_e, gdK_e, skK_e, gdA_e, skA_e, pkK_e]); simp (maxSteps := 10000000) (disch := omega) only [stDataR, List.length_map, go_sem, ↓reduceIte, Nat.reduceEqDiff, Nat.reduceSub, Nat.reduceLeDiff, Nat.reduceAdd, Int.reduceEq, Int.reduceLT, Int.reduceLE]
    · (try simp only [brK_e, gdK_e, skK_e, gdA_e, skA_e, pkK_e]); simp (maxSteps := 10000000) (disch := omega) only [ir30, hr, go_sem, ↓reduceIte, Nat.reduceEqDiff, Nat.reduceSub, Nat.reduceLeDiff, Nat.reduceAdd, Int.reduceEq, Int.reduceLT, Int.reduceLE]
      refine loop_ok mixed (stDataR f l r q) (fun k => k ≤ l.length ∧ findV l r q = findV (l.drop k) r q) (fun k => l.length - k) 0 (by simp) (weak_mk ?_ ?_) fun k hk => ?_
      · (try simp only [brK_e, gdK_e, skK_e, gdA_e, skA_e, pkK_e]); simp (maxSteps := 10000000) (disch := omega) only [go_sem, ↓reduceIte, Nat.reduceEqDiff, Nat.reduceSub, Nat.reduceLeDiff, Nat.reduceAdd, Int.reduceEq, Int.reduceLT, Int.reduceLE]
      · (try simp only [brK_e, gdK_e, skK_e, gdA_e, skA_e, pkK_e]); simp (maxSteps := 10000000) (disch := omega) only [go_sem, ↓reduceIte, Nat.reduceEqDiff, Nat.reduceSub, Nat.reduceLeDiff, Nat.reduceAdd, Int.reduceEq, Int.reduceLT, Int.reduceLE]
      obtain ⟨hk1, hk2⟩ := hk
      by_cases hlt : k < l.length
      · have hd : l.drop k = l[k] :: l.drop (k + 1) := List.drop_eq_getElem_cons hlt
        have he : (l.map verE)[k]? = some (verE l[k]) := by simp [hlt]
        rw [hd] at hk2
        generalize l[k] = v at *
        simp only [findV] at hk2
        by_cases hid : v.rep = r ∧ v.seq = q
        · rw [if_pos hid] at hk2
          have hp := peqId_t hid
          rw [dataV_s hz hk2]
          (try simp only [brK_e, gdK_e, skK_e, gdA_e, skA_e, pkK_e]); simp (maxSteps := 10000000) (disch := omega) only [stDataR, List.length_map, he, ld_verId, fitsId, hp, ld_verData, go_sem, ↓reduceIte, Nat.reduceEqDiff, Nat.reduceSub, Nat.reduceLeDiff, Nat.reduceAdd, Int.reduceEq, Int.reduceLT, Int.reduceLE]
        · rw [if_neg hid] at hk2
          have hp := peqId_f hid
          (try simp only [brK_e, gdK_e, skK_e, gdA_e, skA_e, pkK_e]); simp (maxSteps := 10000000) (disch := omega) only [stDataR, List.length_map, he, ld_verId, fitsId, hp, go_sem, ↓reduceIte, Nat.reduceEqDiff, Nat.reduceSub, Nat.reduceLeDiff, Nat.reduceAdd, Int.reduceEq, Int.reduceLT, Int.reduceLE]
          refine loop_next (k + 1) _ _ rfl ⟨by omega, hk2⟩ (by omega) ?_ ?_
          · (try simp only [brK_e, gdK_e, skK_e, gdA_e, skA_e, pkK_e]); simp (maxSteps := 10000000) (disch := omega) only [go_sem, ↓reduceIte, Nat.reduceEqDiff, Nat.reduceSub, Nat.reduceLeDiff, Nat.reduceAdd, Int.reduceEq, Int.reduceLT, Int.reduceLE]
          · (try simp only [brK_e, gdK_e, skK_e, gdA_e, skA_e, pkK_e]); simp (maxSteps := 10000000) (disch := omega) only [go_sem, ↓reduceIte, Nat.reduceEqDiff, Nat.reduceSub, Nat.reduceLeDiff, Nat.reduceAdd, Int.reduceEq, Int.reduceLT, Int.reduceLE]
      · obtain rfl : k = l.length := by omega
        rw [List.drop_length] at hk2
        rw [dataV_n hz hk2]
        (try simp only [brK_e, gdK_e, skK_e, gdA_e, skA_e, pkK_e]); simp (maxSteps := 10000000) (disch := omega) only [stDataR, List.length_map, go_sem, ↓reduceIte, Nat.reduceEqDiff, Nat.reduceSub, Nat.reduceLeDiff, Nat.reduceAdd, Int.reduceEq, Int.reduceLT, Int.reduceLE]
end Go.Proofs.Ytmeecblciegkkaa.Fw
namespace Go.Proofs.Ytmeecblciegkkaa.Fw
open Go.RowKit Go.Proofs
abbrev Idn := Int × Nat
def idE (b : Idn) : List PV := [.i .i64 b.1, .i .u32 b.2]
theorem ld_id (b : Idn) (K : KK) : LoadK (some (idE b)) 0 2 true K = K (.vec 2 [.i .i64 b.1, .i .u32 b.2]) [] := by
  simp only [LoadK, ldX, eq_iff_iff]
  exact ⟨fun h => h.2.2, fun h => ⟨by simp [idE], .inl trivial, h⟩⟩
def markV (v : Ver) (r : Int) (q : Nat) : Ver := { v with gone := withV v.gone r q }
def markL (l : List Ver) (bs : List Idn) (r : Int) (q : Nat) : List Ver := l.map fun x => if (x.rep, x.seq) ∈ bs then markV x r q else x
theorem withV_idem (g : Vc) (r : Int) (q : Nat) : withV (withV g r q) r q = withV g r q := by
  unfold withV
  split
  · funext i
    simp only [setV]
    split <;> simp
  · rfl
theorem markL_nil (l : List Ver) (r : Int) (q : Nat) : markL l [] r q = l := by simp [markL]
theorem markL_len (l : List Ver) (bs) (r : Int) (q : Nat) : (markL l bs r q).length = l.length := by simp [markL]
theorem mark_id (x : Ver) (bs : List Idn) (r : Int) (q : Nat) : (if (x.rep, x.seq) ∈ bs then markV x r q else x).rep = x.rep ∧ (if (x.rep, x.seq) ∈ bs then markV x r q else x).seq = x.seq := by split <;> exact ⟨rfl, rfl⟩
theorem markL_sorted {l : List Ver} {bs} {r : Int} {q : Nat} (h : SortedV l) : SortedV (markL l bs r q) := by
  unfold markL SortedV
  rw [List.pairwise_map]
  refine List.Pairwise.imp (fun {a b} hab => ?_) h
  rw [(mark_id a bs r q).1, (mark_id a bs r q).2, (mark_id b bs r q).1, (mark_id b bs r q).2]; exact hab
theorem atL_mark (bs : List Idn) (r : Int) (q : Nat) (r' : Int) (q' : Nat) : ∀ (l : List Ver) (k : Nat), atL (markL l bs r q) r' q' k = atL l r' q' k
  | [], k => rfl
  | x :: l, k => by
    have ih := atL_mark bs r q r' q' l (k + 1)
    unfold markL at ih ⊢
    simp only [List.map_cons, atL, ih, (mark_id x bs r q).1, (mark_id x bs r q).2]
theorem sorted_uniq {l : List Ver} (h : SortedV l) {i j : Nat} {a b : Ver} (hi : l[i]? = some a) (hj : l[j]? = some b) (he : a.rep = b.rep ∧ a.seq = b.seq) : i = j := by
  obtain ⟨h1, rfl⟩ := List.getElem?_eq_some_iff.1 hi
  obtain ⟨h2, rfl⟩ := List.getElem?_eq_some_iff.1 hj
  rcases Nat.lt_trichotomy i j with h3 | h3 | h3
  · exact absurd he (idLt_ne (List.pairwise_iff_getElem.1 h i j h1 h2 h3))
  · exact h3
  · exact absurd ⟨he.1.symm, he.2.symm⟩ (idLt_ne (List.pairwise_iff_getElem.1 h j i h2 h1 h3))
theorem mark_set {l : List Ver} (h : SortedV l) {bs : List Idn} {b : Idn} {r : Int} {q : Nat} {i : Nat} {u : Ver} (hi : (markL l bs r q)[i]? = some u) (hu : sameId u b.1 b.2) :
    (markL l bs r q).set i (markV u r q) = markL l (bs ++ [b]) r q := by
  apply List.ext_getElem?
  intro j
  have hi' := hi
  unfold markL at hi'
  rw [List.getElem?_map] at hi'
  obtain ⟨x, hx, rfl⟩ := Option.map_eq_some_iff.1 hi'
  have hxi : (x.rep, x.seq) = b := by
    have h1 := (mark_id x bs r q).1
    have h2 := (mark_id x bs r q).2
    obtain ⟨g1, g2⟩ := hu
    rw [h1] at g1; rw [h2] at g2
    rw [g1, g2]
  by_cases hij : i = j
  · subst hij
    rw [List.getElem?_set_self (List.getElem?_eq_some_iff.1 hi).1]
    unfold markL
    rw [List.getElem?_map, hx]
    simp only [Option.map_some, List.mem_append, List.mem_singleton, hxi, or_true, if_true, Option.some.injEq]
    split
    · simp only [markV, withV_idem]
    · rfl
  · rw [List.getElem?_set_ne hij]
    unfold markL
    rw [List.getElem?_map, List.getElem?_map]
    cases hy : l[j]? with
    | none => rfl
    | some y =>
      have hne : ¬ (y.rep, y.seq) = b := fun e => hij (sorted_uniq h hx hy (by rw [← e] at hxi; simpa using hxi))
      simp only [Option.map_some, List.mem_append, List.mem_singleton, hne, or_false]
def missing (l : List Ver) (bs : List Idn) : Prop := ∃ b ∈ bs, findV l b.1 b.2 = none
def addL (l : List Ver) (bs : List Idn) (v : Ver) : List Ver := (markL l bs v.rep v.seq).take (atL l v.rep v.seq 0).1 ++ v :: (markL l bs v.rep v.seq).drop (atL l v.rep v.seq 0).1
theorem splice_by (u : Ver) (g : Vc) : splice (verE u) 3 (vE g) = verE { u with gone := g } := by
  simp [splice, verE, vE, arrF]
theorem vE_len8 (g : Vc) : (vE g).length = 8 := by simp [vE, arrF]
def stAdd (f : Bool) (l : List Ver) (g : Bool) (bs : List Idn) (v : Ver) (k : Nat) : FS := mk [(19, .pv (.i .i64 k)), (18, .pv (.i .i64 bs.length)), (17, .pv (.sl g 2 (bs.map idE))), (8, .os 16), (5, .p 5 0)]
  [(5, some (.var (.vec 11 (verE v)))), (16, some (.row 11 ((markL l (bs.take k) v.rep v.seq).map verE)))]
set_option maxHeartbeats 2000000 in
theorem addWalk {F : Fr} {f : Bool} {l : List Ver} {g : Bool} {bs : List Idn} {v : Ver} {R : SV → (Nat → Option Blk) → Prop} (hs : SortedV l) (hn : l.length ≤ 900) (hbn : bs.length ≤ 900)
    (h1 : missing l bs → ∀ h, R (.tup [.pv (.sl true 0 []), .pv (.i .i64 2)]) h)
    (h2 : ¬ missing l bs → (findV l v.rep v.seq).isSome = true → ∀ h, R (.tup [.pv (.sl true 0 []), .pv (.i .i64 11)]) h)
    (h3 : ¬ missing l bs → findV l v.rep v.seq = none → ∀ h n, h n = some (.row 11 ((addL l bs v).map verE)) → R (.tup [.os n, .pv (.i .i64 0)]) h) :
    sx (env Try.prog F 57) ir25 (RetQ [.t 6, .t 7] R) (mk (argT 0 [.pv (.sl f 11 (l.map verE)), .pv (.sl g 2 (bs.map idE)), .vec 11 (verE v)]) []) := by
  have hv := verE_len v
  (try simp only [brK_e, gdK_e, skK_e, gdA_e, skA_e, pkK_e]); simp (maxSteps := 10000000) (disch := omega) only [ir25, List.length_map, go_sem, ↓reduceIte, Nat.reduceEqDiff, Nat.reduceSub, Nat.reduceLeDiff, Nat.reduceAdd, Int.reduceEq, Int.reduceLT, Int.reduceLE]
  refine call_with (okClone (es := l.map verE) rfl rfl (.inr rfl) (by simp; omega) rfl) ?_
  (try simp only [brK_e, gdK_e, skK_e, gdA_e, skA_e, pkK_e]); simp (maxSteps := 10000000) (disch := omega) only [List.length_map, go_sem, ↓reduceIte, Nat.reduceEqDiff, Nat.reduceSub, Nat.reduceLeDiff, Nat.reduceAdd, Int.reduceEq, Int.reduceLT, Int.reduceLE]
  refine loop_ok mixed (stAdd f l g bs v) (fun k => k ≤ bs.length ∧ ∀ b ∈ bs.take k, findV l b.1 b.2 ≠ none) (fun k => bs.length - k) 0 (by simp) (weak_mk ?_ ?_) fun k hk => ?_
  · (try simp only [brK_e, gdK_e, skK_e, gdA_e, skA_e, pkK_e]); simp (maxSteps := 10000000) (disch := omega) only [go_sem, ↓reduceIte, Nat.reduceEqDiff, Nat.reduceSub, Nat.reduceLeDiff, Nat.reduceAdd, Int.reduceEq, Int.reduceLT, Int.reduceLE]
  · (try simp only [brK_e, gdK_e, skK_e, gdA_e, skA_e, pkK_e]); simp (maxSteps := 10000000) (disch := omega) only [List.take_zero, markL_nil, go_sem, ↓reduceIte, Nat.reduceEqDiff, Nat.reduceSub, Nat.reduceLeDiff, Nat.reduceAdd, Int.reduceEq, Int.reduceLT, Int.reduceLE]
  obtain ⟨hk1, hk2⟩ := hk
  have hsM := markL_sorted (bs := bs.take k) (r := v.rep) (q := v.seq) hs
  have hlM := markL_len l (bs.take k) v.rep v.seq
  have haM := fun r q => atL_mark (bs.take k) v.rep v.seq r q l 0
  by_cases hlt : k < bs.length
  · have he : (bs.map idE)[k]? = some (idE bs[k]) := by simp [hlt]
    have ht : bs.take (k + 1) = bs.take k ++ [bs[k]] := by rw [List.take_add_one, List.getElem?_eq_getElem hlt]; rfl
    have hb : bs[k] ∈ bs := List.getElem_mem hlt
    generalize bs[k] = b at *
    (try simp only [brK_e, gdK_e, skK_e, gdA_e, skA_e, pkK_e]); simp (maxSteps := 10000000) (disch := omega) only [stAdd, List.length_map, he, ld_id, go_sem, ↓reduceIte, Nat.reduceEqDiff, Nat.reduceSub, Nat.reduceLeDiff, Nat.reduceAdd, Int.reduceEq, Int.reduceLT, Int.reduceLE]
    refine call_with (okAt (l := markL l (bs.take k) v.rep v.seq) b.1 b.2 rfl rfl (by omega)) ?_
    rcases ha : atL (markL l (bs.take k) v.rep v.seq) b.1 b.2 0 with ⟨i, is⟩
    have ha' := ha
    rw [haM] at ha'
    cases is with
    | false =>
      obtain ⟨_, _, g3, _⟩ := atL_false hs ha'
      (try simp only [brK_e, gdK_e, skK_e, gdA_e, skA_e, pkK_e]); simp (maxSteps := 10000000) (disch := omega) only [go_sem, ↓reduceIte, Nat.reduceEqDiff, Nat.reduceSub, Nat.reduceLeDiff, Nat.reduceAdd, Int.reduceEq, Int.reduceLT, Int.reduceLE]
      exact h1 ⟨b, hb, g3⟩ _
    | true =>
      obtain ⟨_, u, g2, g3, g4⟩ := atL_true ha
      obtain ⟨_, u', _, _, g5⟩ := atL_true ha'
      have hu : (markL l (bs.take k) v.rep v.seq)[i]? = some u := by simpa using g2
      have hi : i < (markL l (bs.take k) v.rep v.seq).length := (List.getElem?_eq_some_iff.1 hu).1
      have heu : ((markL l (bs.take k) v.rep v.seq).map verE)[i]? = some (verE u) := by rw [List.getElem?_map, hu]; rfl
      have hm := mark_set (b := b) hs hu g3
      have hgd : ((markL l (bs.take k) v.rep v.seq).map verE).getD i [] = verE u := by rw [List.getD_eq_getElem?_getD, heu]; rfl
      (try simp only [brK_e, gdK_e, skK_e, gdA_e, skA_e, pkK_e]); simp (maxSteps := 10000000) (disch := omega) only [List.length_map, heu, ld_verBy, ld_verId, go_sem, ↓reduceIte, Nat.reduceEqDiff, Nat.reduceSub, Nat.reduceLeDiff, Nat.reduceAdd, Int.reduceEq, Int.reduceLT, Int.reduceLE]
      refine call_with (okWith _ _ _) ?_
      have hw : splice (verE u) 3 (vE (withV u.gone v.rep v.seq)) = verE (markV u v.rep v.seq) := splice_by _ _
      (try simp only [brK_e, gdK_e, skK_e, gdA_e, skA_e, pkK_e]); simp (maxSteps := 10000000) (disch := omega) only [List.length_map, heu, hgd, hw, go_sem, ↓reduceIte, Nat.reduceEqDiff, Nat.reduceSub, Nat.reduceLeDiff, Nat.reduceAdd, Int.reduceEq, Int.reduceLT, Int.reduceLE]
      refine loop_next (k + 1) _ _ rfl ⟨by omega, fun c hc => ?_⟩ (by omega) ?_ ?_
      · rw [ht] at hc
        rcases List.mem_append.1 hc with hc | hc
        · exact hk2 c hc
        · simp at hc; subst hc; rw [g5]; simp
      · (try simp only [brK_e, gdK_e, skK_e, gdA_e, skA_e, pkK_e]); simp (maxSteps := 10000000) (disch := omega) only [List.length_map, go_sem, ↓reduceIte, Nat.reduceEqDiff, Nat.reduceSub, Nat.reduceLeDiff, Nat.reduceAdd, Int.reduceEq, Int.reduceLT, Int.reduceLE]
      · (try simp only [brK_e, gdK_e, skK_e, gdA_e, skA_e, pkK_e]); simp (maxSteps := 10000000) (disch := omega) only [go_sem, ↓reduceIte, Nat.reduceEqDiff, Nat.reduceSub, Nat.reduceLeDiff, Nat.reduceAdd, Int.reduceEq, Int.reduceLT, Int.reduceLE]
        rw [ht, ← hm, List.map_set]
  · obtain rfl : k = bs.length := by omega
    have hmiss : ¬ missing l bs := fun ⟨b, hb, e⟩ => hk2 b (by rw [List.take_length]; exact hb) e
    rw [List.take_length] at hsM hlM haM
    have e := List.take_length (l := bs)
    (try simp only [brK_e, gdK_e, skK_e, gdA_e, skA_e, pkK_e]); simp (maxSteps := 10000000) (disch := omega) only [stAdd, e, ld_verId, go_sem, ↓reduceIte, Nat.reduceEqDiff, Nat.reduceSub, Nat.reduceLeDiff, Nat.reduceAdd, Int.reduceEq, Int.reduceLT, Int.reduceLE]
    refine call_with (okAt (l := markL l bs v.rep v.seq) v.rep v.seq rfl rfl (by omega)) ?_
    rcases ha : atL (markL l bs v.rep v.seq) v.rep v.seq 0 with ⟨i, is⟩
    have ha' := ha
    rw [haM] at ha'
    cases is with
    | true =>
      obtain ⟨_, u', _, _, g5⟩ := atL_true ha'
      (try simp only [brK_e, gdK_e, skK_e, gdA_e, skA_e, pkK_e]); simp (maxSteps := 10000000) (disch := omega) only [go_sem, ↓reduceIte, Nat.reduceEqDiff, Nat.reduceSub, Nat.reduceLeDiff, Nat.reduceAdd, Int.reduceEq, Int.reduceLT, Int.reduceLE]
      exact h2 hmiss (by rw [g5]; rfl) _
    | false =>
      obtain ⟨_, g2, g3, _⟩ := atL_false hs ha'
      (try simp only [brK_e, gdK_e, skK_e, gdA_e, skA_e, pkK_e]); simp (maxSteps := 10000000) (disch := omega) only [hv, go_sem, ↓reduceIte, Nat.reduceEqDiff, Nat.reduceSub, Nat.reduceLeDiff, Nat.reduceAdd, Int.reduceEq, Int.reduceLT, Int.reduceLE]
      refine call_with (okIns_16_55 ((markL l bs v.rep v.seq).map verE) (verE v) i (by simp [hlM]; omega) (by simp [hlM]; omega) (by intro c hc; obtain ⟨x, _, rfl⟩ := List.mem_map.1 hc; exact verE_len x) hv rfl rfl) ?_
      (try simp only [brK_e, gdK_e, skK_e, gdA_e, skA_e, pkK_e]); simp (maxSteps := 10000000) (disch := omega) only [go_sem, ↓reduceIte, Nat.reduceEqDiff, Nat.reduceSub, Nat.reduceLeDiff, Nat.reduceAdd, Int.reduceEq, Int.reduceLT, Int.reduceLE]
      refine h3 hmiss g3 _ _ ?_
      (try simp only [brK_e, gdK_e, skK_e, gdA_e, skA_e, pkK_e]); simp (maxSteps := 10000000) (disch := omega) only [go_sem, ↓reduceIte, Nat.reduceEqDiff, Nat.reduceSub, Nat.reduceLeDiff, Nat.reduceAdd, Int.reduceEq, Int.reduceLT, Int.reduceLE]
      simp [addL, ha', List.map_take, List.map_drop]
end Go.Proofs.Ytmeecblciegkkaa.Fw
namespace Go.Proofs.Ytmeecblciegkkaa.Fw
open Go.RowKit Go.Proofs
def addArgs (l : SV) (bs : SV) (v : Ver) : List SV := [l, bs, .vec 11 (verE v)]
theorem okAdd_none {x y : SV} {f g : Bool} {l : List Ver} {bs : List Idn} {v : Ver} {h d} (hx : lents h [x, y, .vec 11 (verE v)] = [.pv (.sl f 11 (l.map verE)), .pv (.sl g 2 (bs.map idE)), .vec 11 (verE v)]) (hl : lendable [x, y, .vec 11 (verE v)] = true)
    (hs : SortedV l) (hn : l.length ≤ 900) (hbn : bs.length ≤ 900) (hm : missing l bs) :
    FunOk Try.prog 25 [x, y, .vec 11 (verE v)] h d (.tup [.pv (.sl true 0 []), .pv (.i .i64 2)]) [] := by
  refine fun_scalar mixed fn25 (by simp) hl rfl fun F => ?_
  rw [hx]
  exact addWalk hs hn hbn (fun _ _ => rfl) (fun h => absurd hm h) (fun h => absurd hm h)
theorem okAdd_old {x y : SV} {f g : Bool} {l : List Ver} {bs : List Idn} {v : Ver} {h d} (hx : lents h [x, y, .vec 11 (verE v)] = [.pv (.sl f 11 (l.map verE)), .pv (.sl g 2 (bs.map idE)), .vec 11 (verE v)]) (hl : lendable [x, y, .vec 11 (verE v)] = true)
    (hs : SortedV l) (hn : l.length ≤ 900) (hbn : bs.length ≤ 900) (hm : ¬ missing l bs) (ho : (findV l v.rep v.seq).isSome = true) :
    FunOk Try.prog 25 [x, y, .vec 11 (verE v)] h d (.tup [.pv (.sl true 0 []), .pv (.i .i64 11)]) [] := by
  refine fun_scalar mixed fn25 (by simp) hl rfl fun F => ?_
  rw [hx]
  exact addWalk hs hn hbn (fun h => absurd h hm) (fun _ _ _ => rfl) (fun _ h => by rw [h] at ho; cases ho)
theorem okAdd {x y : SV} {f g : Bool} {l : List Ver} {bs : List Idn} {v : Ver} {h d} (hx : lents h [x, y, .vec 11 (verE v)] = [.pv (.sl f 11 (l.map verE)), .pv (.sl g 2 (bs.map idE)), .vec 11 (verE v)]) (hl : lendable [x, y, .vec 11 (verE v)] = true)
    (hs : SortedV l) (hn : l.length ≤ 900) (hbn : bs.length ≤ 900) (hm : ¬ missing l bs) (ho : findV l v.rep v.seq = none) :
    FunOk Try.prog 25 [x, y, .vec 11 (verE v)] h d (.tup [.os d, .pv (.i .i64 0)]) [.new d (.row 11 ((addL l bs v).map verE))] := by
  refine fun_row2 mixed fn25 (by simp) hl (.inr (verE_flat _)) rfl fun F => ?_
  rw [hx]
  exact addWalk hs hn hbn (fun h => absurd h hm) (fun _ h => by rw [ho] at h; cases h) (fun _ _ g n hg => ⟨n, rfl, hg⟩)
/-- the document's answer, up to k -/
def outK (M : List Ver) (v : Ver) (p k : Nat) : List Ver := if p < k then (M.take k).take p ++ v :: (M.take k).drop p else M.take k
theorem outK_len (M : List Ver) (v : Ver) (p k : Nat) (hk : k ≤ M.length) : (outK M v p k).length ≤ k + 1 := by
  unfold outK; split <;> simp <;> omega
def stAddR1 (f : Bool) (l : List Ver) (g : Bool) (bs : List Idn) (v : Ver) (k : Nat) : FS := mk [(8, .pv (.i .i64 k)), (0, .pv (.sl f 11 (l.map verE))), (1, .pv (.sl g 2 (bs.map idE))), (5, .p 5 0)]
  [(5, some (.var (.vec 11 (verE v))))]
def stAddR2 (f : Bool) (l : List Ver) (g : Bool) (bs : List Idn) (v : Ver) (M : List Ver) (p k : Nat) : FS := mk [(13, .pv (.i .i64 k)), (12, .pv (.b (decide (p < k)))), (11, .os 16), (0, .pv (.sl f 11 (l.map verE))), (1, .pv (.sl g 2 (bs.map idE))), (5, .p 5 0)]
  [(5, some (.var (.vec 11 (verE v)))), (16, some (.row 11 ((outK M v p k).map verE)))]
def stAddR3 (f : Bool) (l : List Ver) (g : Bool) (bs : List Idn) (v : Ver) (k : Nat) (b : Bool) (o : List Ver) (x : Ver) (j : Nat) : FS := mk [(15, .pv (.i .i64 j)), (14, .p 14 0), (13, .pv (.i .i64 k)), (12, .pv (.b b)), (11, .os 16), (0, .pv (.sl f 11 (l.map verE))), (1, .pv (.sl g 2 (bs.map idE))), (5, .p 5 0)]
  [(5, some (.var (.vec 11 (verE v)))), (16, some (.row 11 (o.map verE))), (14, some (.var (.vec 11 (verE (if (x.rep, x.seq) ∈ bs.take j then markV x v.rep v.seq else x)))))]
theorem verE_gone {x : Ver} {a b : Vc} (h : ∀ i, i < 8 → a i = b i) : verE { x with gone := a } = verE { x with gone := b } := by
  simp only [verE, vE_ext h]
theorem join_one (x : Ver) (c : Prop) [Decidable c] (r : Int) (q : Nat) : verE { (if c then markV x r q else x) with gone := vJoin (if c then markV x r q else x).gone (oneV r q) } = verE (markV x r q) := by
  have h1 : (if c then markV x r q else x).rep = x.rep := by split <;> rfl
  have h2 : (if c then markV x r q else x).seq = x.seq := by split <;> rfl
  have h3 : (if c then markV x r q else x).data = x.data := by split <;> rfl
  have h4 : ∀ i, i < 8 → vJoin (if c then markV x r q else x).gone (oneV r q) i = (withV x.gone r q) i := by
    intro i hi
    rw [← with_one _ _ _ i hi]
    split
    · simp only [markV, withV_idem]
    · rfl
  show _ = verE { x with gone := withV x.gone r q }
  simp only [verE, h1, h2, h3, vE_ext h4]
theorem outK_lt {M : List Ver} {v : Ver} {p k : Nat} {x : Ver} (h : p < k) (hx : M[k]? = some x) : outK M v p (k + 1) = outK M v p k ++ [x] := by
  have hk : k < M.length := (List.getElem?_eq_some_iff.1 hx).1
  unfold outK
  rw [if_pos h, if_pos (by omega), List.take_add_one, hx]
  simp only [Option.toList_some]
  rw [List.take_append_of_le_length (by simp; omega), List.drop_append_of_le_length (by simp; omega)]
  simp
theorem outK_eq {M : List Ver} {v : Ver} {k : Nat} {x : Ver} (hx : M[k]? = some x) : outK M v k (k + 1) = outK M v k k ++ [v] ++ [x] := by
  have hk : k < M.length := (List.getElem?_eq_some_iff.1 hx).1
  have hl : (M.take k).length = k := by simp; omega
  unfold outK
  rw [if_neg (Nat.lt_irrefl k), if_pos (by omega), List.take_add_one, hx]
  simp only [Option.toList_some]
  rw [List.take_append_of_le_length (by omega), List.take_of_length_le (by omega), List.drop_append_of_le_length (by omega), List.drop_of_length_le (by omega)]
  simp
theorem outK_gt {M : List Ver} {v : Ver} {p k : Nat} {x : Ver} (h : k < p) (hx : M[k]? = some x) : outK M v p (k + 1) = outK M v p k ++ [x] := by
  unfold outK
  rw [if_neg (by omega), if_neg (by omega), List.take_add_one, hx]; rfl
theorem findV_0 {l : List Ver} {b : Idn} : dataV l b.1 b.2 = dataV l b.1 b.2 := rfl
set_option maxHeartbeats 4000000 in
theorem addWalkR {F : Fr} {f : Bool} {l : List Ver} {g : Bool} {bs : List Idn} {v : Ver} {R : SV → (Nat → Option Blk) → Prop} (hs : SortedV l) (hn : l.length ≤ 900) (hbn : bs.length ≤ 900)
    (h1 : missing l bs → ∀ h, R (.tup [.pv (.sl true 0 []), .pv (.i .i64 2)]) h)
    (h2 : ¬ missing l bs → (findV l v.rep v.seq).isSome = true → ∀ h, R (.tup [.pv (.sl true 0 []), .pv (.i .i64 11)]) h)
    (h3 : ¬ missing l bs → findV l v.rep v.seq = none → ∀ h n, h n = some (.row 11 ((addL l bs v).map verE)) → R (.tup [.os n, .pv (.i .i64 0)]) h) :
    sx (env Try.prog F 118) ir28 (RetQ [.t 6, .t 7] R) (mk (argT 0 [.pv (.sl f 11 (l.map verE)), .pv (.sl g 2 (bs.map idE)), .vec 11 (verE v)]) []) := by
  have hv := verE_len v
  (try simp only [brK_e, gdK_e, skK_e, gdA_e, skA_e, pkK_e]); simp (maxSteps := 10000000) (disch := omega) only [ir28, List.length_map, go_sem, ↓reduceIte, Nat.reduceEqDiff, Nat.reduceSub, Nat.reduceLeDiff, Nat.reduceAdd, Int.reduceEq, Int.reduceLT, Int.reduceLE]
  refine loop_ok mixed (stAddR1 f l g bs v) (fun k => k ≤ bs.length ∧ ∀ b ∈ bs.take k, findV l b.1 b.2 ≠ none) (fun k => bs.length - k) 0 (by simp) (weak_mk ?_ ?_) fun k hk => ?_
  · (try simp only [brK_e, gdK_e, skK_e, gdA_e, skA_e, pkK_e]); simp (maxSteps := 10000000) (disch := omega) only [go_sem, ↓reduceIte, Nat.reduceEqDiff, Nat.reduceSub, Nat.reduceLeDiff, Nat.reduceAdd, Int.reduceEq, Int.reduceLT, Int.reduceLE]
  · (try simp only [brK_e, gdK_e, skK_e, gdA_e, skA_e, pkK_e]); simp (maxSteps := 10000000) (disch := omega) only [go_sem, ↓reduceIte, Nat.reduceEqDiff, Nat.reduceSub, Nat.reduceLeDiff, Nat.reduceAdd, Int.reduceEq, Int.reduceLT, Int.reduceLE]
  obtain ⟨hk1, hk2⟩ := hk
  by_cases hlt : k < bs.length
  · have he : (bs.map idE)[k]? = some (idE bs[k]) := by simp [hlt]
    have ht : bs.take (k + 1) = bs.take k ++ [bs[k]] := by rw [List.take_add_one, List.getElem?_eq_getElem hlt]; rfl
    have hb : bs[k] ∈ bs := List.getElem_mem hlt
    generalize bs[k] = b at *
    have c0 : LoadK (some (idE b)) 0 1 false = fun K => K (.pv (.i .i64 b.1)) [] := by
      funext K; simp only [LoadK, ldX, eq_iff_iff]; exact ⟨fun h => h.2.2, fun h => ⟨by simp [idE], .inr trivial, h⟩⟩
    have c1 : LoadK (some (idE b)) 1 1 false = fun K => K (.pv (.i .u32 b.2)) [] := by
      funext K; simp only [LoadK, ldX, eq_iff_iff]; exact ⟨fun h => h.2.2, fun h => ⟨by simp [idE], .inr trivial, h⟩⟩
    (try simp only [brK_e, gdK_e, skK_e, gdA_e, skA_e, pkK_e]); simp (maxSteps := 10000000) (disch := omega) only [stAddR1, List.length_map, he, ld_id, go_sem, ↓reduceIte, Nat.reduceEqDiff, Nat.reduceSub, Nat.reduceLeDiff, Nat.reduceAdd, Int.reduceEq, Int.reduceLT, Int.reduceLE]
    refine call_with (okDataR (l := l) b.1 b.2 rfl rfl (by omega)) ?_
    have go : findV l b.1 b.2 ≠ none → (k + 1 ≤ bs.length ∧ ∀ c ∈ bs.take (k + 1), findV l c.1 c.2 ≠ none) := fun hne => ⟨by omega, fun c hc => by
      rw [ht] at hc
      rcases List.mem_append.1 hc with hc | hc
      · exact hk2 c hc
      · simp at hc; subst hc; exact hne⟩
    by_cases hz : b.1 = 0 ∧ b.2 = 0
    · obtain ⟨b1, b2⟩ := b
      obtain ⟨rfl, rfl⟩ : b1 = 0 ∧ b2 = 0 := hz
      rw [dataV_0 ⟨rfl, rfl⟩]
      (try simp only [brK_e, gdK_e, skK_e, gdA_e, skA_e, pkK_e]); simp (maxSteps := 10000000) (disch := omega) only [List.length_map, he, c0, c1, ld_id, Int.natCast_zero, go_sem, ↓reduceIte, Nat.reduceEqDiff, Nat.reduceSub, Nat.reduceLeDiff, Nat.reduceAdd, Int.reduceEq, Int.reduceLT, Int.reduceLE]
      refine call_with (okHas (l := l) 0 0 rfl rfl (by omega)) ?_
      cases hf : findV l 0 0 with
      | none =>
        (try simp only [brK_e, gdK_e, skK_e, gdA_e, skA_e, pkK_e]); simp (maxSteps := 10000000) (disch := omega) only [Option.isSome_none, go_sem, ↓reduceIte, Nat.reduceEqDiff, Nat.reduceSub, Nat.reduceLeDiff, Nat.reduceAdd, Int.reduceEq, Int.reduceLT, Int.reduceLE]
        exact h1 ⟨_, hb, hf⟩ _
      | some u =>
        (try simp only [brK_e, gdK_e, skK_e, gdA_e, skA_e, pkK_e]); simp (maxSteps := 10000000) (disch := omega) only [Option.isSome_some, go_sem, ↓reduceIte, Nat.reduceEqDiff, Nat.reduceSub, Nat.reduceLeDiff, Nat.reduceAdd, Int.reduceEq, Int.reduceLT, Int.reduceLE]
        refine loop_next (k + 1) _ _ rfl (go (by rw [hf]; simp)) (by omega) ?_ ?_
        · (try simp only [brK_e, gdK_e, skK_e, gdA_e, skA_e, pkK_e]); simp (maxSteps := 10000000) (disch := omega) only [go_sem, ↓reduceIte, Nat.reduceEqDiff, Nat.reduceSub, Nat.reduceLeDiff, Nat.reduceAdd, Int.reduceEq, Int.reduceLT, Int.reduceLE]
        · (try simp only [brK_e, gdK_e, skK_e, gdA_e, skA_e, pkK_e]); simp (maxSteps := 10000000) (disch := omega) only [go_sem, ↓reduceIte, Nat.reduceEqDiff, Nat.reduceSub, Nat.reduceLeDiff, Nat.reduceAdd, Int.reduceEq, Int.reduceLT, Int.reduceLE]
    · cases hf : findV l b.1 b.2 with
      | none =>
        rw [dataV_n hz hf]
        (try simp only [brK_e, gdK_e, skK_e, gdA_e, skA_e, pkK_e]); simp (maxSteps := 10000000) (disch := omega) only [go_sem, ↓reduceIte, Nat.reduceEqDiff, Nat.reduceSub, Nat.reduceLeDiff, Nat.reduceAdd, Int.reduceEq, Int.reduceLT, Int.reduceLE]
        exact h1 ⟨b, hb, hf⟩ _
      | some u =>
        rw [dataV_s hz hf]
        by_cases hz1 : b.1 = 0
        · have hz2 : ¬ (b.2 : Int) = 0 := by omega
          (try simp only [brK_e, gdK_e, skK_e, gdA_e, skA_e, pkK_e]); simp (maxSteps := 10000000) (disch := omega) only [List.length_map, he, c0, c1, hz1, hz2, go_sem, ↓reduceIte, Nat.reduceEqDiff, Nat.reduceSub, Nat.reduceLeDiff, Nat.reduceAdd, Int.reduceEq, Int.reduceLT, Int.reduceLE]
          refine loop_next (k + 1) _ _ rfl (go (by rw [hf]; simp)) (by omega) ?_ ?_
          · (try simp only [brK_e, gdK_e, skK_e, gdA_e, skA_e, pkK_e]); simp (maxSteps := 10000000) (disch := omega) only [go_sem, ↓reduceIte, Nat.reduceEqDiff, Nat.reduceSub, Nat.reduceLeDiff, Nat.reduceAdd, Int.reduceEq, Int.reduceLT, Int.reduceLE]
          · (try simp only [brK_e, gdK_e, skK_e, gdA_e, skA_e, pkK_e]); simp (maxSteps := 10000000) (disch := omega) only [go_sem, ↓reduceIte, Nat.reduceEqDiff, Nat.reduceSub, Nat.reduceLeDiff, Nat.reduceAdd, Int.reduceEq, Int.reduceLT, Int.reduceLE]
        · (try simp only [brK_e, gdK_e, skK_e, gdA_e, skA_e, pkK_e]); simp (maxSteps := 10000000) (disch := omega) only [List.length_map, he, c0, c1, hz1, go_sem, ↓reduceIte, Nat.reduceEqDiff, Nat.reduceSub, Nat.reduceLeDiff, Nat.reduceAdd, Int.reduceEq, Int.reduceLT, Int.reduceLE]
          refine loop_next (k + 1) _ _ rfl (go (by rw [hf]; simp)) (by omega) ?_ ?_
          · (try simp only [brK_e, gdK_e, skK_e, gdA_e, skA_e, pkK_e]); simp (maxSteps := 10000000) (disch := omega) only [go_sem, ↓reduceIte, Nat.reduceEqDiff, Nat.reduceSub, Nat.reduceLeDiff, Nat.reduceAdd, Int.reduceEq, Int.reduceLT, Int.reduceLE]
          · (try simp only [brK_e, gdK_e, skK_e, gdA_e, skA_e, pkK_e]); simp (maxSteps := 10000000) (disch := omega) only [go_sem, ↓reduceIte, Nat.reduceEqDiff, Nat.reduceSub, Nat.reduceLeDiff, Nat.reduceAdd, Int.reduceEq, Int.reduceLT, Int.reduceLE]
  · obtain rfl : k = bs.length := by omega
    have hmiss : ¬ missing l bs := fun ⟨b, hb, e⟩ => hk2 b (by rw [List.take_length]; exact hb) e
    have e := List.take_length (l := bs)
    (try simp only [brK_e, gdK_e, skK_e, gdA_e, skA_e, pkK_e]); simp (maxSteps := 10000000) (disch := omega) only [stAddR1, List.length_map, ld_verId, go_sem, ↓reduceIte, Nat.reduceEqDiff, Nat.reduceSub, Nat.reduceLeDiff, Nat.reduceAdd, Int.reduceEq, Int.reduceLT, Int.reduceLE]
    refine call_with (okHas (l := l) v.rep v.seq rfl rfl (by omega)) ?_
    cases hf : findV l v.rep v.seq with
    | some u =>
      (try simp only [brK_e, gdK_e, skK_e, gdA_e, skA_e, pkK_e]); simp (maxSteps := 10000000) (disch := omega) only [Option.isSome_some, go_sem, ↓reduceIte, Nat.reduceEqDiff, Nat.reduceSub, Nat.reduceLeDiff, Nat.reduceAdd, Int.reduceEq, Int.reduceLT, Int.reduceLE]
      exact h2 hmiss (by rw [hf]; rfl) _
    | none =>
      obtain ⟨p, hp⟩ : ∃ p, atL l v.rep v.seq 0 = (p, false) := by
        rcases ha : atL l v.rep v.seq 0 with ⟨p, b⟩
        cases b with
        | false => exact ⟨p, rfl⟩
        | true => obtain ⟨_, u, _, _, h4⟩ := atL_true ha; rw [hf] at h4; cases h4
      obtain ⟨_, g2, _, g4, g5, g6⟩ := atL_false hs hp
      rw [Nat.sub_zero] at g2 g5 g6
      have h3' := h3 hmiss hf
      simp only [addL, hp] at h3'
      have hM : ∀ k x, l[k]? = some x → (markL l bs v.rep v.seq)[k]? = some (if (x.rep, x.seq) ∈ bs then markV x v.rep v.seq else x) := fun k x hx => by unfold markL; rw [List.getElem?_map, hx]; rfl
      have hMl := markL_len l bs v.rep v.seq
      generalize markL l bs v.rep v.seq = M at *
      (try simp only [brK_e, gdK_e, skK_e, gdA_e, skA_e, pkK_e]); simp (maxSteps := 10000000) (disch := omega) only [Option.isSome_none, go_sem, ↓reduceIte, Nat.reduceEqDiff, Nat.reduceSub, Nat.reduceLeDiff, Nat.reduceAdd, Int.reduceEq, Int.reduceLT, Int.reduceLE]
      refine loop_ok mixed (stAddR2 f l g bs v M p) (fun k => k ≤ l.length) (fun k => l.length - k) 0 (by simp) (wk_nil 11 16 11 rfl (by omega) (weak_mk ?_ ?_)) fun k hk => ?_
      · (try simp only [brK_e, gdK_e, skK_e, gdA_e, skA_e, pkK_e]); simp (maxSteps := 10000000) (disch := omega) only [Nat.not_lt_zero, go_sem, ↓reduceIte, Nat.reduceEqDiff, Nat.reduceSub, Nat.reduceLeDiff, Nat.reduceAdd, Int.reduceEq, Int.reduceLT, Int.reduceLE]
      · (try simp only [brK_e, gdK_e, skK_e, gdA_e, skA_e, pkK_e]); simp (maxSteps := 10000000) (disch := omega) only [go_sem, ↓reduceIte, Nat.reduceEqDiff, Nat.reduceSub, Nat.reduceLeDiff, Nat.reduceAdd, Int.reduceEq, Int.reduceLT, Int.reduceLE]
        simp [outK]
      by_cases hlt : k < l.length
      · have he : (l.map verE)[k]? = some (verE l[k]) := by simp [hlt]
        have hx := hM k l[k] (List.getElem?_eq_getElem hlt)
        have ho := outK_len M v p k (by omega)
        have hl5 : p > k → idLt v.rep v.seq l[k].rep l[k].seq = false := fun h => by
          have := idLt_as (g5 l[k] (List.mem_take_iff_getElem.2 ⟨k, by omega, rfl⟩))
          simpa using this
        have hl6 : p = k → idLt v.rep v.seq l[k].rep l[k].seq = true := fun h => g6 l[k] (by
          subst h
          rw [List.drop_eq_getElem_cons hlt]; exact List.mem_cons_self)
        generalize l[k] = x at *
        have hxl := verE_len x
        rcases Nat.lt_trichotomy p k with hpk | hpk | hpk
        · have e1 : decide (p < k) = true := by simp [hpk]
          have e2 : decide (p < k + 1) = true := by simp; omega
          have eo := outK_lt (v := v) hpk hx
          (try simp only [brK_e, gdK_e, skK_e, gdA_e, skA_e, pkK_e]); simp (maxSteps := 10000000) (disch := omega) only [stAddR2, e1, List.length_map, he, ld_ver, hxl, go_sem, ↓reduceIte, Nat.reduceEqDiff, Nat.reduceSub, Nat.reduceLeDiff, Nat.reduceAdd, Int.reduceEq, Int.reduceLT, Int.reduceLE]
          refine loop_ok mixed (stAddR3 f l g bs v k true (outK M v p k) x) (fun j => j ≤ bs.length) (fun j => bs.length - j) 0 (by simp) (weak_mk ?_ ?_) fun j hj => ?_
          · (try simp only [brK_e, gdK_e, skK_e, gdA_e, skA_e, pkK_e]); simp (maxSteps := 10000000) (disch := omega) only [go_sem, ↓reduceIte, Nat.reduceEqDiff, Nat.reduceSub, Nat.reduceLeDiff, Nat.reduceAdd, Int.reduceEq, Int.reduceLT, Int.reduceLE]
          · (try simp only [brK_e, gdK_e, skK_e, gdA_e, skA_e, pkK_e]); simp (maxSteps := 10000000) (disch := omega) only [List.take_zero, List.not_mem_nil, go_sem, ↓reduceIte, Nat.reduceEqDiff, Nat.reduceSub, Nat.reduceLeDiff, Nat.reduceAdd, Int.reduceEq, Int.reduceLT, Int.reduceLE]
          have ex := mark_id x (bs.take j) v.rep v.seq
          by_cases hj2 : j < bs.length
          · have hbe : (bs.map idE)[j]? = some (idE bs[j]) := by simp [hj2]
            have ht : bs.take (j + 1) = bs.take j ++ [bs[j]] := by rw [List.take_add_one, List.getElem?_eq_getElem hj2]; rfl
            generalize bs[j] = b at *
            have hjn := join_one x ((x.rep, x.seq) ∈ bs.take j) v.rep v.seq
            have hsp := splice_by (if (x.rep, x.seq) ∈ bs.take j then markV x v.rep v.seq else x) (vJoin (if (x.rep, x.seq) ∈ bs.take j then markV x v.rep v.seq else x).gone (oneV v.rep v.seq))
            by_cases hb : b.1 = x.rep ∧ b.2 = x.seq
            · have hp := peqId_t hb
              have hb' : (x.rep, x.seq) = b := by rw [← hb.1, ← hb.2]
              (try simp only [brK_e, gdK_e, skK_e, gdA_e, skA_e, pkK_e]); simp (maxSteps := 10000000) (disch := omega) only [stAddR3, List.length_map, hbe, ld_id, ld_verId, ex.1, ex.2, fitsId, hp, ld_verBy, go_sem, ↓reduceIte, Nat.reduceEqDiff, Nat.reduceSub, Nat.reduceLeDiff, Nat.reduceAdd, Int.reduceEq, Int.reduceLT, Int.reduceLE]
              refine call_with (okWithR _ _ _) ?_
              (try simp only [brK_e, gdK_e, skK_e, gdA_e, skA_e, pkK_e]); simp (maxSteps := 10000000) (disch := omega) only [hsp, hjn, go_sem, ↓reduceIte, Nat.reduceEqDiff, Nat.reduceSub, Nat.reduceLeDiff, Nat.reduceAdd, Int.reduceEq, Int.reduceLT, Int.reduceLE]
              refine loop_next (j + 1) _ _ rfl (by omega) (by omega) ?_ ?_
              · (try simp only [brK_e, gdK_e, skK_e, gdA_e, skA_e, pkK_e]); simp (maxSteps := 10000000) (disch := omega) only [go_sem, ↓reduceIte, Nat.reduceEqDiff, Nat.reduceSub, Nat.reduceLeDiff, Nat.reduceAdd, Int.reduceEq, Int.reduceLT, Int.reduceLE]
              · (try simp only [brK_e, gdK_e, skK_e, gdA_e, skA_e, pkK_e]); simp (maxSteps := 10000000) (disch := omega) only [ht, hb', List.mem_append, List.mem_singleton, go_sem, ↓reduceIte, Nat.reduceEqDiff, Nat.reduceSub, Nat.reduceLeDiff, Nat.reduceAdd, Int.reduceEq, Int.reduceLT, Int.reduceLE]
            · have hp := peqId_f hb
              have hb' : ¬ (x.rep, x.seq) = b := fun e => hb (by rw [← e]; exact ⟨rfl, rfl⟩)
              (try simp only [brK_e, gdK_e, skK_e, gdA_e, skA_e, pkK_e]); simp (maxSteps := 10000000) (disch := omega) only [stAddR3, List.length_map, hbe, ld_id, ld_verId, ex.1, ex.2, fitsId, hp, go_sem, ↓reduceIte, Nat.reduceEqDiff, Nat.reduceSub, Nat.reduceLeDiff, Nat.reduceAdd, Int.reduceEq, Int.reduceLT, Int.reduceLE]
              refine loop_next (j + 1) _ _ rfl (by omega) (by omega) ?_ ?_
              · (try simp only [brK_e, gdK_e, skK_e, gdA_e, skA_e, pkK_e]); simp (maxSteps := 10000000) (disch := omega) only [go_sem, ↓reduceIte, Nat.reduceEqDiff, Nat.reduceSub, Nat.reduceLeDiff, Nat.reduceAdd, Int.reduceEq, Int.reduceLT, Int.reduceLE]
              · (try simp only [brK_e, gdK_e, skK_e, gdA_e, skA_e, pkK_e]); simp (maxSteps := 10000000) (disch := omega) only [ht, hb', List.mem_append, List.mem_singleton, or_false, go_sem, ↓reduceIte, Nat.reduceEqDiff, Nat.reduceSub, Nat.reduceLeDiff, Nat.reduceAdd, Int.reduceEq, Int.reduceLT, Int.reduceLE]
          · obtain rfl : j = bs.length := by omega
            have e := List.take_length (l := bs)
            have hxl2 := verE_len (if (x.rep, x.seq) ∈ bs then markV x v.rep v.seq else x)
            (try simp only [brK_e, gdK_e, skK_e, gdA_e, skA_e, pkK_e]); simp (maxSteps := 10000000) (disch := omega) only [stAddR3, e, List.length_map, ld_ver, hxl2, List.length_append, List.length_singleton, go_sem, ↓reduceIte, Nat.reduceEqDiff, Nat.reduceSub, Nat.reduceLeDiff, Nat.reduceAdd, Int.reduceEq, Int.reduceLT, Int.reduceLE]
            refine ⟨k + 1, by omega, by omega, wk_ren 110 16 (by decide) rfl (weak_mk ?_ ?_)⟩
            · (try simp only [brK_e, gdK_e, skK_e, gdA_e, skA_e, pkK_e]); simp (maxSteps := 10000000) (disch := omega) only [e2, go_sem, ↓reduceIte, Nat.reduceEqDiff, Nat.reduceSub, Nat.reduceLeDiff, Nat.reduceAdd, Int.reduceEq, Int.reduceLT, Int.reduceLE]
            · (try simp only [brK_e, gdK_e, skK_e, gdA_e, skA_e, pkK_e]); simp (maxSteps := 10000000) (disch := omega) only [eo, List.map_append, List.map_cons, List.map_nil, go_sem, ↓reduceIte, Nat.reduceEqDiff, Nat.reduceSub, Nat.reduceLeDiff, Nat.reduceAdd, Int.reduceEq, Int.reduceLT, Int.reduceLE]
        · subst hpk
          have e1 : decide (p < p) = false := by simp
          have e2 : decide (p < p + 1) = true := by simp
          have eo := outK_eq (v := v) hx
          have hl7 := hl6 rfl
          (try simp only [brK_e, gdK_e, skK_e, gdA_e, skA_e, pkK_e]); simp (maxSteps := 10000000) (disch := omega) only [stAddR2, e1, List.length_map, he, ld_verId, go_sem, ↓reduceIte, Nat.reduceEqDiff, Nat.reduceSub, Nat.reduceLeDiff, Nat.reduceAdd, Int.reduceEq, Int.reduceLT, Int.reduceLE]
          refine call_with (okLessR _ _ _ _) ?_
          (try simp only [brK_e, gdK_e, skK_e, gdA_e, skA_e, pkK_e]); simp (maxSteps := 10000000) (disch := omega) only [hl7, hv, List.length_map, he, ld_ver, hxl, go_sem, ↓reduceIte, Nat.reduceEqDiff, Nat.reduceSub, Nat.reduceLeDiff, Nat.reduceAdd, Int.reduceEq, Int.reduceLT, Int.reduceLE]
          refine loop_ok mixed (stAddR3 f l g bs v p true (outK M v p p ++ [v]) x) (fun j => j ≤ bs.length) (fun j => bs.length - j) 0 (by simp) (wk_ren 83 16 (by decide) rfl (weak_mk ?_ ?_)) fun j hj => ?_
          · (try simp only [brK_e, gdK_e, skK_e, gdA_e, skA_e, pkK_e]); simp (maxSteps := 10000000) (disch := omega) only [go_sem, ↓reduceIte, Nat.reduceEqDiff, Nat.reduceSub, Nat.reduceLeDiff, Nat.reduceAdd, Int.reduceEq, Int.reduceLT, Int.reduceLE]
          · (try simp only [brK_e, gdK_e, skK_e, gdA_e, skA_e, pkK_e]); simp (maxSteps := 10000000) (disch := omega) only [List.take_zero, List.not_mem_nil, List.map_append, List.map_cons, List.map_nil, go_sem, ↓reduceIte, Nat.reduceEqDiff, Nat.reduceSub, Nat.reduceLeDiff, Nat.reduceAdd, Int.reduceEq, Int.reduceLT, Int.reduceLE]
          have ex := mark_id x (bs.take j) v.rep v.seq
          by_cases hj2 : j < bs.length
          · have hbe : (bs.map idE)[j]? = some (idE bs[j]) := by simp [hj2]
            have ht : bs.take (j + 1) = bs.take j ++ [bs[j]] := by rw [List.take_add_one, List.getElem?_eq_getElem hj2]; rfl
            generalize bs[j] = b at *
            have hjn := join_one x ((x.rep, x.seq) ∈ bs.take j) v.rep v.seq
            have hsp := splice_by (if (x.rep, x.seq) ∈ bs.take j then markV x v.rep v.seq else x) (vJoin (if (x.rep, x.seq) ∈ bs.take j then markV x v.rep v.seq else x).gone (oneV v.rep v.seq))
            by_cases hb : b.1 = x.rep ∧ b.2 = x.seq
            · have hp := peqId_t hb
              have hb' : (x.rep, x.seq) = b := by rw [← hb.1, ← hb.2]
              (try simp only [brK_e, gdK_e, skK_e, gdA_e, skA_e, pkK_e]); simp (maxSteps := 10000000) (disch := omega) only [stAddR3, List.length_map, hbe, ld_id, ld_verId, ex.1, ex.2, fitsId, hp, ld_verBy, go_sem, ↓reduceIte, Nat.reduceEqDiff, Nat.reduceSub, Nat.reduceLeDiff, Nat.reduceAdd, Int.reduceEq, Int.reduceLT, Int.reduceLE]
              refine call_with (okWithR _ _ _) ?_
              (try simp only [brK_e, gdK_e, skK_e, gdA_e, skA_e, pkK_e]); simp (maxSteps := 10000000) (disch := omega) only [hsp, hjn, go_sem, ↓reduceIte, Nat.reduceEqDiff, Nat.reduceSub, Nat.reduceLeDiff, Nat.reduceAdd, Int.reduceEq, Int.reduceLT, Int.reduceLE]
              refine loop_next (j + 1) _ _ rfl (by omega) (by omega) ?_ ?_
              · (try simp only [brK_e, gdK_e, skK_e, gdA_e, skA_e, pkK_e]); simp (maxSteps := 10000000) (disch := omega) only [go_sem, ↓reduceIte, Nat.reduceEqDiff, Nat.reduceSub, Nat.reduceLeDiff, Nat.reduceAdd, Int.reduceEq, Int.reduceLT, Int.reduceLE]
              · (try simp only [brK_e, gdK_e, skK_e, gdA_e, skA_e, pkK_e]); simp (maxSteps := 10000000) (disch := omega) only [ht, hb', List.mem_append, List.mem_singleton, go_sem, ↓reduceIte, Nat.reduceEqDiff, Nat.reduceSub, Nat.reduceLeDiff, Nat.reduceAdd, Int.reduceEq, Int.reduceLT, Int.reduceLE]
            · have hp := peqId_f hb
              have hb' : ¬ (x.rep, x.seq) = b := fun e => hb (by rw [← e]; exact ⟨rfl, rfl⟩)
              (try simp only [brK_e, gdK_e, skK_e, gdA_e, skA_e, pkK_e]); simp (maxSteps := 10000000) (disch := omega) only [stAddR3, List.length_map, hbe, ld_id, ld_verId, ex.1, ex.2, fitsId, hp, go_sem, ↓reduceIte, Nat.reduceEqDiff, Nat.reduceSub, Nat.reduceLeDiff, Nat.reduceAdd, Int.reduceEq, Int.reduceLT, Int.reduceLE]
              refine loop_next (j + 1) _ _ rfl (by omega) (by omega) ?_ ?_
              · (try simp only [brK_e, gdK_e, skK_e, gdA_e, skA_e, pkK_e]); simp (maxSteps := 10000000) (disch := omega) only [go_sem, ↓reduceIte, Nat.reduceEqDiff, Nat.reduceSub, Nat.reduceLeDiff, Nat.reduceAdd, Int.reduceEq, Int.reduceLT, Int.reduceLE]
              · (try simp only [brK_e, gdK_e, skK_e, gdA_e, skA_e, pkK_e]); simp (maxSteps := 10000000) (disch := omega) only [ht, hb', List.mem_append, List.mem_singleton, or_false, go_sem, ↓reduceIte, Nat.reduceEqDiff, Nat.reduceSub, Nat.reduceLeDiff, Nat.reduceAdd, Int.reduceEq, Int.reduceLT, Int.reduceLE]
          · obtain rfl : j = bs.length := by omega
            have e := List.take_length (l := bs)
            have hxl2 := verE_len (if (x.rep, x.seq) ∈ bs then markV x v.rep v.seq else x)
            (try simp only [brK_e, gdK_e, skK_e, gdA_e, skA_e, pkK_e]); simp (maxSteps := 10000000) (disch := omega) only [stAddR3, e, List.length_map, ld_ver, hxl2, List.length_append, List.length_singleton, go_sem, ↓reduceIte, Nat.reduceEqDiff, Nat.reduceSub, Nat.reduceLeDiff, Nat.reduceAdd, Int.reduceEq, Int.reduceLT, Int.reduceLE]
            refine ⟨p + 1, by omega, by omega, wk_ren 110 16 (by decide) rfl (weak_mk ?_ ?_)⟩
            · (try simp only [brK_e, gdK_e, skK_e, gdA_e, skA_e, pkK_e]); simp (maxSteps := 10000000) (disch := omega) only [e2, go_sem, ↓reduceIte, Nat.reduceEqDiff, Nat.reduceSub, Nat.reduceLeDiff, Nat.reduceAdd, Int.reduceEq, Int.reduceLT, Int.reduceLE]
            · (try simp only [brK_e, gdK_e, skK_e, gdA_e, skA_e, pkK_e]); simp (maxSteps := 10000000) (disch := omega) only [eo, List.map_append, List.map_cons, List.map_nil, go_sem, ↓reduceIte, Nat.reduceEqDiff, Nat.reduceSub, Nat.reduceLeDiff, Nat.reduceAdd, Int.reduceEq, Int.reduceLT, Int.reduceLE]
        · have e1 : decide (p < k) = false := by simp; omega
          have e2 : decide (p < k + 1) = false := by simp; omega
          have eo := outK_gt (v := v) hpk hx
          have hl7 := hl5 hpk
          (try simp only [brK_e, gdK_e, skK_e, gdA_e, skA_e, pkK_e]); simp (maxSteps := 10000000) (disch := omega) only [stAddR2, e1, List.length_map, he, ld_verId, go_sem, ↓reduceIte, Nat.reduceEqDiff, Nat.reduceSub, Nat.reduceLeDiff, Nat.reduceAdd, Int.reduceEq, Int.reduceLT, Int.reduceLE]
          refine call_with (okLessR _ _ _ _) ?_
          (try simp only [brK_e, gdK_e, skK_e, gdA_e, skA_e, pkK_e]); simp (maxSteps := 10000000) (disch := omega) only [hl7, hv, List.length_map, he, ld_ver, hxl, go_sem, ↓reduceIte, Nat.reduceEqDiff, Nat.reduceSub, Nat.reduceLeDiff, Nat.reduceAdd, Int.reduceEq, Int.reduceLT, Int.reduceLE]
          refine loop_ok mixed (stAddR3 f l g bs v k false (outK M v p k) x) (fun j => j ≤ bs.length) (fun j => bs.length - j) 0 (by simp) (weak_mk ?_ ?_) fun j hj => ?_
          · (try simp only [brK_e, gdK_e, skK_e, gdA_e, skA_e, pkK_e]); simp (maxSteps := 10000000) (disch := omega) only [go_sem, ↓reduceIte, Nat.reduceEqDiff, Nat.reduceSub, Nat.reduceLeDiff, Nat.reduceAdd, Int.reduceEq, Int.reduceLT, Int.reduceLE]
          · (try simp only [brK_e, gdK_e, skK_e, gdA_e, skA_e, pkK_e]); simp (maxSteps := 10000000) (disch := omega) only [List.take_zero, List.not_mem_nil, go_sem, ↓reduceIte, Nat.reduceEqDiff, Nat.reduceSub, Nat.reduceLeDiff, Nat.reduceAdd, Int.reduceEq, Int.reduceLT, Int.reduceLE]
          have ex := mark_id x (bs.take j) v.rep v.seq
          by_cases hj2 : j < bs.length
          · have hbe : (bs.map idE)[j]? = some (idE bs[j]) := by simp [hj2]
            have ht : bs.take (j + 1) = bs.take j ++ [bs[j]] := by rw [List.take_add_one, List.getElem?_eq_getElem hj2]; rfl
            generalize bs[j] = b at *
            have hjn := join_one x ((x.rep, x.seq) ∈ bs.take j) v.rep v.seq
            have hsp := splice_by (if (x.rep, x.seq) ∈ bs.take j then markV x v.rep v.seq else x) (vJoin (if (x.rep, x.seq) ∈ bs.take j then markV x v.rep v.seq else x).gone (oneV v.rep v.seq))
            by_cases hb : b.1 = x.rep ∧ b.2 = x.seq
            · have hp := peqId_t hb
              have hb' : (x.rep, x.seq) = b := by rw [← hb.1, ← hb.2]
              (try simp only [brK_e, gdK_e, skK_e, gdA_e, skA_e, pkK_e]); simp (maxSteps := 10000000) (disch := omega) only [stAddR3, List.length_map, hbe, ld_id, ld_verId, ex.1, ex.2, fitsId, hp, ld_verBy, go_sem, ↓reduceIte, Nat.reduceEqDiff, Nat.reduceSub, Nat.reduceLeDiff, Nat.reduceAdd, Int.reduceEq, Int.reduceLT, Int.reduceLE]
              refine call_with (okWithR _ _ _) ?_
              (try simp only [brK_e, gdK_e, skK_e, gdA_e, skA_e, pkK_e]); simp (maxSteps := 10000000) (disch := omega) only [hsp, hjn, go_sem, ↓reduceIte, Nat.reduceEqDiff, Nat.reduceSub, Nat.reduceLeDiff, Nat.reduceAdd, Int.reduceEq, Int.reduceLT, Int.reduceLE]
              refine loop_next (j + 1) _ _ rfl (by omega) (by omega) ?_ ?_
              · (try simp only [brK_e, gdK_e, skK_e, gdA_e, skA_e, pkK_e]); simp (maxSteps := 10000000) (disch := omega) only [go_sem, ↓reduceIte, Nat.reduceEqDiff, Nat.reduceSub, Nat.reduceLeDiff, Nat.reduceAdd, Int.reduceEq, Int.reduceLT, Int.reduceLE]
              · (try simp only [brK_e, gdK_e, skK_e, gdA_e, skA_e, pkK_e]); simp (maxSteps := 10000000) (disch := omega) only [ht, hb', List.mem_append, List.mem_singleton, go_sem, ↓reduceIte, Nat.reduceEqDiff, Nat.reduceSub, Nat.reduceLeDiff, Nat.reduceAdd, Int.reduceEq, Int.reduceLT, Int.reduceLE]
            · have hp := peqId_f hb
              have hb' : ¬ (x.rep, x.seq) = b := fun e => hb (by rw [← e]; exact ⟨rfl, rfl⟩)
              (try simp only [brK_e, gdK_e, skK_e, gdA_e, skA_e, pkK_e]); simp (maxSteps := 10000000) (disch := omega) only [stAddR3, List.length_map, hbe, ld_id, ld_verId, ex.1, ex.2, fitsId, hp, go_sem, ↓reduceIte, Nat.reduceEqDiff, Nat.reduceSub, Nat.reduceLeDiff, Nat.reduceAdd, Int.reduceEq, Int.reduceLT, Int.reduceLE]
              refine loop_next (j + 1) _ _ rfl (by omega) (by omega) ?_ ?_
              · (try simp only [brK_e, gdK_e, skK_e, gdA_e, skA_e, pkK_e]); simp (maxSteps := 10000000) (disch := omega) only [go_sem, ↓reduceIte, Nat.reduceEqDiff, Nat.reduceSub, Nat.reduceLeDiff, Nat.reduceAdd, Int.reduceEq, Int.reduceLT, Int.reduceLE]
              · (try simp only [brK_e, gdK_e, skK_e, gdA_e, skA_e, pkK_e]); simp (maxSteps := 10000000) (disch := omega) only [ht, hb', List.mem_append, List.mem_singleton, or_false, go_sem, ↓reduceIte, Nat.reduceEqDiff, Nat.reduceSub, Nat.reduceLeDiff, Nat.reduceAdd, Int.reduceEq, Int.reduceLT, Int.reduceLE]
          · obtain rfl : j = bs.length := by omega
            have e := List.take_length (l := bs)
            have hxl2 := verE_len (if (x.rep, x.seq) ∈ bs then markV x v.rep v.seq else x)
            (try simp only [brK_e, gdK_e, skK_e, gdA_e, skA_e, pkK_e]); simp (maxSteps := 10000000) (disch := omega) only [stAddR3, e, List.length_map, ld_ver, hxl2, List.length_append, List.length_singleton, go_sem, ↓reduceIte, Nat.reduceEqDiff, Nat.reduceSub, Nat.reduceLeDiff, Nat.reduceAdd, Int.reduceEq, Int.reduceLT, Int.reduceLE]
            refine ⟨k + 1, by omega, by omega, wk_ren 110 16 (by decide) rfl (weak_mk ?_ ?_)⟩
            · (try simp only [brK_e, gdK_e, skK_e, gdA_e, skA_e, pkK_e]); simp (maxSteps := 10000000) (disch := omega) only [e2, go_sem, ↓reduceIte, Nat.reduceEqDiff, Nat.reduceSub, Nat.reduceLeDiff, Nat.reduceAdd, Int.reduceEq, Int.reduceLT, Int.reduceLE]
            · (try simp only [brK_e, gdK_e, skK_e, gdA_e, skA_e, pkK_e]); simp (maxSteps := 10000000) (disch := omega) only [eo, List.map_append, List.map_cons, List.map_nil, go_sem, ↓reduceIte, Nat.reduceEqDiff, Nat.reduceSub, Nat.reduceLeDiff, Nat.reduceAdd, Int.reduceEq, Int.reduceLT, Int.reduceLE]
      · obtain rfl : k = l.length := by omega
        by_cases hpl : p < l.length
        · have e1 : decide (p < l.length) = true := by simp [hpl]
          have e2 : outK M v p l.length = M.take p ++ v :: M.drop p := by unfold outK; rw [if_pos hpl, ← hMl, List.take_length]
          (try simp only [brK_e, gdK_e, skK_e, gdA_e, skA_e, pkK_e]); simp (maxSteps := 10000000) (disch := omega) only [stAddR2, e1, e2, List.length_map, go_sem, ↓reduceIte, Nat.reduceEqDiff, Nat.reduceSub, Nat.reduceLeDiff, Nat.reduceAdd, Int.reduceEq, Int.reduceLT, Int.reduceLE]
          exact h3' _ _ rfl
        · have e1 : decide (p < l.length) = false := by simp; omega
          have ep : p = M.length := by omega
          have e2 : outK M v p l.length = M := by unfold outK; rw [if_neg hpl, ← hMl, List.take_length]
          (try simp only [brK_e, gdK_e, skK_e, gdA_e, skA_e, pkK_e]); simp (maxSteps := 10000000) (disch := omega) only [stAddR2, e1, e2, hv, List.length_map, go_sem, ↓reduceIte, Nat.reduceEqDiff, Nat.reduceSub, Nat.reduceLeDiff, Nat.reduceAdd, Int.reduceEq, Int.reduceLT, Int.reduceLE]
          refine h3' _ _ ?_
          (try simp only [brK_e, gdK_e, skK_e, gdA_e, skA_e, pkK_e]); simp (maxSteps := 10000000) (disch := omega) only [go_sem, ↓reduceIte, Nat.reduceEqDiff, Nat.reduceSub, Nat.reduceLeDiff, Nat.reduceAdd, Int.reduceEq, Int.reduceLT, Int.reduceLE]
          simp [ep]
end Go.Proofs.Ytmeecblciegkkaa.Fw
namespace Go.Proofs.Ytmeecblciegkkaa.Fw
open Go.RowKit
/-! How an argument of any plain type that lies in a world reads in the small language. -/
noncomputable abbrev allOf (w : World) : View := viewOf w fun _ => False
theorem cell_view {w : World} {a : Addr} {v : Value} (h : w.cell? a = some v) : a.spot = none ∧ ∃ arr, allOf w a.block = some arr ∧ arr[a.off]? = some v := by
  unfold World.cell? at h
  split at h
  · rename_i c ty fr hb
    split at h
    · cases h
    · rename_i hs
      refine ⟨by cases hx : a.spot <;> simp_all, c, ?_, h⟩
      unfold allOf viewOf cellsAt
      simp [hb]
  · cases h
inductive Sh where
  | int (k : IntKind) | bool | str | arr (n : Nat) (s : Sh) | st (l : List Sh) | sl (s : Sh)
mutual
def Sh.w : Sh → Nat
  | .arr n s => n * s.w
  | .st l => Sh.wL l
  | _ => 1
def Sh.wL : List Sh → Nat
  | [] => 0
  | s :: l => s.w + Sh.wL l
end
mutual
def shB (P : Program) : Sh → TypeId → Bool
  | .int k, t => match P.underlying t with | some (.int k') => decide (k = k') | _ => false
  | .bool, t => match P.underlying t with | some .bool => true | _ => false
  | .str, t => match P.underlying t with | some .string => true | _ => false
  | .arr n s, t => match P.underlying t with | some (.array n' e) => decide (n = n') && decide (P.cellsOf e = s.w) && decide (P.cellsOf t = n * s.w) && shB P s e | _ => false
  | .st l, t => match P.underlying t with | some (.struct fs) => decide (P.cellsOf t = Sh.wL l) && shBL P l fs.toList 0 | _ => false
  | .sl s, t => match P.underlying t with | some (.slice e) => decide (P.cellsOf e = s.w) && decide (0 < s.w) && shB P s e | _ => false
def shBL (P : Program) : List Sh → List Field → Nat → Bool
  | [], [], _ => true
  | s :: l, f :: fs, off => decide (f.offset = off) && decide (P.cellsOf f.type = s.w) && shB P s f.type && shBL P l fs (off + s.w)
  | _, _, _ => false
end
mutual
/-- cells of a shape -/
def GC : Sh → List PV → Prop
  | .int k, cs => ∃ n, cs = [.i k n] ∧ (Lit.int k n).wf = true
  | .bool, cs => ∃ b, cs = [.b b]
  | .str, cs => ∃ l, cs = [.s l] ∧ l.length ≤ maxLen
  | .arr n s, cs => ∃ cc : List (List PV), cs = cc.flatten ∧ cc.length = n ∧ ∀ c ∈ cc, GC s c
  | .st l, cs => GCL l cs
  | .sl s, cs => ∃ es, cs = [.sl false s.w es] ∧ es.length ≤ maxLen ∧ ∀ c ∈ es, GC s c
def GCL : List Sh → List PV → Prop
  | [], cs => cs = []
  | s :: l, cs => ∃ c cs', cs = c ++ cs' ∧ GC s c ∧ GCL l cs'
end
theorem flat_len {w : Nat} : ∀ {cc : List (List PV)}, (∀ c ∈ cc, c.length = w) → cc.flatten.length = cc.length * w
  | [], _ => by simp
  | c :: cc, h => by
    rw [List.flatten_cons, List.length_append, flat_len fun c hc => h c (by simp [hc]), h c (by simp), List.length_cons, Nat.add_mul]; omega
mutual
theorem GC.len : ∀ {s : Sh} {cs : List PV}, GC s cs → cs.length = s.w
  | .int k, cs, h => by obtain ⟨n, rfl, _⟩ := h; rfl
  | .bool, cs, h => by obtain ⟨n, rfl⟩ := h; rfl
  | .str, cs, h => by obtain ⟨n, rfl, _⟩ := h; rfl
  | .arr n s, cs, h => by
    simp only [GC] at h
    obtain ⟨cc, rfl, rfl, h⟩ := h
    rw [flat_len fun c hc => GC.len (h c hc)]; rfl
  | .st l, cs, h => by simp only [GC] at h; simp only [Sh.w]; exact GCL.len h
  | .sl s, cs, h => by obtain ⟨n, rfl, _⟩ := h; rfl
theorem GCL.len : ∀ {l : List Sh} {cs : List PV}, GCL l cs → cs.length = Sh.wL l
  | [], cs, h => by simp only [GCL] at h; subst h; rfl
  | s :: l, cs, h => by
    simp only [GCL] at h
    obtain ⟨c, cs', rfl, h1, h2⟩ := h
    rw [List.length_append, GC.len h1, GCL.len h2]; rfl
end
theorem arr_GC {V : View} {s : Sh} : ∀ (n : Nat) (vs : List Value), vs.length = n * s.w → (∀ i, i < n → ∃ c, GC s c ∧ PCells V c ((vs.drop (i * s.w)).take s.w)) → ∃ cc : List (List PV), cc.length = n ∧ (∀ c ∈ cc, GC s c) ∧ PCells V cc.flatten vs
  | 0, vs, hl, h => by
    have : vs = [] := List.eq_nil_of_length_eq_zero (by omega)
    subst this
    exact ⟨[], rfl, by simp, PCells.nil⟩
  | n + 1, vs, hl, h => by
    rw [Nat.add_mul] at hl
    obtain ⟨c, g, p⟩ := h 0 (by omega)
    rw [Nat.zero_mul, List.drop_zero] at p
    obtain ⟨cc, e1, e2, e3⟩ := arr_GC (V := V) (s := s) n (vs.drop s.w) (by rw [List.length_drop]; omega) fun i hi => by
      obtain ⟨c', g', p'⟩ := h (i + 1) (by omega)
      refine ⟨c', g', ?_⟩
      rw [List.drop_drop, show s.w + i * s.w = (i + 1) * s.w from by rw [Nat.add_mul]; omega]
      exact p'
    refine ⟨c :: cc, by simp [e1], fun x hx => ?_, ?_⟩
    · rcases List.mem_cons.1 hx with rfl | hx
      · exact g
      · exact e2 x hx
    · rw [List.flatten_cons]
      have := PCells.append p e3
      rwa [List.take_append_drop] at this
theorem add_add {a : Addr} (h : a.spot = none) (i j : Nat) : (a.add i).add j = ⟨a.block, a.off + (i + j), none⟩ := by
  obtain ⟨b, o, sp⟩ := a
  simp only at h; subst h
  unfold Addr.add
  by_cases hi : i = 0
  · subst hi
    by_cases hj : j = 0
    · subst hj; simp
    · simp [hj]
  · by_cases hj : j = 0
    · subst hj; simp [hi]
    · simp [hi, hj]; omega
theorem slice_GC {w : World} {s : Sh} {a : Addr} {len cap : Nat} (hcap : len ≤ cap) (hw : 0 < s.w)
    (h : ∀ i, i < len → ∃ c vs, GC s c ∧ PCells (allOf w) c vs ∧ w.cells? 0 (a.add (i * s.w)) s.w = some vs) :
    ∃ es : List (List PV), es.length = len ∧ (∀ c ∈ es, GC s c) ∧ PConc (allOf w) (.sl false s.w es) (.slice (some a) len cap) := by
  by_cases h0 : len = 0
  · subst h0
    exact ⟨[], rfl, by simp, .sl false s.w [] (some a) cap (fun _ _ => undef) 0 0 #[] (by simp) (by simp) (by simp) (by simp) (by simp) (by simp)⟩
  · have h' : ∀ i, ∃ c vs, i < len → GC s c ∧ PCells (allOf w) c vs ∧ w.cells? 0 (a.add (i * s.w)) s.w = some vs := fun i => by
      by_cases hi : i < len
      · obtain ⟨c, vs, h1⟩ := h i hi; exact ⟨c, vs, fun _ => h1⟩
      · exact ⟨[], [], fun h => absurd h hi⟩
    obtain ⟨c, hc⟩ := Classical.axiomOfChoice h'
    obtain ⟨vs, hv⟩ := Classical.axiomOfChoice hc
    obtain ⟨g0, p0, k0⟩ := hv 0 (by omega)
    obtain ⟨_, l0, c0⟩ := World.cells?_some k0
    have c00 := c0 0 hw
    have hlen0 : 0 < (vs 0).length := by omega
    rw [List.getElem?_eq_getElem hlen0, Nat.zero_mul] at c00
    have e0 : (a.add 0).add 0 = a := by simp [Addr.add]
    rw [e0] at c00
    obtain ⟨hs, arr, harr, _⟩ := cell_view c00
    have hget : ∀ i j, i < len → j < s.w → arr[a.off + (i * s.w + j)]? = (vs i)[j]? := fun i j hi hj => by
      obtain ⟨_, _, k⟩ := hv i hi
      obtain ⟨_, ll, cc⟩ := World.cells?_some k
      have h1 := cc j hj
      have hlt : j < (vs i).length := by omega
      rw [List.getElem?_eq_getElem hlt, add_add hs] at h1
      obtain ⟨_, arr', ha', h2⟩ := cell_view h1
      simp only at ha' h2
      rw [harr] at ha'; cases ha'
      rw [h2, List.getElem?_eq_getElem hlt]
    have hel : ∀ i, i < len → ((List.range len).map c)[i]? = some (c i) := fun i hi => by simp [hi]
    refine ⟨(List.range len).map c, by simp, fun x hx => ?_, ?_⟩
    · obtain ⟨i, hi, rfl⟩ := List.mem_map.1 hx
      exact (hv i (by simpa using hi)).1
    · have e := PConc.sl (V := allOf w) false s.w ((List.range len).map c) (some a) cap (fun i j => (vs i).getD j undef) a.block a.off arr (by simpa using hcap) (by simp) (fun x hx => by
          obtain ⟨i, hi, rfl⟩ := List.mem_map.1 hx
          exact (hv i (by simpa using hi)).1.len) (fun _ => by
          obtain ⟨b, o, sp⟩ := a
          simp only at hs; subst hs
          exact ⟨rfl, harr⟩) (fun i j hi hj => by
          have hi' : i < len := by simpa using hi
          rw [hget i j hi' hj]
          have : j < (vs i).length := by
            obtain ⟨_, ll, _⟩ := World.cells?_some (hv i hi').2.2; omega
          simp [List.getD_eq_getElem?_getD, this]) (fun i j x y hx hy => by
          have hi' : i < len := by
            have := (List.getElem?_eq_some_iff.1 hx).1; simpa using this
          rw [hel i hi'] at hx; cases hx
          obtain ⟨v, hv1, hv2⟩ := (hv i hi').2.1.2 j y hy
          simp only [List.getD_eq_getElem?_getD, hv1, Option.getD_some]; exact hv2)
      simpa using e
section
variable {H : Type} {enc : TypeId × Value → H} {P : Program} {w : World} {spare : Nat → Bool} {held : Bool}
mutual
theorem trod_GC : ∀ (s : Sh) {t : TypeId} {fuel : Nat} {vs : List Value} {x}, shB P s t = true → DataW.trod enc P w 0 spare held fuel t vs = some x → ∃ cs, GC s cs ∧ PCells (allOf w) cs vs
  | .int k, t, fuel, vs, x, hs, h => by
    simp only [shB] at hs
    split at hs
    · rename_i k' hu
      obtain rfl := of_decide_eq_true hs
      obtain ⟨n, rfl, _, hw⟩ := DataW.trod_int hu h
      exact ⟨[.i k n], ⟨n, rfl, hw⟩, PCells.cons (.i _ _) PCells.nil⟩
    · cases hs
  | .bool, t, fuel, vs, x, hs, h => by
    simp only [shB] at hs
    split at hs
    · rename_i hu
      obtain ⟨n, rfl, _⟩ := DataW.trod_bool hu h
      exact ⟨[.b n], ⟨n, rfl⟩, PCells.cons (.b _) PCells.nil⟩
    · cases hs
  | .str, t, fuel, vs, x, hs, h => by
    simp only [shB] at hs
    split at hs
    · rename_i hu
      obtain ⟨b, rfl, _, hl⟩ := DataW.trod_string hu h
      refine ⟨[.s b.data.toList], ⟨b.data.toList, rfl, by simpa using hl⟩, PCells.cons ?_ PCells.nil⟩
      have := PConc.s (V := allOf w) b.data.toList
      simpa using this
    · cases hs
  | .arr n s, t, fuel, vs, x, hs, h => by
    simp only [shB] at hs
    split at hs
    · rename_i n' e hu
      simp only [Bool.and_eq_true, decide_eq_true_eq] at hs
      obtain ⟨⟨⟨rfl, h1⟩, h2⟩, h3⟩ := hs
      obtain ⟨xs, m, rfl, _, hl, hx, hg⟩ := DataW.trod_array hu h
      rw [h1] at hg
      obtain ⟨cc, e1, e2, e3⟩ := arr_GC (V := allOf w) (s := s) n vs (by rw [hl, h2]) fun i hi => by
        have := hg i hi
        rw [List.getElem?_eq_getElem (by omega)] at this
        exact trod_GC s h3 this
      exact ⟨cc.flatten, by simp only [GC]; exact ⟨cc, rfl, e1, e2⟩, e3⟩
    · cases hs
  | .st l, t, fuel, vs, x, hs, h => by
    simp only [shB] at hs
    split at hs
    · rename_i fs hu
      simp only [Bool.and_eq_true, decide_eq_true_eq] at hs
      obtain ⟨h2, h3⟩ := hs
      obtain ⟨xs, m, rfl, _, hl, hx, hg⟩ := DataW.trod_struct hu h
      obtain ⟨cs, e1, e2⟩ := trod_GCL l (off := 0) (vs := vs) h3 fun f hf => by
        obtain ⟨i, hi⟩ := List.mem_iff_getElem?.1 hf
        have hi2 : fs[i]? = some f := by simpa using hi
        have := hg i f hi2
        have hlt := (Array.getElem?_eq_some_iff.1 hi2).1
        rw [List.getElem?_eq_getElem (by omega)] at this
        exact ⟨_, _, this⟩
      rw [List.drop_zero, ← h2, ← hl, List.take_length] at e2
      exact ⟨cs, by simp only [GC]; exact e1, e2⟩
    · cases hs
  | .sl s, t, fuel, vs, x, hs, h => by
    simp only [shB] at hs
    split at hs
    · rename_i e hu
      simp only [Bool.and_eq_true, decide_eq_true_eq] at hs
      obtain ⟨⟨h1, h2⟩, h3⟩ := hs
      rcases DataW.trod_slice hu h with ⟨rfl, _⟩ | ⟨a, len, cap, elems, rest, n, rfl, rfl, _, _, hl, hm, hle, hg, _⟩
      · exact ⟨[.sl false s.w []], by simp only [GC]; exact ⟨[], rfl, by simp, by simp⟩, PCells.cons (.sl false s.w [] none 0 (fun _ _ => undef) 0 0 #[] (by simp) (by simp) (by simp) (by simp) (by simp) (by simp)) PCells.nil⟩
      · rw [h1] at hg
        obtain ⟨es, e1, e2, e3⟩ := slice_GC (w := w) (s := s) (a := a) hl h2 fun i hi => by
          have h4 := hg i hi
          rw [List.getElem?_eq_getElem (by omega)] at h4
          obtain ⟨vs, h5, h6⟩ := Option.bind_eq_some_iff.1 h4
          obtain ⟨c, g, p⟩ := trod_GC s h3 h6
          exact ⟨c, vs, g, p, h5⟩
        exact ⟨[.sl false s.w es], by simp only [GC]; exact ⟨es, rfl, by omega, e2⟩, PCells.cons e3 PCells.nil⟩
    · cases hs
theorem trod_GCL : ∀ (l : List Sh) {fs : List Field} {off : Nat} {vs : List Value}, shBL P l fs off = true →
    (∀ f ∈ fs, ∃ n x, DataW.trod enc P w 0 spare held n f.type ((vs.drop f.offset).take (P.cellsOf f.type)) = some x) → ∃ cs, GCL l cs ∧ PCells (allOf w) cs ((vs.drop off).take (Sh.wL l))
  | [], fs, off, vs, hs, h => ⟨[], by simp only [GCL], by simp only [Sh.wL, List.take_zero]; exact PCells.nil⟩
  | s :: l, [], off, vs, hs, h => by simp [shBL] at hs
  | s :: l, f :: fs, off, vs, hs, h => by
    simp only [shBL, Bool.and_eq_true, decide_eq_true_eq] at hs
    obtain ⟨⟨⟨h1, h2⟩, h3⟩, h4⟩ := hs
    obtain ⟨n, x, hx⟩ := h f (by simp)
    obtain ⟨c, g, p⟩ := trod_GC s h3 hx
    obtain ⟨cs, gl, pl⟩ := trod_GCL l (vs := vs) h4 fun f hf => h f (by simp [hf])
    refine ⟨c ++ cs, by simp only [GCL]; exact ⟨c, cs, rfl, g, gl⟩, ?_⟩
    rw [h1, h2] at p
    have := PCells.append p pl
    have e : (vs.drop off).take (Sh.wL (s :: l)) = (vs.drop off).take s.w ++ (vs.drop (off + s.w)).take (Sh.wL l) := by
      simp only [Sh.wL]
      rw [List.take_add, List.drop_drop]
    rw [e]; exact this
end
end
mutual
/-- the value of cells of a shape -/
def toSV : Sh → List PV → SV
  | .arr n s, cs => .vec (n * s.w) cs
  | .st l, cs => .agg (toSegs l cs)
  | _, cs => .pv (cs.headD (.b false))
def toSegs : List Sh → List PV → List SV
  | [], _ => []
  | s :: l, cs => (toSV s (cs.take s.w)).segs ++ toSegs l (cs.drop s.w)
end
def Sh.isAg : Sh → Bool
  | .arr _ _ => true
  | .st _ => true
  | _ => false
theorem cells_append {V : View} {ρ : Nat → Value} : ∀ {l m : List SV} {a b : List Value}, Cells V ρ l a → Cells V ρ m b → Cells V ρ (l ++ m) (a ++ b)
  | [], m, a, b, h1, h2 => by simp only [Cells] at h1; subst h1; exact h2
  | x :: l, m, a, b, h1, h2 => by
    simp only [Cells, List.cons_append] at h1 ⊢
    obtain ⟨u, us, rfl, c, d, e, f⟩ := h1
    exact ⟨u, us ++ b, by simp, c, d, e, cells_append f h2⟩
mutual
theorem conc_toSV {V : View} {ρ : Nat → Value} : ∀ (s : Sh) {cs : List PV} {v : Value}, GC s cs → PCells V cs (flatV v) → (s.isAg = true → ∃ vs, v = .agg ⟨vs⟩) → (s.isAg = false → ∀ vs, v ≠ .agg vs) → Conc V ρ (toSV s cs) v
  | .int k, cs, v, g, p, _, h => by
    obtain ⟨n, rfl, _⟩ := g
    have e : flatV v = [v] := by cases v <;> first | rfl | exact absurd rfl (h rfl _)
    rw [e] at p
    obtain ⟨v', h1, h2⟩ := p.2 0 _ rfl
    simp at h1; subst h1
    simp only [toSV, Conc, List.headD_cons]; exact h2
  | .bool, cs, v, g, p, _, h => by
    obtain ⟨n, rfl⟩ := g
    have e : flatV v = [v] := by cases v <;> first | rfl | exact absurd rfl (h rfl _)
    rw [e] at p
    obtain ⟨v', h1, h2⟩ := p.2 0 _ rfl
    simp at h1; subst h1
    simp only [toSV, Conc, List.headD_cons]; exact h2
  | .str, cs, v, g, p, _, h => by
    obtain ⟨n, rfl, _⟩ := g
    have e : flatV v = [v] := by cases v <;> first | rfl | exact absurd rfl (h rfl _)
    rw [e] at p
    obtain ⟨v', h1, h2⟩ := p.2 0 _ rfl
    simp at h1; subst h1
    simp only [toSV, Conc, List.headD_cons]; exact h2
  | .sl s, cs, v, g, p, _, h => by
    simp only [GC] at g
    obtain ⟨n, rfl, _⟩ := g
    have e : flatV v = [v] := by cases v <;> first | rfl | exact absurd rfl (h rfl _)
    rw [e] at p
    obtain ⟨v', h1, h2⟩ := p.2 0 _ rfl
    simp at h1; subst h1
    simp only [toSV, Conc, List.headD_cons]; exact h2
  | .arr n s, cs, v, g, p, h, _ => by
    obtain ⟨vs, rfl⟩ := h rfl
    have hl := g.len
    simp only [toSV, Conc]
    refine ⟨vs, rfl, ?_, p⟩
    have e1 : vs.length = cs.length := p.1.symm
    rw [e1, hl]; rfl
  | .st l, cs, v, g, p, h, _ => by
    obtain ⟨vs, rfl⟩ := h rfl
    simp only [GC] at g
    simp only [toSV, Conc]
    exact ⟨vs, rfl, conc_toSegs l g p⟩
theorem conc_toSegs {V : View} {ρ : Nat → Value} : ∀ (l : List Sh) {cs : List PV} {vs : List Value}, GCL l cs → PCells V cs vs → Cells V ρ (toSegs l cs) vs
  | [], cs, vs, g, p => by
    simp only [GCL] at g; subst g
    have : vs = [] := List.eq_nil_of_length_eq_zero (by rw [← p.1]; rfl)
    subst this
    simp only [toSegs, Cells]
  | s :: l, cs, vs, g, p => by
    simp only [GCL] at g
    obtain ⟨c, cs', rfl, g1, g2⟩ := g
    have hl := g1.len
    have p1 : PCells V c (vs.take c.length) := by
      have := p.split c.length |>.1
      simpa using this
    have p2 : PCells V cs' (vs.drop c.length) := by
      have := p.split c.length |>.2
      simpa using this
    have hvs : vs = vs.take c.length ++ vs.drop c.length := (List.take_append_drop _ _).symm
    have hlen : (vs.take c.length).length = s.w := by rw [← p1.1, hl]
    simp only [toSegs]
    rw [List.take_left' hl, List.drop_left' hl]
    rw [hvs]
    refine cells_append ?_ (conc_toSegs l g2 p2)
    cases s with
    | st m =>
      simp only [GC] at g1
      simp only [toSV, SV.segs]
      exact conc_toSegs m g1 p1
    | arr n s' =>
      have := conc_toSV (V := V) (ρ := ρ) (.arr n s') (v := .agg ⟨vs.take c.length⟩) g1 (by simpa [flatV] using p1) (fun _ => ⟨_, rfl⟩) (by simp [Sh.isAg])
      simp only [toSV] at this ⊢
      simp only [SV.segs, Cells]
      exact ⟨_, [], by simp [flatV], this, by simpa [flatV, SV.width, Sh.w] using hlen, fun v hv => p1.one v (by simpa [flatV] using hv), rfl⟩
    | int k =>
      obtain ⟨n, rfl, _⟩ := g1
      obtain ⟨v, h1, h2⟩ := p1.2 0 _ rfl
      have e : vs.take [PV.i k n].length = [v] := by
        match hx : vs.take [PV.i k n].length, h1, hlen with
        | [u], h1, _ => simp at h1; rw [h1]
      have ho := h2.one
      have fv : flatV v = [v] := by cases v <;> first | rfl | exact absurd ho (by simp [oneCell])
      rw [e]
      simp only [toSV, SV.segs, Cells, Conc, List.headD_cons]
      exact ⟨v, [], by rw [fv]; rfl, h2, by rw [fv]; rfl, by rw [fv]; simpa using ho, rfl⟩
    | bool =>
      obtain ⟨n, rfl⟩ := g1
      obtain ⟨v, h1, h2⟩ := p1.2 0 _ rfl
      have e : vs.take [PV.b n].length = [v] := by
        match hx : vs.take [PV.b n].length, h1, hlen with
        | [u], h1, _ => simp at h1; rw [h1]
      have ho := h2.one
      have fv : flatV v = [v] := by cases v <;> first | rfl | exact absurd ho (by simp [oneCell])
      rw [e]
      simp only [toSV, SV.segs, Cells, Conc, List.headD_cons]
      exact ⟨v, [], by rw [fv]; rfl, h2, by rw [fv]; rfl, by rw [fv]; simpa using ho, rfl⟩
    | str =>
      obtain ⟨n, rfl, _⟩ := g1
      obtain ⟨v, h1, h2⟩ := p1.2 0 _ rfl
      have e : vs.take [PV.s n].length = [v] := by
        match hx : vs.take [PV.s n].length, h1, hlen with
        | [u], h1, _ => simp at h1; rw [h1]
      have ho := h2.one
      have fv : flatV v = [v] := by cases v <;> first | rfl | exact absurd ho (by simp [oneCell])
      rw [e]
      simp only [toSV, SV.segs, Cells, Conc, List.headD_cons]
      exact ⟨v, [], by rw [fv]; rfl, h2, by rw [fv]; rfl, by rw [fv]; simpa using ho, rfl⟩
    | sl s' =>
      simp only [GC] at g1
      obtain ⟨n, rfl, _⟩ := g1
      obtain ⟨v, h1, h2⟩ := p1.2 0 _ rfl
      have e : vs.take [PV.sl false s'.w n].length = [v] := by
        match hx : vs.take [PV.sl false s'.w n].length, h1, hlen with
        | [u], h1, _ => simp at h1; rw [h1]
      have ho := h2.one
      have fv : flatV v = [v] := by cases v <;> first | rfl | exact absurd ho (by simp [oneCell])
      rw [e]
      simp only [toSV, SV.segs, Cells, Conc, List.headD_cons]
      exact ⟨v, [], by rw [fv]; rfl, h2, by rw [fv]; rfl, by rw [fv]; simpa using ho, rfl⟩
end
mutual
theorem toSV_closed : ∀ (s : Sh) (cs : List PV), (toSV s cs).closed = true
  | .int k, cs => rfl
  | .bool, cs => rfl
  | .str, cs => rfl
  | .sl s, cs => rfl
  | .arr n s, cs => rfl
  | .st l, cs => by simp only [toSV, SV.closed]; exact toSegs_closed l cs
theorem toSegs_closed : ∀ (l : List Sh) (cs : List PV), SV.closedL (toSegs l cs) = true
  | [], cs => rfl
  | s :: l, cs => by
    simp only [toSegs]
    have h2 := toSegs_closed l (cs.drop s.w)
    have app : ∀ (a b : List SV), SV.closedL a = true → SV.closedL b = true → SV.closedL (a ++ b) = true := fun a b ha hb => by
      induction a with
      | nil => exact hb
      | cons x a ih => simp only [SV.closedL, Bool.and_eq_true, List.cons_append] at ha ⊢; exact ⟨ha.1, ih ha.2⟩
    refine app _ _ ?_ h2
    cases s with
    | st m => simp only [toSV, SV.segs]; exact toSegs_closed m _
    | int k => rfl
    | bool => rfl
    | str => rfl
    | sl s => rfl
    | arr n s => rfl
end
theorem okWide_ag {P : Program} {w : World} {base : Nat} {t : TypeId} {v : Value} : ∀ {s : Sh}, shB P s t = true → Value.okWide P w .any base t v → (s.isAg = true → ∃ vs, v = .agg ⟨vs⟩) ∧ (s.isAg = false → ∀ vs, v ≠ .agg vs)
  | .int k, hs, h => by
    simp only [shB] at hs
    split at hs
    · rename_i k' hu
      obtain ⟨n, rfl⟩ := WideShapes.okWide_int hu h
      exact ⟨fun h => (by cases h), fun _ vs e => by cases e⟩
    · cases hs
  | .bool, hs, h => by
    simp only [shB] at hs
    split at hs
    · rename_i hu
      obtain ⟨n, rfl⟩ := WideShapes.okWide_bool hu h
      exact ⟨fun h => (by cases h), fun _ vs e => by cases e⟩
    · cases hs
  | .str, hs, h => by
    simp only [shB] at hs
    split at hs
    · rename_i hu
      obtain ⟨n, rfl⟩ := WideShapes.okWide_string hu h
      exact ⟨fun h => (by cases h), fun _ vs e => by cases e⟩
    · cases hs
  | .sl s, hs, h => by
    simp only [shB] at hs
    split at hs
    · rename_i e hu
      obtain ⟨a, b, c, rfl⟩ := WideShapes.okWide_slice hu h
      exact ⟨fun h => (by cases h), fun _ vs e => by cases e⟩
    · cases hs
  | .arr n s, hs, h => by
    simp only [shB] at hs
    split at hs
    · rename_i n' e hu
      simp only [Value.okWide, hu] at h
      obtain ⟨⟨xs⟩, rfl, _⟩ := h
      exact ⟨fun _ => ⟨_, rfl⟩, fun h => (by cases h)⟩
    · cases hs
  | .st l, hs, h => by
    simp only [shB] at hs
    split at hs
    · rename_i fs hu
      simp only [Value.okWide, hu] at h
      obtain ⟨⟨xs⟩, rfl, _⟩ := h
      exact ⟨fun _ => ⟨_, rfl⟩, fun h => (by cases h)⟩
    · cases hs
/-- an argument, as it reads -/
theorem arg_conc {H : Type} {enc : TypeId × Value → H} {P : Program} {w : World} {spare : Nat → Bool} {held : Bool} {base : Nat} {t : TypeId} {v : Value} {d : DataW H} {ps : List MemPlace} {s : Sh} (hs : shB P s t = true)
    (hv : Value.okWide P w .any base t v) (h : DataW.Trod enc P w 0 spare held t v d ps) : ∃ cs, GC s cs ∧ Conc (allOf w) (fun _ => undef) (toSV s cs) v := by
  obtain ⟨fuel, hf⟩ := h
  obtain ⟨cs, g, p⟩ := trod_GC s hs hf
  rw [flatV_cells] at p
  obtain ⟨h1, h2⟩ := okWide_ag hs hv
  exact ⟨cs, g, conc_toSV s g p h1 h2⟩
end Go.Proofs.Ytmeecblciegkkaa.Fw
namespace Go.Proofs.Ytmeecblciegkkaa.Fw
open Go.RowKit
/-! Arguments of the shapes that the laws have. -/
theorem flat_get {m : Nat} : ∀ {cc : List (List PV)} {i j : Nat}, (∀ c ∈ cc, c.length = m) → j < m → cc.flatten[i * m + j]? = (cc[i]?).bind (·[j]?)
  | [], i, j, _, _ => by simp
  | c :: cc, 0, j, h, hj => by
    have hc := h c (by simp)
    rw [List.flatten_cons, Nat.zero_mul, Nat.zero_add, List.getElem?_append_left (by omega)]; rfl
  | c :: cc, i + 1, j, h, hj => by
    have hc := h c (by simp)
    rw [List.flatten_cons, List.getElem?_append_right (by rw [Nat.add_mul]; omega)]
    rw [show (i + 1) * m + j - c.length = i * m + j from by rw [Nat.add_mul]; omega]
    rw [flat_get (fun c hc => h c (by simp [hc])) hj]; rfl
theorem arr_el {n : Nat} {s : Sh} {cs : List PV} (h : GC (.arr n s) cs) : cs.length = n * s.w ∧ ∀ i, i < n → ∃ c, GC s c ∧ ∀ j, j < s.w → cs[i * s.w + j]? = c[j]? := by
  refine ⟨h.len, fun i hi => ?_⟩
  simp only [GC] at h
  obtain ⟨cc, rfl, rfl, g⟩ := h
  refine ⟨cc[i], g _ (List.getElem_mem _), fun j hj => ?_⟩
  rw [flat_get (fun c hc => (g c hc).len) hj, List.getElem?_eq_getElem hi]; rfl
theorem u32_wf {n : Int} (h : (Lit.int .u32 n).wf = true) : 0 ≤ n ∧ n < 4294967296 := by
  simp [Lit.wf, IntKind.min, IntKind.max, IntKind.signed, IntKind.bits] at h; omega
theorem u64_wf {n : Int} (h : (Lit.int .u64 n).wf = true) : 0 ≤ n ∧ n < 18446744073709551616 := by
  simp [Lit.wf, IntKind.min, IntKind.max, IntKind.signed, IntKind.bits] at h; omega
theorem u8_wf {n : Int} (h : (Lit.int .u8 n).wf = true) : 0 ≤ n ∧ n < 256 := by
  simp [Lit.wf, IntKind.min, IntKind.max, IntKind.signed, IntKind.bits] at h; omega
theorem i64_wf {n : Int} (h : (Lit.int .i64 n).wf = true) : -9223372036854775808 ≤ n ∧ n < 9223372036854775808 := by
  simp [Lit.wf, IntKind.min, IntKind.max, IntKind.signed, IntKind.bits] at h; omega
theorem arrF_of {n : Nat} {cs : List PV} {f : Nat → PV} (hl : cs.length = n) (h : ∀ i, i < n → cs[i]? = some (f i)) : cs = arrF n f := by
  apply List.ext_getElem?
  intro i
  by_cases hi : i < n
  · rw [h i hi, arrF_get hi]
  · rw [List.getElem?_eq_none (by omega), List.getElem?_eq_none (by rw [arrF_length]; omega)]
theorem GC_vE {cs : List PV} (h : GC (.arr 8 (.int .u32)) cs) : ∃ a : Vc, cs = vE a ∧ ∀ i, i < 8 → a i < 4294967296 := by
  obtain ⟨hl, g⟩ := arr_el h
  have key : ∀ i, ∃ n : Nat, i < 8 → cs[i]? = some (.i .u32 n) ∧ n < 4294967296 := fun i => by
    by_cases hi : i < 8
    · obtain ⟨c, ⟨n, rfl, hw⟩, k⟩ := g i hi
      have := k 0 (by simp [Sh.w])
      simp only [Sh.w, Nat.mul_one, Nat.add_zero] at this
      have hr := u32_wf hw
      refine ⟨n.toNat, fun _ => ⟨?_, by omega⟩⟩
      rw [this, show ((n.toNat : Nat) : Int) = n from by omega]; rfl
    · exact ⟨0, fun h => absurd h hi⟩
  obtain ⟨a, ha⟩ := Classical.axiomOfChoice key
  exact ⟨a, arrF_of hl fun i hi => (ha i hi).1, fun i hi => (ha i hi).2⟩
theorem GC_wE {cs : List PV} (h : GC (.arr 8 .bool) cs) : ∃ a : Nat → Bool, cs = wE a := by
  obtain ⟨hl, g⟩ := arr_el h
  have key : ∀ i, ∃ n : Bool, i < 8 → cs[i]? = some (.b n) := fun i => by
    by_cases hi : i < 8
    · obtain ⟨c, ⟨n, rfl⟩, k⟩ := g i hi
      have := k 0 (by simp [Sh.w])
      simp only [Sh.w, Nat.mul_one, Nat.add_zero] at this
      exact ⟨n, fun _ => this⟩
    · exact ⟨false, fun h => absurd h hi⟩
  obtain ⟨a, ha⟩ := Classical.axiomOfChoice key
  exact ⟨a, arrF_of hl fun i hi => ha i hi⟩
theorem GC_tE {cs : List PV} (h : GC (.arr 8 (.arr 8 (.int .u32))) cs) : ∃ t : Nat → Vc, cs = tE t ∧ ∀ i, i < 8 → ∀ j, j < 8 → t i j < 4294967296 := by
  obtain ⟨hl, g⟩ := arr_el h
  have key : ∀ i, ∃ a : Vc, i < 8 → (∀ j, j < 8 → cs[i * 8 + j]? = some (.i .u32 (a j))) ∧ ∀ j, j < 8 → a j < 4294967296 := fun i => by
    by_cases hi : i < 8
    · obtain ⟨c, hc, k⟩ := g i hi
      obtain ⟨a, rfl, hb⟩ := GC_vE hc
      refine ⟨a, fun _ => ⟨fun j hj => ?_, hb⟩⟩
      have := k j hj
      simp only [Sh.w] at this
      rw [this]; exact arrF_get hj _
    · exact ⟨fun _ => 0, fun h => absurd h hi⟩
  obtain ⟨t, ht⟩ := Classical.axiomOfChoice key
  refine ⟨t, arrF_of hl fun i hi => ?_, fun i hi => (ht i hi).2⟩
  have := (ht (i / 8) (by omega)).1 (i % 8) (by omega)
  rw [show i / 8 * 8 + i % 8 = i from by omega] at this
  exact this
theorem GC_i64 {cs : List PV} (h : GC (.int .i64) cs) : ∃ n : Int, cs = [.i .i64 n] ∧ -9223372036854775808 ≤ n ∧ n < 9223372036854775808 := by
  obtain ⟨n, rfl, hw⟩ := h; exact ⟨n, rfl, i64_wf hw⟩
theorem GC_u64 {cs : List PV} (h : GC (.int .u64) cs) : ∃ n : Nat, cs = [.i .u64 n] ∧ n < 18446744073709551616 := by
  obtain ⟨n, rfl, hw⟩ := h
  have := u64_wf hw
  exact ⟨n.toNat, by rw [show ((n.toNat : Nat) : Int) = n from by omega], by omega⟩
theorem GC_bool {cs : List PV} (h : GC .bool cs) : ∃ n : Bool, cs = [.b n] := h
theorem GC_bytes {cs : List PV} (h : GC (.sl (.int .u8)) cs) : ∃ l : List UInt8, cs = [.sl false 1 (bytesE l)] ∧ l.length ≤ maxLen := by
  simp only [GC] at h
  obtain ⟨es, rfl, hl, g⟩ := h
  have key : ∀ es : List (List PV), (∀ c ∈ es, ∃ n, c = [PV.i .u8 n] ∧ (Lit.int .u8 n).wf = true) → ∃ l : List UInt8, es = bytesE l := fun es => by
    induction es with
    | nil => intro _; exact ⟨[], rfl⟩
    | cons c es ih =>
      intro h
      obtain ⟨n, rfl, hw⟩ := h c (by simp)
      obtain ⟨l, rfl⟩ := ih fun c hc => h c (by simp [hc])
      have hr := u8_wf hw
      refine ⟨UInt8.ofNat n.toNat :: l, ?_⟩
      simp only [bytesE, List.map_cons]
      rw [UInt8.toNat_ofNat', show n.toNat % 2 ^ 8 = n.toNat from Nat.mod_eq_of_lt (by omega), show ((n.toNat : Nat) : Int) = n from by omega]
  obtain ⟨l, rfl⟩ := key es g
  exact ⟨l, rfl, by simpa [bytesE] using hl⟩
theorem wrap_u64_mod (n : Int) : IntKind.u64.wrap n = n % 18446744073709551616 := by simp [IntKind.wrap, IntKind.signed, IntKind.bits]
theorem u64_idx (a : Int) {n : Nat} (h0 : 0 < n) (h : n < 4611686018427387904) : ∃ j : Nat, j < n ∧ IntKind.i64.wrap ((IntKind.u64.wrap a).tmod (IntKind.u64.wrap (n : Int))) = j := by
  rw [wrap_u64 (n := (n : Int)) (by omega), wrap_u64_mod]
  have h1 : 0 ≤ a % 18446744073709551616 := by omega
  rw [Int.tmod_eq_emod_of_nonneg h1]
  generalize a % 18446744073709551616 = m at *
  have h2 := Int.emod_nonneg m (b := (n : Int)) (by omega)
  have h3 := Int.emod_lt_of_pos m (b := (n : Int)) (by omega)
  refine ⟨(m % n).toNat, by omega, ?_⟩
  rw [wrap_i64 (by omega)]; omega
theorem GC_sl {s : Sh} {cs : List PV} (h : GC (.sl s) cs) : ∃ es, cs = [.sl false s.w es] ∧ es.length ≤ maxLen ∧ ∀ c ∈ es, GC s c := by
  simp only [GC] at h; exact h
end Go.Proofs.Ytmeecblciegkkaa.Fw
namespace Go.Proofs.Ytmeecblciegkkaa.Fw
open Go.RowKit Go.Proofs
theorem imp_agg {l : List SV} {cs : List PV} {n : Nat} (hc : SV.cellsL? l = some cs) (hn : cs.length = n) : Imp (.agg l) (.vec n cs) := by
  intro V ρ v h
  have hp := Conc.cells h (x := .agg l) (cs := cs) hc
  simp only [Conc] at h ⊢
  obtain ⟨vs, rfl, _⟩ := h
  exact ⟨vs, rfl, by rw [← hn]; exact hp.1.symm, hp⟩
def ImpL : List SV → List SV → Prop
  | [], [] => True
  | x :: l, y :: m => Imp x y ∧ ImpL l m
  | _, _ => False
theorem ImpL.conc {V : View} {ρ : Nat → Value} : ∀ {l m : List SV} {vs : List Value}, ImpL l m → ConcL V ρ l vs → ConcL V ρ m vs
  | [], [], vs, _, h => h
  | x :: l, y :: m, vs, h, k => by
    simp only [ConcL] at k ⊢
    obtain ⟨v, us, rfl, k1, k2⟩ := k
    exact ⟨v, us, rfl, h.1 _ _ _ k1, ImpL.conc h.2 k2⟩
  | [], _ :: _, _, h, _ => h.elim
  | _ :: _, [], _, h, _ => h.elim
theorem FunOk.imp {P : Program} {f : Nat} {args args' : List SV} {h d x u} (hf : FunOk P f args' h d x u) (hi : ImpL args args') (ht : ∀ n ∈ tops args', n ∈ tops args) : FunOk P f args h d x u :=
  ⟨hf.1, fun F N ρ s a w hR hh vs hc => hf.2 F N ρ s a w hR (fun n hn => hh n (ht n hn)) vs (hi.conc hc)⟩
theorem okAddR_none {x y : SV} {f g : Bool} {l : List Ver} {bs : List Idn} {v : Ver} {h d} (hx : lents h [x, y, .vec 11 (verE v)] = [.pv (.sl f 11 (l.map verE)), .pv (.sl g 2 (bs.map idE)), .vec 11 (verE v)]) (hl : lendable [x, y, .vec 11 (verE v)] = true)
    (hs : SortedV l) (hn : l.length ≤ 900) (hbn : bs.length ≤ 900) (hm : missing l bs) :
    FunOk Try.prog 28 [x, y, .vec 11 (verE v)] h d (.tup [.pv (.sl true 0 []), .pv (.i .i64 2)]) [] := by
  refine fun_scalar mixed fn28 (by simp) hl rfl fun F => ?_
  rw [hx]
  exact addWalkR hs hn hbn (fun _ _ => rfl) (fun h => absurd hm h) (fun h => absurd hm h)
theorem okAddR_old {x y : SV} {f g : Bool} {l : List Ver} {bs : List Idn} {v : Ver} {h d} (hx : lents h [x, y, .vec 11 (verE v)] = [.pv (.sl f 11 (l.map verE)), .pv (.sl g 2 (bs.map idE)), .vec 11 (verE v)]) (hl : lendable [x, y, .vec 11 (verE v)] = true)
    (hs : SortedV l) (hn : l.length ≤ 900) (hbn : bs.length ≤ 900) (hm : ¬ missing l bs) (ho : (findV l v.rep v.seq).isSome = true) :
    FunOk Try.prog 28 [x, y, .vec 11 (verE v)] h d (.tup [.pv (.sl true 0 []), .pv (.i .i64 11)]) [] := by
  refine fun_scalar mixed fn28 (by simp) hl rfl fun F => ?_
  rw [hx]
  exact addWalkR hs hn hbn (fun h => absurd h hm) (fun _ _ _ => rfl) (fun _ h => by rw [h] at ho; cases ho)
theorem okAddR {x y : SV} {f g : Bool} {l : List Ver} {bs : List Idn} {v : Ver} {h d} (hx : lents h [x, y, .vec 11 (verE v)] = [.pv (.sl f 11 (l.map verE)), .pv (.sl g 2 (bs.map idE)), .vec 11 (verE v)]) (hl : lendable [x, y, .vec 11 (verE v)] = true)
    (hs : SortedV l) (hn : l.length ≤ 900) (hbn : bs.length ≤ 900) (hm : ¬ missing l bs) (ho : findV l v.rep v.seq = none) :
    FunOk Try.prog 28 [x, y, .vec 11 (verE v)] h d (.tup [.os d, .pv (.i .i64 0)]) [.new d (.row 11 ((addL l bs v).map verE))] := by
  refine fun_row2 mixed fn28 (by simp) hl (.inr (verE_flat _)) rfl fun F => ?_
  rw [hx]
  exact addWalkR hs hn hbn (fun h => absurd h hm) (fun _ h => by rw [ho] at h; cases h) (fun _ _ g n hg => ⟨n, rfl, hg⟩)
def stSame0 (f g : Bool) (_ : Unit) : FS := mk [(5, .pv (.i .i64 0)), (0, .pv (.sl f 0 [])), (1, .pv (.sl g 0 []))] []
theorem okSame0 {f g : Bool} {h d} : FunOk Try.prog 26 [.pv (.sl f 0 []), .pv (.sl g 0 [])] h d (.pv (.b true)) [] := by
  refine fun_scalar mixed fn26 (by simp) rfl rfl fun F => ?_
  (try simp only [brK_e, gdK_e, skK_e, gdA_e, skA_e, pkK_e]); simp (maxSteps := 10000000) (disch := omega) only [ir26, go_sem, ↓reduceIte, Nat.reduceEqDiff, Nat.reduceSub, Nat.reduceLeDiff, Nat.reduceAdd, Int.reduceEq, Int.reduceLT, Int.reduceLE]
  refine loop_ok mixed (stSame0 f g) (fun _ => True) (fun _ => 0) () trivial (weak_mk ?_ ?_) fun _ _ => ?_
  · (try simp only [brK_e, gdK_e, skK_e, gdA_e, skA_e, pkK_e]); simp (maxSteps := 10000000) (disch := omega) only [go_sem, ↓reduceIte, Nat.reduceEqDiff, Nat.reduceSub, Nat.reduceLeDiff, Nat.reduceAdd, Int.reduceEq, Int.reduceLT, Int.reduceLE]
  · (try simp only [brK_e, gdK_e, skK_e, gdA_e, skA_e, pkK_e]); simp (maxSteps := 10000000) (disch := omega) only [go_sem, ↓reduceIte, Nat.reduceEqDiff, Nat.reduceSub, Nat.reduceLeDiff, Nat.reduceAdd, Int.reduceEq, Int.reduceLT, Int.reduceLE]
  (try simp only [brK_e, gdK_e, skK_e, gdA_e, skA_e, pkK_e]); simp (maxSteps := 10000000) (disch := omega) only [stSame0, go_sem, ↓reduceIte, Nat.reduceEqDiff, Nat.reduceSub, Nat.reduceLeDiff, Nat.reduceAdd, Int.reduceEq, Int.reduceLT, Int.reduceLE]
abbrev shId : Sh := .st [.int .i64, .int .u32]
abbrev shVer : Sh := .st [shId, .str, .arr 8 (.int .u32)]
theorem GC_id {cs : List PV} (h : GC shId cs) : ∃ b : Idn, cs = idE b ∧ (-9223372036854775808 ≤ b.1 ∧ b.1 < 9223372036854775808) ∧ b.2 < 4294967296 := by
  simp only [GC, GCL] at h
  obtain ⟨c, cs', rfl, ⟨n, rfl, hw⟩, c', cs'', rfl, ⟨m, rfl, hw'⟩, rfl⟩ := h
  have hr := u32_wf hw'
  exact ⟨(n, m.toNat), by simp [idE]; omega, i64_wf hw, by show m.toNat < _; omega⟩
theorem GC_ver {cs : List PV} (h : GC shVer cs) : ∃ v : Ver, cs = verE v ∧ ((-9223372036854775808 ≤ v.rep ∧ v.rep < 9223372036854775808) ∧ v.seq < 4294967296) ∧ v.data.length ≤ maxLen ∧ ∀ i, i < 8 → v.gone i < 4294967296 := by
  simp only [GC] at h
  simp only [GCL] at h
  obtain ⟨c, cs', rfl, g1, c', cs'', rfl, ⟨s, rfl, hs⟩, c3, cs3, rfl, g3, rfl⟩ := h
  obtain ⟨b, rfl, hb⟩ := GC_id (by simp only [GC]; exact g1)
  obtain ⟨a, rfl, ha⟩ := GC_vE (by simp only [GC]; exact g3)
  exact ⟨⟨b.1, b.2, s, a⟩, by simp [verE, idE], hb, hs, ha⟩
theorem els_of {α : Type} {f : α → List PV} {p : α → Prop} {s : Sh} (key : ∀ {cs}, GC s cs → ∃ x, cs = f x ∧ p x) : ∀ {es : List (List PV)}, (∀ c ∈ es, GC s c) → ∃ l : List α, es = l.map f ∧ ∀ x ∈ l, p x
  | [], _ => ⟨[], rfl, by simp⟩
  | c :: es, h => by
    obtain ⟨l, e, hp⟩ := els_of (es := es) key fun c hc => h c (List.mem_cons_of_mem _ hc)
    obtain ⟨x, e2, hx⟩ := key (h c List.mem_cons_self)
    exact ⟨x :: l, by rw [e, e2]; rfl, fun y hy => by
      rcases List.mem_cons.1 hy with hy | hy
      · rw [hy]; exact hx
      · exact hp y hy⟩
end Go.Proofs.Ytmeecblciegkkaa.Fw
namespace Go.Proofs.Ytmeecblciegkkaa.Fw
open Go.RowKit Go.Proofs
def vid (v : Ver) : Idn := (v.rep, v.seq)
def markB (bs : List Idn) (r : Int) (q : Nat) (x : Ver) : Ver := if (x.rep, x.seq) ∈ bs then markV x r q else x
theorem markL_e (l : List Ver) (bs : List Idn) (r : Int) (q : Nat) : markL l bs r q = l.map (markB bs r q) := rfl
theorem markB_id (bs : List Idn) (r : Int) (q : Nat) (x : Ver) : vid (markB bs r q x) = vid x := by
  have := mark_id x bs r q
  simp only [vid, markB, this.1, this.2]
theorem mem_addL {l : List Ver} {bs : List Idn} {v x : Ver} : x ∈ addL l bs v ↔ x = v ∨ ∃ y ∈ l, x = markB bs v.rep v.seq y := by
  unfold addL
  rw [markL_e]
  have h : ∀ p, x ∈ (l.map (markB bs v.rep v.seq)).take p ++ v :: (l.map (markB bs v.rep v.seq)).drop p ↔ x = v ∨ x ∈ l.map (markB bs v.rep v.seq) := fun p => by
    conv => rhs; rw [← List.take_append_drop p (l.map (markB bs v.rep v.seq))]
    simp only [List.mem_append, List.mem_cons]
    constructor
    · rintro (h | h | h)
      · exact .inr (.inl h)
      · exact .inl h
      · exact .inr (.inr h)
    · rintro (h | h | h)
      · exact .inr (.inl h)
      · exact .inl h
      · exact .inr (.inr h)
  rw [h, List.mem_map]
  exact or_congr_right ⟨fun ⟨y, h1, h2⟩ => ⟨y, h1, h2.symm⟩, fun ⟨y, h1, h2⟩ => ⟨y, h1, h2.symm⟩⟩
theorem addL_len (l : List Ver) (bs : List Idn) (v : Ver) : (addL l bs v).length = l.length + 1 := by
  simp only [addL, List.length_append, List.length_cons, List.length_take, List.length_drop, markL_len]; omega
theorem atL_none {l : List Ver} {r : Int} {q : Nat} (h : findV l r q = none) : ∃ p, atL l r q 0 = (p, false) := by
  rcases ha : atL l r q 0 with ⟨p, b⟩
  cases b with
  | false => exact ⟨p, rfl⟩
  | true => obtain ⟨_, u, _, _, h4⟩ := atL_true ha; rw [h] at h4; cases h4
theorem addL_sorted {l : List Ver} {bs : List Idn} {v : Ver} (hs : SortedV l) (h : findV l v.rep v.seq = none) : SortedV (addL l bs v) := by
  obtain ⟨p, hp⟩ := atL_none h
  obtain ⟨_, g2, g3, g4, g5, g6⟩ := atL_false hs hp
  rw [Nat.sub_zero] at g2 g5 g6
  have hM := markL_sorted (bs := bs) (r := v.rep) (q := v.seq) hs
  unfold addL
  rw [hp]
  simp only
  have h5 : ∀ x ∈ (markL l bs v.rep v.seq).take p, idLt x.rep x.seq v.rep v.seq = true := fun x hx => by
    rw [markL_e, ← List.map_take] at hx
    obtain ⟨y, hy, rfl⟩ := List.mem_map.1 hx
    have := markB_id bs v.rep v.seq y
    simp only [vid, Prod.mk.injEq] at this
    rw [this.1, this.2]; exact g5 y hy
  have h6 : ∀ x ∈ (markL l bs v.rep v.seq).drop p, idLt v.rep v.seq x.rep x.seq = true := fun x hx => by
    rw [markL_e, ← List.map_drop] at hx
    obtain ⟨y, hy, rfl⟩ := List.mem_map.1 hx
    have := markB_id bs v.rep v.seq y
    simp only [vid, Prod.mk.injEq] at this
    rw [this.1, this.2]; exact g6 y hy
  refine List.pairwise_append.2 ⟨List.Pairwise.sublist (List.take_sublist _ _) hM, List.pairwise_cons.2 ⟨h6, List.Pairwise.sublist (List.drop_sublist _ _) hM⟩, fun a ha b hb => ?_⟩
  rcases List.mem_cons.1 hb with rfl | hb
  · exact h5 a ha
  · exact idLt_trans (h5 a ha) (h6 b hb)
theorem sorted_ext : ∀ {A B : List Ver}, SortedV A → SortedV B → (∀ x, x ∈ A ↔ x ∈ B) → A = B
  | [], [], _, _, _ => rfl
  | [], y :: B, _, _, h => absurd ((h y).2 List.mem_cons_self) (by simp)
  | x :: A, [], _, _, h => absurd ((h x).1 List.mem_cons_self) (by simp)
  | x :: A, y :: B, ha, hb, h => by
    obtain ⟨a1, a2⟩ := List.pairwise_cons.1 ha
    obtain ⟨b1, b2⟩ := List.pairwise_cons.1 hb
    have hxy : x = y := by
      rcases List.mem_cons.1 ((h x).1 List.mem_cons_self) with e | e
      · exact e
      · rcases List.mem_cons.1 ((h y).2 List.mem_cons_self) with e' | e'
        · exact e'.symm
        · exact absurd (b1 x e) (idLt_as (a1 y e'))
    subst hxy
    have : A = B := sorted_ext a2 b2 fun z => by
      have := h z
      simp only [List.mem_cons] at this
      constructor
      · intro hz
        rcases this.1 (.inr hz) with e | e
        · subst e; exact absurd ⟨rfl, rfl⟩ (idLt_ne (a1 z hz))
        · exact e
      · intro hz
        rcases this.2 (.inr hz) with e | e
        · subst e; exact absurd ⟨rfl, rfl⟩ (idLt_ne (b1 z hz))
        · exact e
    rw [this]
theorem withV_comm (g : Vc) (r : Int) (q : Nat) (r' : Int) (q' : Nat) : withV (withV g r q) r' q' = withV (withV g r' q') r q := by
  unfold withV
  by_cases h1 : 1 ≤ r ∧ r ≤ 8
  · by_cases h2 : 1 ≤ r' ∧ r' ≤ 8
    · simp only [if_pos h1, if_pos h2]
      generalize (r - 1).toNat = m
      generalize (r' - 1).toNat = n
      funext i
      simp only [setV]
      grind
    · simp only [if_neg h2]
  · simp only [if_neg h1]
theorem markB_comm (bs : List Idn) (r : Int) (q : Nat) (r' : Int) (q' : Nat) (x : Ver) : markB bs r q (markB bs r' q' x) = markB bs r' q' (markB bs r q x) := by
  unfold markB
  by_cases h : (x.rep, x.seq) ∈ bs
  · simp only [if_pos h, markV, withV_comm]
  · simp only [if_neg h]
theorem markB_out {bs : List Idn} {r : Int} {q : Nat} {x : Ver} (h : vid x ∉ bs) : markB bs r q x = x := if_neg h
theorem headP_iff {v : Ver} : headP v = true ↔ ∀ i, i < 8 → v.gone i = 0 := decide_eq_true_iff
theorem markB_head {bs : List Idn} {r : Int} {q : Nat} {x : Ver} (h : headP (markB bs r q x) = true) : headP x = true := by
  rw [headP_iff] at *
  intro i hi
  have := h i hi
  unfold markB at this
  split at this
  · simp only [markV, withV] at this
    split at this
    · simp only [setV] at this
      split at this
      · rename_i e; subst e; omega
      · exact this
    · exact this
  · exact this
theorem markB_dead {bs : List Idn} {r : Int} {q : Nat} {x : Ver} (hb : vid x ∈ bs) (hr : 1 ≤ r ∧ r ≤ 8) (hq : 1 ≤ q) : headP (markB bs r q x) = false := by
  cases h : headP (markB bs r q x) with
  | false => rfl
  | true =>
    rw [headP_iff] at h
    have := h (r - 1).toNat (by omega)
    unfold markB at this
    rw [if_pos (show (x.rep, x.seq) ∈ bs from hb)] at this
    simp only [markV, withV, if_pos hr, setV, if_true] at this
    omega
theorem filter_one {l : List Ver} {p : Ver → Bool} {x : Ver} (hx : x ∈ l) (hp : p x = true) (ho : ∀ y ∈ l, p y = true → y = x) (hn : l.Pairwise (· ≠ ·)) : l.filter p = [x] := by
  induction l with
  | nil => simp at hx
  | cons y l ih =>
    obtain ⟨n1, n2⟩ := List.pairwise_cons.1 hn
    rcases List.mem_cons.1 hx with rfl | hx
    · rw [List.filter_cons_of_pos hp]
      rw [List.filter_eq_nil_iff.2 fun z hz hpz => n1 z hz (ho z (List.mem_cons_of_mem _ hz) hpz).symm]
    · have : ¬ p y = true := fun hy => n1 x hx (ho y List.mem_cons_self hy)
      rw [List.filter_cons_of_neg this]
      exact ih hx (fun z hz => ho z (List.mem_cons_of_mem _ hz)) n2
theorem sorted_nodup {l : List Ver} (h : SortedV l) : l.Pairwise (· ≠ ·) := h.imp fun hab e => by subst e; exact idLt_ne hab ⟨rfl, rfl⟩
def headIds (l : List Ver) : List Idn := (l.filter headP).map vid
theorem mem_headIds {l : List Ver} {b : Idn} : b ∈ headIds l ↔ ∃ v ∈ l, headP v = true ∧ vid v = b := by
  unfold headIds
  simp only [List.mem_map, List.mem_filter, and_assoc]
theorem findV_some {l : List Ver} {v : Ver} (h : v ∈ l) : findV l v.rep v.seq ≠ none := fun e => findV_none.1 e v h ⟨rfl, rfl⟩
theorem not_missing {l m : List Ver} (h : ∀ v ∈ l, ∃ u ∈ m, vid u = vid v) : ¬ missing m (headIds l) := by
  rintro ⟨b, hb, e⟩
  obtain ⟨v, hv, _, rfl⟩ := mem_headIds.1 hb
  obtain ⟨u, hu, e2⟩ := h v hv
  refine findV_none.1 e u hu ?_
  simp only [vid, Prod.mk.injEq] at e2
  exact ⟨e2.1, e2.2⟩
/-- one that comes in the place of all heads is the only one -/
theorem heads_one {l : List Ver} {a : Ver} (hs : SortedV l) (hf : findV l a.rep a.seq = none) (h0 : headP a = true) (hr : 1 ≤ a.rep ∧ a.rep ≤ 8) (hq : 1 ≤ a.seq) : (addL l (headIds l) a).filter headP = [a] := by
  refine filter_one (mem_addL.2 (.inl rfl)) h0 (fun y hy hp => ?_) (sorted_nodup (addL_sorted hs hf))
  rcases mem_addL.1 hy with e | ⟨z, hz, rfl⟩
  · exact e
  · have hzh := markB_head hp
    rw [markB_dead (mem_headIds.2 ⟨z, hz, hzh, rfl⟩) hr hq] at hp
    cases hp
theorem findV_add {l : List Ver} {bs : List Idn} {a : Ver} {r : Int} {q : Nat} (h : findV l r q = none) (hne : ¬ (a.rep = r ∧ a.seq = q)) : findV (addL l bs a) r q = none := by
  rw [findV_none] at *
  intro x hx
  rcases mem_addL.1 hx with rfl | ⟨y, hy, rfl⟩
  · exact hne
  · have := markB_id bs a.rep a.seq y
    simp only [vid, Prod.mk.injEq] at this
    intro e
    exact h y hy ⟨this.1 ▸ e.1, this.2 ▸ e.2⟩
theorem both_mem {l : List Ver} {a b x : Ver} {bs : List Idn} (ha : vid a ∉ bs) (hb : vid b ∉ bs) : x ∈ addL (addL l bs a) bs b ↔ x = b ∨ x = a ∨ ∃ y ∈ l, x = markB bs b.rep b.seq (markB bs a.rep a.seq y) := by
  rw [mem_addL]
  constructor
  · rintro (h | ⟨y, hy, rfl⟩)
    · exact .inl h
    · rcases mem_addL.1 hy with rfl | ⟨z, hz, rfl⟩
      · exact .inr (.inl (markB_out ha))
      · exact .inr (.inr ⟨z, hz, rfl⟩)
  · rintro (h | rfl | ⟨z, hz, rfl⟩)
    · exact .inl h
    · exact .inr ⟨x, mem_addL.2 (.inl rfl), (markB_out ha).symm⟩
    · exact .inr ⟨_, mem_addL.2 (.inr ⟨z, hz, rfl⟩), rfl⟩
theorem both_turned {l : List Ver} {a b : Ver} {bs : List Idn} (hs : SortedV l) (hfa : findV l a.rep a.seq = none) (hfb : findV l b.rep b.seq = none) (hne : ¬ (a.rep = b.rep ∧ a.seq = b.seq)) (ha : vid a ∉ bs) (hb : vid b ∉ bs) :
    addL (addL l bs a) bs b = addL (addL l bs b) bs a := by
  refine sorted_ext (addL_sorted (addL_sorted hs hfa) (findV_add hfb hne)) (addL_sorted (addL_sorted hs hfb) (findV_add hfa fun e => hne ⟨e.1.symm, e.2.symm⟩)) fun x => ?_
  rw [both_mem ha hb, both_mem hb ha]
  constructor
  · rintro (h | h | ⟨y, hy, h⟩)
    · exact .inr (.inl h)
    · exact .inl h
    · exact .inr (.inr ⟨y, hy, by rw [h, markB_comm]⟩)
  · rintro (h | h | ⟨y, hy, h⟩)
    · exact .inr (.inl h)
    · exact .inl h
    · exact .inr (.inr ⟨y, hy, by rw [h, markB_comm]⟩)
theorem filter_two {l : List Ver} {p : Ver → Bool} {x y : Ver} (hx : x ∈ l) (hy : y ∈ l) (hxy : x ≠ y) (hp : p x = true) (hq : p y = true) (ho : ∀ z ∈ l, p z = true → z = x ∨ z = y) (hn : l.Pairwise (· ≠ ·)) : (l.filter p).length = 2 := by
  induction l with
  | nil => simp at hx
  | cons z l ih =>
    obtain ⟨n1, n2⟩ := List.pairwise_cons.1 hn
    rcases List.mem_cons.1 hx with rfl | hx'
    · rcases List.mem_cons.1 hy with e | hy'
      · exact absurd e.symm hxy
      · rw [List.filter_cons_of_pos hp, filter_one hy' hq (fun w hw hpw => (ho w (List.mem_cons_of_mem _ hw) hpw).resolve_left fun e => n1 w hw e.symm) n2]; rfl
    · rcases List.mem_cons.1 hy with rfl | hy'
      · rw [List.filter_cons_of_pos hq, filter_one hx' hp (fun w hw hpw => (ho w (List.mem_cons_of_mem _ hw) hpw).resolve_right fun e => n1 w hw e.symm) n2]; rfl
      · have : ¬ p z = true := fun hz => by
          rcases ho z List.mem_cons_self hz with e | e
          · exact n1 x hx' e
          · exact n1 y hy' e
        rw [List.filter_cons_of_neg this]
        exact ih hx' hy' (fun w hw => ho w (List.mem_cons_of_mem _ hw)) n2
theorem heads_two {l : List Ver} {a b : Ver} (hs : SortedV l) (hfa : findV l a.rep a.seq = none) (hfb : findV l b.rep b.seq = none) (hne : ¬ (a.rep = b.rep ∧ a.seq = b.seq)) (h0a : headP a = true) (h0b : headP b = true) (hr : 1 ≤ a.rep ∧ a.rep ≤ 8) (hq : 1 ≤ a.seq) :
    ((addL (addL l (headIds l) a) (headIds l) b).filter headP).length = 2 := by
  have hna : vid a ∉ headIds l := fun h => by
    obtain ⟨v, hv, _, e⟩ := mem_headIds.1 h
    simp only [vid, Prod.mk.injEq] at e
    exact findV_none.1 hfa v hv e
  have hnb : vid b ∉ headIds l := fun h => by
    obtain ⟨v, hv, _, e⟩ := mem_headIds.1 h
    simp only [vid, Prod.mk.injEq] at e
    exact findV_none.1 hfb v hv e
  refine filter_two (x := b) (y := a) ((both_mem hna hnb).2 (.inl rfl)) ((both_mem hna hnb).2 (.inr (.inl rfl))) (fun e => hne (by rw [e]; exact ⟨rfl, rfl⟩)) h0b h0a (fun z hz hp => ?_) (sorted_nodup (addL_sorted (addL_sorted hs hfa) (findV_add hfb hne)))
  rcases (both_mem hna hnb).1 hz with e | e | ⟨y, hy, rfl⟩
  · exact .inl e
  · exact .inr e
  · have h1 := markB_head hp
    have h2 := markB_head h1
    rw [markB_dead (mem_headIds.2 ⟨y, hy, h2, rfl⟩) hr hq] at h1
    cases h1
end Go.Proofs.Ytmeecblciegkkaa.Fw
namespace Go.Proofs.Ytmeecblciegkkaa.Fw
open Go.RowKit
variable {P : Program} {F : Fr} {N : Nat} {ρ ρ' : Nat → Value} {s : FS} {a : Act} {w w' : World} {V V' : View}
/-- a function that is given slices for good, and brings data -/
theorem fun_ownF (hm : P.follows .mixedOrders = true) {f N' : Nat} {rs : List Rv} {c : C} (hf : fnOf P f = some (N', rs, c)) {args : List SV} {h : Nat → Option Blk} {d : Nat} {x : SV} (hlen : args.length ≤ N')
    (hx : x.closed = true) (hts : lentNames args = tops args)
    (hrun : ∀ F, sx (env P F N') c (RetW rs fun y _ => y = x) (mk (argT 0 args) (givenH h (lentNames args)))) :
    FunOk P f args h d x ((lentNames args).map .del ++ [.new d (.row 1 [])]) := by
  refine ⟨entered_of hf, fun F N ρ s a w hR hh vs hc => ?_⟩
  rw [hts]
  rw [hts] at hrun
  generalize htt : tops args = ts at *
  let F' : Fr := ⟨w, mine ρ s.h ts, F.out ρ (without s ts).h, fun _ => undef, []⟩
  have hvl : vs.length = args.length := by
    clear hrun hlen hts hh htt
    induction args generalizing vs with
    | nil => simp only [ConcL] at hc; subst hc; rfl
    | cons x l ih =>
      simp only [ConcL] at hc
      obtain ⟨v, us, rfl, _, h⟩ := hc
      simp [ih _ h]
  have hlk : ∀ n, (mk (argT 0 args) (givenH h ts)).h n = if n ∈ ts then s.h n else none := fun n => by
    simp only [mk, lk_given]
    split
    · rename_i hn; rw [hh n hn]
    · rfl
  have how : ∀ b, owned ρ (mk (argT 0 args) (givenH h ts)).h b ↔ mine ρ s.h ts b := fun b => by
    constructor
    · rintro ⟨n, x, h1, h2⟩
      rw [hlk] at h1; split at h1
      · rename_i hn; exact ⟨n, hn, x, h1, h2⟩
      · cases h1
    · rintro ⟨n, hn, x, h1, h2⟩
      exact ⟨n, x, by rw [hlk, if_pos hn]; exact h1, h2⟩
  have hoth : ∀ b, owned ρ (without s ts).h b ↔ ∃ n, n ∉ ts ∧ ∃ x, s.h n = some x ∧ idOf (ρ n) = some b := fun b => by
    constructor
    · rintro ⟨n, x, h1, h2⟩
      simp only [without] at h1; split at h1
      · cases h1
      · rename_i hn; exact ⟨n, hn, x, h1, h2⟩
    · rintro ⟨n, hn, x, h1, h2⟩
      exact ⟨n, x, by simp only [without, if_neg hn]; exact h1, h2⟩
  have hview : viewOf w (F'.out ρ (mk (argT 0 args) (givenH h ts)).h) = vw F w ρ s := by
    show viewOf w _ = viewOf w _
    congr 1
    funext b
    refine propext ⟨fun hb => ?_, fun hb => ?_⟩
    · rcases hb with hb | hb
      · obtain ⟨n, _, x, h1, h2⟩ := (how b).1 hb; exact .inl ⟨n, x, h1, h2⟩
      · rcases hb with hb | hb
        · obtain ⟨n, _, x, h1, h2⟩ := (hoth b).1 hb; exact .inl ⟨n, x, h1, h2⟩
        · exact .inr hb
    · rcases hb with ⟨n, x, h1, h2⟩ | hb
      · by_cases hn : n ∈ ts
        · exact .inl ((how b).2 ⟨n, hn, x, h1, h2⟩)
        · exact .inr (.inl ((hoth b).2 ⟨n, hn, x, h1, h2⟩))
      · exact .inr (.inr hb)
  have hR0 : RelR F' N' ρ (mk (argT 0 args) (givenH h ts)) { tmps := (⟨vs⟩ : Array Value) ++ Array.replicate (N' - (⟨vs⟩ : Array Value).size) undef, defers := [] } w := by
    refine ⟨⟨rfl, rfl, rfl, Nat.le_refl _, fun _ _ _ => rfl, fun b hb => ⟨?_, fun hmi => ?_⟩⟩, fun b hb => .inr ((how b).1 hb), fun n x hx => ?_, fun n m x y b hx hy hbx hby => ?_, fun n => ?_, by simp; omega, rfl⟩
    · rcases hb with hb | hb
      · obtain ⟨n, _, x, h1, h2⟩ := (hoth b).1 hb; exact (hR.own n x h1).lt h2
      · exact Nat.lt_of_lt_of_le (hR.fr.hid b hb).1 hR.fr.size
    · obtain ⟨n, hn, x, h1, h2⟩ := hmi
      rcases hb with hb | hb
      · obtain ⟨m, hm, y, g1, g2⟩ := (hoth b).1 hb
        exact hm (by rw [hR.inj m n y x b g1 h1 g2 h2]; exact hn)
      · exact hR.shown ⟨n, x, h1, h2⟩ hb
    · rw [hview]
      rw [hlk] at hx; split at hx
      · exact hR.own n x hx
      · cases hx
    · rw [hlk] at hx hy
      split at hx
      · split at hy
        · exact hR.inj n m x y b hx hy hbx hby
        · cases hy
      · cases hx
    · rw [hview]
      have := argT_conc 0 n hc
      simp only [Nat.zero_le, if_true, Nat.sub_zero] at this
      simp only [mk]
      have he : ((⟨vs⟩ : Array Value) ++ Array.replicate (N' - (⟨vs⟩ : Array Value).size) undef).getD n undef = (vs[n]?).getD undef := by
        rw [Array.getD_eq_getD_getElem?]
        by_cases hn : n < vs.length
        · rw [Array.getElem?_append_left (by simpa using hn)]; simp
        · rw [Array.getElem?_append_right (by simpa using hn)]
          rw [List.getElem?_eq_none (by omega)]
          simp only [Array.getElem?_replicate, Option.getD_none]
          split <;> rfl
      have hN := fnOf_le hf
      unfold Fr.val
      by_cases hb : n < big
      · rw [if_pos hb, he]; exact this
      · rw [if_neg hb]
        rw [List.getElem?_eq_none (by omega)] at this; exact this
  refine Calls.mono (call_fromG hm hf rfl hR0.fr (fun b ⟨n, hn, x, h1, h2⟩ => (hR.own n x h1).lt h2) hR0 retW_w (hrun F')) fun e w' he => ?_
  obtain ⟨v, ρ', s', a', y, rfl, hR', hy, rfl⟩ := he
  have hres := hR.swapin (w' := w') ts d (.row 1 []) (.slice none 0 0) hR'.fr.os hR'.fr.tape hR'.fr.output hR'.fr.size hR'.fr.block (fun b hb => by simp [idOf] at hb)
    ⟨none, 0, by rw [upd_self]; rfl, Nat.le_refl _, Nat.one_pos, by simp, fun h => absurd rfl h⟩
  have e1 : s.hup (List.map HU.del ts ++ [HU.new d (Blk.row 1 [])]) = ((without s ts).kill d).seth d (some (.row 1 [])) := by rw [hup_dels]; rfl
  refine ⟨v, Fw.upd ρ d (.slice none 0 0), rfl, by rw [e1]; exact hres.1, ?_⟩
  refine closed_conc (viewOf_le fun b' c' hno hc' => ⟨fun hb' => hno ?_, hc'⟩) hx hy
  rcases hb' with ⟨m, z, hm1, hm2⟩ | hb'
  · simp only [e1, without, FS.seth, FS.kill] at hm1
    by_cases hmd : m = d
    · subst hmd
      rw [upd_self] at hm2
      simp [idOf] at hm2
    · rw [upd_ne hmd] at hm2
      simp only [hmd, if_false] at hm1
      by_cases hmt : m ∈ ts
      · simp [hmt] at hm1
      · simp only [hmt, if_false] at hm1
        obtain ⟨z', hz', _⟩ := Option.map_eq_some_iff.1 hm1
        exact .inr (.inl ((hoth b').2 ⟨m, hmt, z', hz', hm2⟩))
  · exact .inr (.inr hb')
end Go.Proofs.Ytmeecblciegkkaa.Fw
namespace Go.Proofs.Ytmeecblciegkkaa.Fw
open Go.RowKit Go.Proofs
/-- none of these went by an event that the other one means -/
def goneF (a b : Vc) : Prop := ∀ i, i < 8 → ¬ (0 < a i ∧ a i ≤ b i)
instance (a b : Vc) : Decidable (goneF a b) := inferInstanceAs (Decidable (∀ i, i < 8 → _))
def goneB (a b : Vc) : Bool := !decide (goneF a b)
theorem goneB_t {a b : Vc} {k : Nat} (hk : k < 8) (h : 0 < a k ∧ a k ≤ b k) : goneB a b = true := by
  have : ¬ goneF a b := fun g => g k hk h
  simp [goneB, this]
theorem goneB_f {a b : Vc} (h : goneF a b) : goneB a b = false := by simp [goneB, h]
def stGone (a b : Vc) (k : Nat) : FS := mk [(8, .pv (.i .i64 k)), (7, .vec 8 (vE a)), (3, .p 3 0)] [(3, some (.var (.vec 8 (vE b))))]
theorem okGone (a b : Vc) {h d} : FunOk Try.prog 72 [.vec 8 (vE a), .vec 8 (vE b)] h d (.pv (.b (goneB a b))) [] := by
  refine fun_pure mixed fn72 (by simp) rfl rfl fun F => ?_
  (try simp only [brK_e, gdK_e, skK_e, gdA_e, skA_e, pkK_e]); simp (maxSteps := 10000000) (disch := omega) only [ir72, go_sem, ↓reduceIte, Nat.reduceEqDiff, Nat.reduceSub, Nat.reduceLeDiff, Nat.reduceAdd, Int.reduceEq, Int.reduceLT, Int.reduceLE]
  refine loop_ok mixed (stGone a b) (fun k => k ≤ 8 ∧ ∀ i, i < k → ¬ (0 < a i ∧ a i ≤ b i)) (fun k => 8 - k) 0 (by simp) (weak_mk ?_ ?_) fun k hk => ?_
  · (try simp only [brK_e, gdK_e, skK_e, gdA_e, skA_e, pkK_e]); simp (maxSteps := 10000000) (disch := omega) only [go_sem, ↓reduceIte, Nat.reduceEqDiff, Nat.reduceSub, Nat.reduceLeDiff, Nat.reduceAdd, Int.reduceEq, Int.reduceLT, Int.reduceLE]
  · (try simp only [brK_e, gdK_e, skK_e, gdA_e, skA_e, pkK_e]); simp (maxSteps := 10000000) (disch := omega) only [go_sem, ↓reduceIte, Nat.reduceEqDiff, Nat.reduceSub, Nat.reduceLeDiff, Nat.reduceAdd, Int.reduceEq, Int.reduceLT, Int.reduceLE]
  obtain ⟨hk1, hk2⟩ := hk
  by_cases hlt : k < 8
  · by_cases hz : 0 < a k
    · by_cases hb : a k ≤ b k
      · have e := goneB_t hlt ⟨hz, hb⟩
        (try simp only [brK_e, gdK_e, skK_e, gdA_e, skA_e, pkK_e]); simp (maxSteps := 10000000) (disch := omega) only [stGone, hz, hb, e, go_sem, ↓reduceIte, Nat.reduceEqDiff, Nat.reduceSub, Nat.reduceLeDiff, Nat.reduceAdd, Int.reduceEq, Int.reduceLT, Int.reduceLE]
      · (try simp only [brK_e, gdK_e, skK_e, gdA_e, skA_e, pkK_e]); simp (maxSteps := 10000000) (disch := omega) only [stGone, hz, hb, go_sem, ↓reduceIte, Nat.reduceEqDiff, Nat.reduceSub, Nat.reduceLeDiff, Nat.reduceAdd, Int.reduceEq, Int.reduceLT, Int.reduceLE]
        refine loop_next (k + 1) _ _ rfl ⟨by omega, fun i hi => ?_⟩ (by omega) ?_ ?_
        · by_cases e : i = k
          · subst e; omega
          · exact hk2 i (by omega)
        · (try simp only [brK_e, gdK_e, skK_e, gdA_e, skA_e, pkK_e]); simp (maxSteps := 10000000) (disch := omega) only [go_sem, ↓reduceIte, Nat.reduceEqDiff, Nat.reduceSub, Nat.reduceLeDiff, Nat.reduceAdd, Int.reduceEq, Int.reduceLT, Int.reduceLE]
        · (try simp only [brK_e, gdK_e, skK_e, gdA_e, skA_e, pkK_e]); simp (maxSteps := 10000000) (disch := omega) only [go_sem, ↓reduceIte, Nat.reduceEqDiff, Nat.reduceSub, Nat.reduceLeDiff, Nat.reduceAdd, Int.reduceEq, Int.reduceLT, Int.reduceLE]
    · (try simp only [brK_e, gdK_e, skK_e, gdA_e, skA_e, pkK_e]); simp (maxSteps := 10000000) (disch := omega) only [stGone, hz, go_sem, ↓reduceIte, Nat.reduceEqDiff, Nat.reduceSub, Nat.reduceLeDiff, Nat.reduceAdd, Int.reduceEq, Int.reduceLT, Int.reduceLE]
      refine loop_next (k + 1) _ _ rfl ⟨by omega, fun i hi => ?_⟩ (by omega) ?_ ?_
      · by_cases e : i = k
        · subst e; omega
        · exact hk2 i (by omega)
      · (try simp only [brK_e, gdK_e, skK_e, gdA_e, skA_e, pkK_e]); simp (maxSteps := 10000000) (disch := omega) only [go_sem, ↓reduceIte, Nat.reduceEqDiff, Nat.reduceSub, Nat.reduceLeDiff, Nat.reduceAdd, Int.reduceEq, Int.reduceLT, Int.reduceLE]
      · (try simp only [brK_e, gdK_e, skK_e, gdA_e, skA_e, pkK_e]); simp (maxSteps := 10000000) (disch := omega) only [go_sem, ↓reduceIte, Nat.reduceEqDiff, Nat.reduceSub, Nat.reduceLeDiff, Nat.reduceAdd, Int.reduceEq, Int.reduceLT, Int.reduceLE]
  · obtain rfl : k = 8 := by omega
    have e := goneB_f (a := a) (b := b) hk2
    (try simp only [brK_e, gdK_e, skK_e, gdA_e, skA_e, pkK_e]); simp (maxSteps := 10000000) (disch := omega) only [stGone, e, go_sem, ↓reduceIte, Nat.reduceEqDiff, Nat.reduceSub, Nat.reduceLeDiff, Nat.reduceAdd, Int.reduceEq, Int.reduceLT, Int.reduceLE]
def stGoneR (a b : Vc) (k : Nat) : FS := mk [(5, .pv (.i .i64 k)), (2, .p 2 0), (3, .p 3 0)] [(2, some (.var (.vec 8 (vE a)))), (3, some (.var (.vec 8 (vE b))))]
theorem okGoneR (a b : Vc) {h d} : FunOk Try.prog 73 [.vec 8 (vE a), .vec 8 (vE b)] h d (.pv (.b (goneB a b))) [] := by
  refine fun_pure mixed fn73 (by simp) rfl rfl fun F => ?_
  (try simp only [brK_e, gdK_e, skK_e, gdA_e, skA_e, pkK_e]); simp (maxSteps := 10000000) (disch := omega) only [ir73, go_sem, ↓reduceIte, Nat.reduceEqDiff, Nat.reduceSub, Nat.reduceLeDiff, Nat.reduceAdd, Int.reduceEq, Int.reduceLT, Int.reduceLE]
  refine loop_ok mixed (stGoneR a b) (fun k => k ≤ 8 ∧ ∀ i, i < k → ¬ (0 < a i ∧ a i ≤ b i)) (fun k => 8 - k) 0 (by simp) (weak_mk ?_ ?_) fun k hk => ?_
  · (try simp only [brK_e, gdK_e, skK_e, gdA_e, skA_e, pkK_e]); simp (maxSteps := 10000000) (disch := omega) only [go_sem, ↓reduceIte, Nat.reduceEqDiff, Nat.reduceSub, Nat.reduceLeDiff, Nat.reduceAdd, Int.reduceEq, Int.reduceLT, Int.reduceLE]
  · (try simp only [brK_e, gdK_e, skK_e, gdA_e, skA_e, pkK_e]); simp (maxSteps := 10000000) (disch := omega) only [go_sem, ↓reduceIte, Nat.reduceEqDiff, Nat.reduceSub, Nat.reduceLeDiff, Nat.reduceAdd, Int.reduceEq, Int.reduceLT, Int.reduceLE]
  obtain ⟨hk1, hk2⟩ := hk
  by_cases hlt : k < 8
  · by_cases hz : 0 < a k
    · have hz' : (1 : Int) ≤ a k := by omega
      by_cases hb : a k ≤ b k
      · have e := goneB_t hlt ⟨hz, hb⟩
        (try simp only [brK_e, gdK_e, skK_e, gdA_e, skA_e, pkK_e]); simp (maxSteps := 10000000) (disch := omega) only [stGoneR, hz', hb, e, go_sem, ↓reduceIte, Nat.reduceEqDiff, Nat.reduceSub, Nat.reduceLeDiff, Nat.reduceAdd, Int.reduceEq, Int.reduceLT, Int.reduceLE]
      · (try simp only [brK_e, gdK_e, skK_e, gdA_e, skA_e, pkK_e]); simp (maxSteps := 10000000) (disch := omega) only [stGoneR, hz', hb, go_sem, ↓reduceIte, Nat.reduceEqDiff, Nat.reduceSub, Nat.reduceLeDiff, Nat.reduceAdd, Int.reduceEq, Int.reduceLT, Int.reduceLE]
        refine loop_next (k + 1) _ _ rfl ⟨by omega, fun i hi => ?_⟩ (by omega) ?_ ?_
        · by_cases e : i = k
          · subst e; omega
          · exact hk2 i (by omega)
        · (try simp only [brK_e, gdK_e, skK_e, gdA_e, skA_e, pkK_e]); simp (maxSteps := 10000000) (disch := omega) only [go_sem, ↓reduceIte, Nat.reduceEqDiff, Nat.reduceSub, Nat.reduceLeDiff, Nat.reduceAdd, Int.reduceEq, Int.reduceLT, Int.reduceLE]
        · (try simp only [brK_e, gdK_e, skK_e, gdA_e, skA_e, pkK_e]); simp (maxSteps := 10000000) (disch := omega) only [go_sem, ↓reduceIte, Nat.reduceEqDiff, Nat.reduceSub, Nat.reduceLeDiff, Nat.reduceAdd, Int.reduceEq, Int.reduceLT, Int.reduceLE]
    · have hz' : ¬ (1 : Int) ≤ a k := by omega
      (try simp only [brK_e, gdK_e, skK_e, gdA_e, skA_e, pkK_e]); simp (maxSteps := 10000000) (disch := omega) only [stGoneR, hz', go_sem, ↓reduceIte, Nat.reduceEqDiff, Nat.reduceSub, Nat.reduceLeDiff, Nat.reduceAdd, Int.reduceEq, Int.reduceLT, Int.reduceLE]
      refine loop_next (k + 1) _ _ rfl ⟨by omega, fun i hi => ?_⟩ (by omega) ?_ ?_
      · by_cases e : i = k
        · subst e; omega
        · exact hk2 i (by omega)
      · (try simp only [brK_e, gdK_e, skK_e, gdA_e, skA_e, pkK_e]); simp (maxSteps := 10000000) (disch := omega) only [go_sem, ↓reduceIte, Nat.reduceEqDiff, Nat.reduceSub, Nat.reduceLeDiff, Nat.reduceAdd, Int.reduceEq, Int.reduceLT, Int.reduceLE]
      · (try simp only [brK_e, gdK_e, skK_e, gdA_e, skA_e, pkK_e]); simp (maxSteps := 10000000) (disch := omega) only [go_sem, ↓reduceIte, Nat.reduceEqDiff, Nat.reduceSub, Nat.reduceLeDiff, Nat.reduceAdd, Int.reduceEq, Int.reduceLT, Int.reduceLE]
  · obtain rfl : k = 8 := by omega
    have e := goneB_f (a := a) (b := b) hk2
    (try simp only [brK_e, gdK_e, skK_e, gdA_e, skA_e, pkK_e]); simp (maxSteps := 10000000) (disch := omega) only [stGoneR, e, go_sem, ↓reduceIte, Nat.reduceEqDiff, Nat.reduceSub, Nat.reduceLeDiff, Nat.reduceAdd, Int.reduceEq, Int.reduceLT, Int.reduceLE]
/-- how many of a replica's events are meant -/
def getV (a : Vc) (r : Int) : Nat := if 1 ≤ r ∧ r ≤ 8 then a (r - 1).toNat else 0
def hasB (a : Vc) (r : Int) (q : Nat) : Bool := decide (1 ≤ q ∧ q ≤ getV a r)
theorem okGet (a : Vc) (r : Int) {h d} : FunOk Try.prog 119 [.vec 8 (vE a), .pv (.i .i64 r)] h d (.pv (.i .u32 (getV a r))) [] := by
  refine fun_pure mixed fn119 (by simp) rfl rfl fun F => ?_
  by_cases h1 : r < 1
  · have e : getV a r = 0 := by simp [getV]; omega
    (try simp only [brK_e, gdK_e, skK_e, gdA_e, skA_e, pkK_e]); simp (maxSteps := 10000000) (disch := omega) only [ir119, h1, e, go_sem, ↓reduceIte, Nat.reduceEqDiff, Nat.reduceSub, Nat.reduceLeDiff, Nat.reduceAdd, Int.reduceEq, Int.reduceLT, Int.reduceLE]
  by_cases h2 : 8 < r
  · have e : getV a r = 0 := by simp [getV]; omega
    (try simp only [brK_e, gdK_e, skK_e, gdA_e, skA_e, pkK_e]); simp (maxSteps := 10000000) (disch := omega) only [ir119, h1, h2, e, go_sem, ↓reduceIte, Nat.reduceEqDiff, Nat.reduceSub, Nat.reduceLeDiff, Nat.reduceAdd, Int.reduceEq, Int.reduceLT, Int.reduceLE]
  have e : getV a r = a (r - 1).toNat := by simp [getV]; omega
  obtain ⟨k, rfl⟩ : ∃ k : Nat, r = k + 1 := ⟨(r - 1).toNat, by omega⟩
  have ek : ((k : Int) + 1 - 1) = k := by omega
  (try simp only [brK_e, gdK_e, skK_e, gdA_e, skA_e, pkK_e]); simp (maxSteps := 10000000) (disch := omega) only [ir119, h1, h2, e, ek, go_sem, ↓reduceIte, Nat.reduceEqDiff, Nat.reduceSub, Nat.reduceLeDiff, Nat.reduceAdd, Int.reduceEq, Int.reduceLT, Int.reduceLE]
def stGetR (a : Vc) (r : Int) (k : Nat) : FS := mk [(5, .pv (.i .i64 k)), (1, .pv (.i .i64 r)), (2, .p 2 0)] [(2, some (.var (.vec 8 (vE a))))]
theorem okGetR (a : Vc) (r : Int) {h d} : FunOk Try.prog 82 [.vec 8 (vE a), .pv (.i .i64 r)] h d (.pv (.i .u32 (getV a r))) [] := by
  refine fun_pure mixed fn82 (by simp) rfl rfl fun F => ?_
  (try simp only [brK_e, gdK_e, skK_e, gdA_e, skA_e, pkK_e]); simp (maxSteps := 10000000) (disch := omega) only [ir82, go_sem, ↓reduceIte, Nat.reduceEqDiff, Nat.reduceSub, Nat.reduceLeDiff, Nat.reduceAdd, Int.reduceEq, Int.reduceLT, Int.reduceLE]
  refine loop_ok mixed (stGetR a r) (fun k => k ≤ 8 ∧ ∀ i : Nat, i < k → (i : Int) + 1 ≠ r) (fun k => 8 - k) 0 (by simp) (weak_mk ?_ ?_) fun k hk => ?_
  · (try simp only [brK_e, gdK_e, skK_e, gdA_e, skA_e, pkK_e]); simp (maxSteps := 10000000) (disch := omega) only [go_sem, ↓reduceIte, Nat.reduceEqDiff, Nat.reduceSub, Nat.reduceLeDiff, Nat.reduceAdd, Int.reduceEq, Int.reduceLT, Int.reduceLE]
  · (try simp only [brK_e, gdK_e, skK_e, gdA_e, skA_e, pkK_e]); simp (maxSteps := 10000000) (disch := omega) only [go_sem, ↓reduceIte, Nat.reduceEqDiff, Nat.reduceSub, Nat.reduceLeDiff, Nat.reduceAdd, Int.reduceEq, Int.reduceLT, Int.reduceLE]
  obtain ⟨hk1, hk2⟩ := hk
  by_cases hlt : k < 8
  · by_cases he : (k : Int) + 1 = r
    · subst he
      have e : getV a ((k : Int) + 1) = a k := by
        have e1 : ((k : Int) + 1 - 1).toNat = k := by omega
        simp [getV, e1]; omega
      (try simp only [brK_e, gdK_e, skK_e, gdA_e, skA_e, pkK_e]); simp (maxSteps := 10000000) (disch := omega) only [stGetR, e, go_sem, ↓reduceIte, Nat.reduceEqDiff, Nat.reduceSub, Nat.reduceLeDiff, Nat.reduceAdd, Int.reduceEq, Int.reduceLT, Int.reduceLE]
    · (try simp only [brK_e, gdK_e, skK_e, gdA_e, skA_e, pkK_e]); simp (maxSteps := 10000000) (disch := omega) only [stGetR, he, go_sem, ↓reduceIte, Nat.reduceEqDiff, Nat.reduceSub, Nat.reduceLeDiff, Nat.reduceAdd, Int.reduceEq, Int.reduceLT, Int.reduceLE]
      refine loop_next (k + 1) _ _ rfl ⟨by omega, fun i hi => ?_⟩ (by omega) ?_ ?_
      · by_cases e : i = k
        · subst e; exact he
        · exact hk2 i (by omega)
      · (try simp only [brK_e, gdK_e, skK_e, gdA_e, skA_e, pkK_e]); simp (maxSteps := 10000000) (disch := omega) only [go_sem, ↓reduceIte, Nat.reduceEqDiff, Nat.reduceSub, Nat.reduceLeDiff, Nat.reduceAdd, Int.reduceEq, Int.reduceLT, Int.reduceLE]
      · (try simp only [brK_e, gdK_e, skK_e, gdA_e, skA_e, pkK_e]); simp (maxSteps := 10000000) (disch := omega) only [go_sem, ↓reduceIte, Nat.reduceEqDiff, Nat.reduceSub, Nat.reduceLeDiff, Nat.reduceAdd, Int.reduceEq, Int.reduceLT, Int.reduceLE]
  · obtain rfl : k = 8 := by omega
    have e : getV a r = 0 := by
      unfold getV
      rw [if_neg]
      intro h
      exact hk2 (r - 1).toNat (by omega) (by omega)
    (try simp only [brK_e, gdK_e, skK_e, gdA_e, skA_e, pkK_e]); simp (maxSteps := 10000000) (disch := omega) only [stGetR, e, go_sem, ↓reduceIte, Nat.reduceEqDiff, Nat.reduceSub, Nat.reduceLeDiff, Nat.reduceAdd, Int.reduceEq, Int.reduceLT, Int.reduceLE]
theorem okHasV (a : Vc) (r : Int) (q : Nat) {h d} : FunOk Try.prog 76 [.vec 8 (vE a), .vec 2 [.i .i64 r, .i .u32 q]] h d (.pv (.b (hasB a r q))) [] := by
  refine fun_pure mixed fn76 (by simp) rfl rfl fun F => ?_
  by_cases h1 : (1 : Int) ≤ q
  · (try simp only [brK_e, gdK_e, skK_e, gdA_e, skA_e, pkK_e]); simp (maxSteps := 10000000) (disch := omega) only [ir76, h1, go_sem, ↓reduceIte, Nat.reduceEqDiff, Nat.reduceSub, Nat.reduceLeDiff, Nat.reduceAdd, Int.reduceEq, Int.reduceLT, Int.reduceLE]
    refine call_with (okGet a r) ?_
    have e : hasB a r q = decide ((q : Int) ≤ (getV a r : Int)) := decide_eq_decide.2 (by omega)
    (try simp only [brK_e, gdK_e, skK_e, gdA_e, skA_e, pkK_e]); simp (maxSteps := 10000000) (disch := omega) only [e, go_sem, ↓reduceIte, Nat.reduceEqDiff, Nat.reduceSub, Nat.reduceLeDiff, Nat.reduceAdd, Int.reduceEq, Int.reduceLT, Int.reduceLE]
  · have e : hasB a r q = false := decide_eq_false (by omega)
    (try simp only [brK_e, gdK_e, skK_e, gdA_e, skA_e, pkK_e]); simp (maxSteps := 10000000) (disch := omega) only [ir76, h1, e, go_sem, ↓reduceIte, Nat.reduceEqDiff, Nat.reduceSub, Nat.reduceLeDiff, Nat.reduceAdd, Int.reduceEq, Int.reduceLT, Int.reduceLE]
theorem okHasR (a : Vc) (r : Int) (q : Nat) {h d} : FunOk Try.prog 77 [.vec 8 (vE a), .vec 2 [.i .i64 r, .i .u32 q]] h d (.pv (.b (hasB a r q))) [] := by
  refine fun_pure mixed fn77 (by simp) rfl rfl fun F => ?_
  by_cases h1 : (0 : Int) < q
  · (try simp only [brK_e, gdK_e, skK_e, gdA_e, skA_e, pkK_e]); simp (maxSteps := 10000000) (disch := omega) only [ir77, h1, go_sem, ↓reduceIte, Nat.reduceEqDiff, Nat.reduceSub, Nat.reduceLeDiff, Nat.reduceAdd, Int.reduceEq, Int.reduceLT, Int.reduceLE]
    refine call_with (okGetR a r) ?_
    have e : hasB a r q = decide ((q : Int) ≤ (getV a r : Int)) := decide_eq_decide.2 (by omega)
    (try simp only [brK_e, gdK_e, skK_e, gdA_e, skA_e, pkK_e]); simp (maxSteps := 10000000) (disch := omega) only [e, go_sem, ↓reduceIte, Nat.reduceEqDiff, Nat.reduceSub, Nat.reduceLeDiff, Nat.reduceAdd, Int.reduceEq, Int.reduceLT, Int.reduceLE]
  · have e : hasB a r q = false := decide_eq_false (by omega)
    (try simp only [brK_e, gdK_e, skK_e, gdA_e, skA_e, pkK_e]); simp (maxSteps := 10000000) (disch := omega) only [ir77, h1, e, go_sem, ↓reduceIte, Nat.reduceEqDiff, Nat.reduceSub, Nat.reduceLeDiff, Nat.reduceAdd, Int.reduceEq, Int.reduceLT, Int.reduceLE]
end Go.Proofs.Ytmeecblciegkkaa.Fw
namespace Go.Proofs.Ytmeecblciegkkaa.Fw
open Go.RowKit Go.Proofs
theorem okSwF (v : Ver) (b : Vc) {x : SV} {h d} (hx : lents h [.vec 11 (verE v), x] = [.vec 11 (verE v), .pi 8 [vE b] 0 0]) (hl : lendable [.vec 11 (verE v), x] = true) : FunOk Try.prog 71 [.vec 11 (verE v), x] h d (.pv (.b (goneB v.gone b))) [] := by
  refine fun_scalar mixed fn71 (by simp) hl rfl fun F => ?_
  rw [hx]
  have hv := verE_len v
  have e0 : [vE b][0]? = some (vE b) := rfl
  (try simp only [brK_e, gdK_e, skK_e, gdA_e, skA_e, pkK_e]); simp (maxSteps := 10000000) (disch := omega) only [ir71, ld_verBy, load_vE8, e0, go_sem, ↓reduceIte, Nat.reduceEqDiff, Nat.reduceSub, Nat.reduceLeDiff, Nat.reduceAdd, Int.reduceEq, Int.reduceLT, Int.reduceLE]
  refine call_with (okGone _ _) ?_
  (try simp only [brK_e, gdK_e, skK_e, gdA_e, skA_e, pkK_e]); simp (maxSteps := 10000000) (disch := omega) only [go_sem, ↓reduceIte, Nat.reduceEqDiff, Nat.reduceSub, Nat.reduceLeDiff, Nat.reduceAdd, Int.reduceEq, Int.reduceLT, Int.reduceLE]
theorem okUnF (v : Ver) (b : Vc) {x : SV} {h d} (hx : lents h [.vec 11 (verE v), x] = [.vec 11 (verE v), .pi 8 [vE b] 0 0]) (hl : lendable [.vec 11 (verE v), x] = true) : FunOk Try.prog 75 [.vec 11 (verE v), x] h d (.pv (.b (!hasB b v.rep v.seq))) [] := by
  refine fun_scalar mixed fn75 (by simp) hl rfl fun F => ?_
  rw [hx]
  have hv := verE_len v
  have e0 : [vE b][0]? = some (vE b) := rfl
  (try simp only [brK_e, gdK_e, skK_e, gdA_e, skA_e, pkK_e]); simp (maxSteps := 10000000) (disch := omega) only [ir75, ld_verId, load_vE8, e0, go_sem, ↓reduceIte, Nat.reduceEqDiff, Nat.reduceSub, Nat.reduceLeDiff, Nat.reduceAdd, Int.reduceEq, Int.reduceLT, Int.reduceLE]
  refine call_with (okHasV _ _ _) ?_
  (try simp only [brK_e, gdK_e, skK_e, gdA_e, skA_e, pkK_e]); simp (maxSteps := 10000000) (disch := omega) only [go_sem, ↓reduceIte, Nat.reduceEqDiff, Nat.reduceSub, Nat.reduceLeDiff, Nat.reduceAdd, Int.reduceEq, Int.reduceLT, Int.reduceLE]
def idxI (P : Ver → Bool) (l : List Ver) : Int := if l.findIdx P < l.length then (l.findIdx P : Int) else -1
theorem idxI_at {P : Ver → Bool} {l : List Ver} {k : Nat} (hk : k < l.length) (h1 : P l[k] = true) (h2 : ∀ j, (hj : j < k) → P (l[j]'(by omega)) = false) : idxI P l = k := by
  have e : l.findIdx P = k := (List.findIdx_eq hk).2 ⟨h1, fun j hj => h2 j hj⟩
  unfold idxI; rw [e, if_pos hk]
theorem idxI_no {P : Ver → Bool} {l : List Ver} (h2 : ∀ j, (hj : j < l.length) → P l[j] = false) : idxI P l = -1 := by
  have e : l.findIdx P = l.length := List.findIdx_eq_length.2 fun x hx => by
    obtain ⟨j, hj, rfl⟩ := List.getElem_of_mem hx
    exact h2 j hj
  unfold idxI; rw [e, if_neg (Nat.lt_irrefl _)]
def Test (m : Nat) (b : Vc) (P : Ver → Bool) : Prop := ∀ (v : Ver) (x : SV) h d, lents h [.vec 11 (verE v), x] = [.vec 11 (verE v), .pi 8 [vE b] 0 0] → lendable [.vec 11 (verE v), x] = true → FunOk Try.prog m [.vec 11 (verE v), x] h d (.pv (.b (P v))) []
def stIdx (f : Bool) (l : List Ver) (m : Nat) (b : Vc) (k : Nat) : FS := mk [(8, .pv (.i .i64 k)), (7, .pv (.i .i64 l.length)), (0, .pv (.sl f 11 (l.map verE))), (1, .fn (.func m) [.pi 8 [vE b] 0 0])] []
theorem okIndex {x y : SV} {f : Bool} {l : List Ver} {m : Nat} {b : Vc} {P : Ver → Bool} {h d} (hP : Test m b P) (hx : lents h [x, y] = [.pv (.sl f 11 (l.map verE)), .fn (.func m) [.pi 8 [vE b] 0 0]]) (hl : lendable [x, y] = true) (hn : l.length ≤ 1000) :
    FunOk Try.prog 118 [x, y] h d (.pv (.i .i64 (idxI P l))) [] := by
  refine fun_scalar mixed fn118 (by simp) hl rfl fun F => ?_
  rw [hx]
  (try simp only [brK_e, gdK_e, skK_e, gdA_e, skA_e, pkK_e]); simp (maxSteps := 10000000) (disch := omega) only [ir118, List.length_map, go_sem, ↓reduceIte, Nat.reduceEqDiff, Nat.reduceSub, Nat.reduceLeDiff, Nat.reduceAdd, Int.reduceEq, Int.reduceLT, Int.reduceLE]
  refine loop_ok mixed (stIdx f l m b) (fun k => k ≤ l.length ∧ ∀ j, (hj : j < l.length) → j < k → P l[j] = false) (fun k => l.length - k) 0 (by simp) (weak_mk ?_ ?_) fun k hk => ?_
  · (try simp only [brK_e, gdK_e, skK_e, gdA_e, skA_e, pkK_e]); simp (maxSteps := 10000000) (disch := omega) only [go_sem, ↓reduceIte, Nat.reduceEqDiff, Nat.reduceSub, Nat.reduceLeDiff, Nat.reduceAdd, Int.reduceEq, Int.reduceLT, Int.reduceLE]
  · (try simp only [brK_e, gdK_e, skK_e, gdA_e, skA_e, pkK_e]); simp (maxSteps := 10000000) (disch := omega) only [go_sem, ↓reduceIte, Nat.reduceEqDiff, Nat.reduceSub, Nat.reduceLeDiff, Nat.reduceAdd, Int.reduceEq, Int.reduceLT, Int.reduceLE]
  obtain ⟨hk1, hk2⟩ := hk
  by_cases hlt : k < l.length
  · have he : (l.map verE)[k]? = some (verE l[k]) := by simp [hlt]
    have hv := verE_len l[k]
    (try simp only [brK_e, gdK_e, skK_e, gdA_e, skA_e, pkK_e]); simp (maxSteps := 10000000) (disch := omega) only [stIdx, List.length_map, he, ld_ver, go_sem, ↓reduceIte, Nat.reduceEqDiff, Nat.reduceSub, Nat.reduceLeDiff, Nat.reduceAdd, Int.reduceEq, Int.reduceLT, Int.reduceLE]
    refine call_with (hP _ _ _ _ rfl rfl) ?_
    by_cases hp : P l[k] = true
    · have e := idxI_at hlt hp fun j hj => hk2 j (by omega) hj
      (try simp only [brK_e, gdK_e, skK_e, gdA_e, skA_e, pkK_e]); simp (maxSteps := 10000000) (disch := omega) only [hp, e, go_sem, ↓reduceIte, Nat.reduceEqDiff, Nat.reduceSub, Nat.reduceLeDiff, Nat.reduceAdd, Int.reduceEq, Int.reduceLT, Int.reduceLE]
    · have hp' : P l[k] = false := by simpa using hp
      (try simp only [brK_e, gdK_e, skK_e, gdA_e, skA_e, pkK_e]); simp (maxSteps := 10000000) (disch := omega) only [hp', go_sem, ↓reduceIte, Nat.reduceEqDiff, Nat.reduceSub, Nat.reduceLeDiff, Nat.reduceAdd, Int.reduceEq, Int.reduceLT, Int.reduceLE]
      refine loop_next (k + 1) _ _ rfl ⟨by omega, fun j hj hjk => ?_⟩ (by omega) ?_ ?_
      · by_cases e : j = k
        · subst e; exact hp'
        · exact hk2 j hj (by omega)
      · (try simp only [brK_e, gdK_e, skK_e, gdA_e, skA_e, pkK_e]); simp (maxSteps := 10000000) (disch := omega) only [go_sem, ↓reduceIte, Nat.reduceEqDiff, Nat.reduceSub, Nat.reduceLeDiff, Nat.reduceAdd, Int.reduceEq, Int.reduceLT, Int.reduceLE]
      · (try simp only [brK_e, gdK_e, skK_e, gdA_e, skA_e, pkK_e]); simp (maxSteps := 10000000) (disch := omega) only [go_sem, ↓reduceIte, Nat.reduceEqDiff, Nat.reduceSub, Nat.reduceLeDiff, Nat.reduceAdd, Int.reduceEq, Int.reduceLT, Int.reduceLE]
  · obtain rfl : k = l.length := by omega
    have e := idxI_no (P := P) (l := l) fun j hj => hk2 j hj hj
    (try simp only [brK_e, gdK_e, skK_e, gdA_e, skA_e, pkK_e]); simp (maxSteps := 10000000) (disch := omega) only [stIdx, e, go_sem, ↓reduceIte, Nat.reduceEqDiff, Nat.reduceSub, Nat.reduceLeDiff, Nat.reduceAdd, Int.reduceEq, Int.reduceLT, Int.reduceLE]
theorem idxI_ge {P : Ver → Bool} {l : List Ver} : decide (0 ≤ idxI P l) = l.any P := by
  unfold idxI
  by_cases h : l.findIdx P < l.length
  · rw [if_pos h]
    have e : l.any P = true := List.any_eq_true.2 ⟨_, List.getElem_mem h, List.findIdx_getElem⟩
    rw [e]; simp
  · rw [if_neg h]
    have : l.findIdx P = l.length := Nat.le_antisymm List.findIdx_le_length (by omega)
    have h2 := List.findIdx_eq_length.1 this
    have e : l.any P = false := by
      rw [List.any_eq_false]
      intro x hx; rw [h2 x hx]; simp
    rw [e]; simp
theorem okContains {x y : SV} {f : Bool} {l : List Ver} {m : Nat} {b : Vc} {P : Ver → Bool} {h d} (hP : Test m b P) (hx : lents h [x, y] = [.pv (.sl f 11 (l.map verE)), .fn (.func m) [.pi 8 [vE b] 0 0]]) (hl : lendable [x, y] = true) (hn : l.length ≤ 1000) :
    FunOk Try.prog 74 [x, y] h d (.pv (.b (l.any P))) [] := by
  refine fun_scalar mixed fn74 (by simp) hl rfl fun F => ?_
  rw [hx]
  (try simp only [brK_e, gdK_e, skK_e, gdA_e, skA_e, pkK_e]); simp (maxSteps := 10000000) (disch := omega) only [ir74, List.length_map, go_sem, ↓reduceIte, Nat.reduceEqDiff, Nat.reduceSub, Nat.reduceLeDiff, Nat.reduceAdd, Int.reduceEq, Int.reduceLT, Int.reduceLE]
  refine call_with (okIndex (l := l) hP rfl rfl hn) ?_
  (try simp only [brK_e, gdK_e, skK_e, gdA_e, skA_e, pkK_e]); simp (maxSteps := 10000000) (disch := omega) only [idxI_ge, go_sem, ↓reduceIte, Nat.reduceEqDiff, Nat.reduceSub, Nat.reduceLeDiff, Nat.reduceAdd, Int.reduceEq, Int.reduceLT, Int.reduceLE]
def unB (l : List Ver) (b : Vc) : Bool := (l.filter headP).any fun v => !hasB b v.rep v.seq
theorem okUnseen {x : SV} {f : Bool} {l : List Ver} {b : Vc} {h d} (hx : lents h [x, .vec 8 (vE b)] = [.pv (.sl f 11 (l.map verE)), .vec 8 (vE b)]) (hl : lendable [x, .vec 8 (vE b)] = true) (hn : l.length ≤ 1000) :
    FunOk Try.prog 36 [x, .vec 8 (vE b)] h d (.pv (.b (unB l b))) [] := by
  refine fun_scalar mixed fn36 (by simp) hl rfl fun F => ?_
  rw [hx]
  have hn' : (l.filter headP).length ≤ 1000 := Nat.le_trans (List.length_filter_le _ _) hn
  (try simp only [brK_e, gdK_e, skK_e, gdA_e, skA_e, pkK_e]); simp (maxSteps := 10000000) (disch := omega) only [ir36, go_sem, ↓reduceIte, Nat.reduceEqDiff, Nat.reduceSub, Nat.reduceLeDiff, Nat.reduceAdd, Int.reduceEq, Int.reduceLT, Int.reduceLE]
  refine call_with (okHeads (l := l) rfl rfl hn) ?_
  (try simp only [brK_e, gdK_e, skK_e, gdA_e, skA_e, pkK_e]); simp (maxSteps := 10000000) (disch := omega) only [go_sem, ↓reduceIte, Nat.reduceEqDiff, Nat.reduceSub, Nat.reduceLeDiff, Nat.reduceAdd, Int.reduceEq, Int.reduceLT, Int.reduceLE]
  refine call_with (okContains (l := l.filter headP) (b := b) (fun v x h d h1 h2 => okUnF v b h1 h2) rfl rfl hn') ?_
  (try simp only [brK_e, gdK_e, skK_e, gdA_e, skA_e, pkK_e]); simp (maxSteps := 10000000) (disch := omega) only [unB, go_sem, ↓reduceIte, Nat.reduceEqDiff, Nat.reduceSub, Nat.reduceLeDiff, Nat.reduceAdd, Int.reduceEq, Int.reduceLT, Int.reduceLE]
def stUnR (f : Bool) (l : List Ver) (b : Vc) (k : Nat) : FS := mk [(5, .pv (.i .i64 k)), (0, .pv (.sl f 11 (l.map verE))), (3, .p 3 0)] [(3, some (.var (.vec 8 (vE b))))]
theorem unB_t {l : List Ver} {b : Vc} {v : Ver} (hv : v ∈ l) (h1 : headP v = true) (h2 : hasB b v.rep v.seq = false) : unB l b = true := by
  unfold unB
  exact List.any_eq_true.2 ⟨v, List.mem_filter.2 ⟨hv, h1⟩, by rw [h2]; rfl⟩
theorem unB_f {l : List Ver} {b : Vc} (h : ∀ v ∈ l, headP v = true → hasB b v.rep v.seq = true) : unB l b = false := by
  unfold unB
  rw [List.any_eq_false]
  intro v hv
  obtain ⟨g1, g2⟩ := List.mem_filter.1 hv
  rw [h v g1 g2]; simp
theorem okUnseenR {x : SV} {f : Bool} {l : List Ver} {b : Vc} {h d} (hx : lents h [x, .vec 8 (vE b)] = [.pv (.sl f 11 (l.map verE)), .vec 8 (vE b)]) (hl : lendable [x, .vec 8 (vE b)] = true) (hn : l.length ≤ 1000) :
    FunOk Try.prog 37 [x, .vec 8 (vE b)] h d (.pv (.b (unB l b))) [] := by
  refine fun_scalar mixed fn37 (by simp) hl rfl fun F => ?_
  rw [hx]
  (try simp only [brK_e, gdK_e, skK_e, gdA_e, skA_e, pkK_e]); simp (maxSteps := 10000000) (disch := omega) only [ir37, List.length_map, go_sem, ↓reduceIte, Nat.reduceEqDiff, Nat.reduceSub, Nat.reduceLeDiff, Nat.reduceAdd, Int.reduceEq, Int.reduceLT, Int.reduceLE]
  refine loop_ok mixed (stUnR f l b) (fun k => k ≤ l.length ∧ ∀ v ∈ l.take k, headP v = true → hasB b v.rep v.seq = true) (fun k => l.length - k) 0 (by simp) (weak_mk ?_ ?_) fun k hk => ?_
  · (try simp only [brK_e, gdK_e, skK_e, gdA_e, skA_e, pkK_e]); simp (maxSteps := 10000000) (disch := omega) only [go_sem, ↓reduceIte, Nat.reduceEqDiff, Nat.reduceSub, Nat.reduceLeDiff, Nat.reduceAdd, Int.reduceEq, Int.reduceLT, Int.reduceLE]
  · (try simp only [brK_e, gdK_e, skK_e, gdA_e, skA_e, pkK_e]); simp (maxSteps := 10000000) (disch := omega) only [go_sem, ↓reduceIte, Nat.reduceEqDiff, Nat.reduceSub, Nat.reduceLeDiff, Nat.reduceAdd, Int.reduceEq, Int.reduceLT, Int.reduceLE]
  obtain ⟨hk1, hk2⟩ := hk
  by_cases hlt : k < l.length
  · have he : (l.map verE)[k]? = some (verE l[k]) := by simp [hlt]
    have ht : l.take (k + 1) = l.take k ++ [l[k]] := by rw [List.take_add_one, List.getElem?_eq_getElem hlt]; rfl
    have hm : l[k] ∈ l := List.getElem_mem hlt
    generalize l[k] = v at *
    have hv := verE_len v
    have go : (headP v = true → hasB b v.rep v.seq = true) → ∀ u ∈ l.take (k + 1), headP u = true → hasB b u.rep u.seq = true := fun g u hu => by
      rw [ht] at hu
      rcases List.mem_append.1 hu with hu | hu
      · exact hk2 u hu
      · simp at hu; subst hu; exact g
    (try simp only [brK_e, gdK_e, skK_e, gdA_e, skA_e, pkK_e]); simp (maxSteps := 10000000) (disch := omega) only [stUnR, List.length_map, he, ld_ver, go_sem, ↓reduceIte, Nat.reduceEqDiff, Nat.reduceSub, Nat.reduceLeDiff, Nat.reduceAdd, Int.reduceEq, Int.reduceLT, Int.reduceLE]
    refine call_with (okHeadR v) ?_
    by_cases hh : headP v = true
    · (try simp only [brK_e, gdK_e, skK_e, gdA_e, skA_e, pkK_e]); simp (maxSteps := 10000000) (disch := omega) only [hh, List.length_map, he, ld_verId, go_sem, ↓reduceIte, Nat.reduceEqDiff, Nat.reduceSub, Nat.reduceLeDiff, Nat.reduceAdd, Int.reduceEq, Int.reduceLT, Int.reduceLE]
      refine call_with (okHasR _ _ _) ?_
      by_cases hb : hasB b v.rep v.seq = true
      · (try simp only [brK_e, gdK_e, skK_e, gdA_e, skA_e, pkK_e]); simp (maxSteps := 10000000) (disch := omega) only [hb, go_sem, ↓reduceIte, Nat.reduceEqDiff, Nat.reduceSub, Nat.reduceLeDiff, Nat.reduceAdd, Int.reduceEq, Int.reduceLT, Int.reduceLE]
        refine loop_next (k + 1) _ _ rfl ⟨by omega, go fun _ => hb⟩ (by omega) ?_ ?_
        · (try simp only [brK_e, gdK_e, skK_e, gdA_e, skA_e, pkK_e]); simp (maxSteps := 10000000) (disch := omega) only [go_sem, ↓reduceIte, Nat.reduceEqDiff, Nat.reduceSub, Nat.reduceLeDiff, Nat.reduceAdd, Int.reduceEq, Int.reduceLT, Int.reduceLE]
        · (try simp only [brK_e, gdK_e, skK_e, gdA_e, skA_e, pkK_e]); simp (maxSteps := 10000000) (disch := omega) only [go_sem, ↓reduceIte, Nat.reduceEqDiff, Nat.reduceSub, Nat.reduceLeDiff, Nat.reduceAdd, Int.reduceEq, Int.reduceLT, Int.reduceLE]
      · have hb' : hasB b v.rep v.seq = false := by simpa using hb
        have e := unB_t hm hh hb'
        (try simp only [brK_e, gdK_e, skK_e, gdA_e, skA_e, pkK_e]); simp (maxSteps := 10000000) (disch := omega) only [hb', e, go_sem, ↓reduceIte, Nat.reduceEqDiff, Nat.reduceSub, Nat.reduceLeDiff, Nat.reduceAdd, Int.reduceEq, Int.reduceLT, Int.reduceLE]
    · have hh' : headP v = false := by simpa using hh
      (try simp only [brK_e, gdK_e, skK_e, gdA_e, skA_e, pkK_e]); simp (maxSteps := 10000000) (disch := omega) only [hh', go_sem, ↓reduceIte, Nat.reduceEqDiff, Nat.reduceSub, Nat.reduceLeDiff, Nat.reduceAdd, Int.reduceEq, Int.reduceLT, Int.reduceLE]
      refine loop_next (k + 1) _ _ rfl ⟨by omega, go fun h => absurd h hh⟩ (by omega) ?_ ?_
      · (try simp only [brK_e, gdK_e, skK_e, gdA_e, skA_e, pkK_e]); simp (maxSteps := 10000000) (disch := omega) only [go_sem, ↓reduceIte, Nat.reduceEqDiff, Nat.reduceSub, Nat.reduceLeDiff, Nat.reduceAdd, Int.reduceEq, Int.reduceLT, Int.reduceLE]
      · (try simp only [brK_e, gdK_e, skK_e, gdA_e, skA_e, pkK_e]); simp (maxSteps := 10000000) (disch := omega) only [go_sem, ↓reduceIte, Nat.reduceEqDiff, Nat.reduceSub, Nat.reduceLeDiff, Nat.reduceAdd, Int.reduceEq, Int.reduceLT, Int.reduceLE]
  · obtain rfl : k = l.length := by omega
    rw [List.take_length] at hk2
    have e := unB_f hk2
    (try simp only [brK_e, gdK_e, skK_e, gdA_e, skA_e, pkK_e]); simp (maxSteps := 10000000) (disch := omega) only [stUnR, List.length_map, e, go_sem, ↓reduceIte, Nat.reduceEqDiff, Nat.reduceSub, Nat.reduceLeDiff, Nat.reduceAdd, Int.reduceEq, Int.reduceLT, Int.reduceLE]
end Go.Proofs.Ytmeecblciegkkaa.Fw
namespace Go.Proofs.Ytmeecblciegkkaa.Fw
open Go.RowKit Go.Proofs
def keepL (P : Ver → Bool) (l : List Ver) : List Ver := l.filter fun v => !P v
theorem keepL_snoc {P : Ver → Bool} {l : List Ver} {k : Nat} {v : Ver} (hv : l[k]? = some v) : keepL P (l.take (k + 1)) = keepL P (l.take k) ++ if P v = true then [] else [v] := by
  unfold keepL
  rw [List.take_add_one, hv, List.filter_append]
  congr 1
  cases hp : P v <;> simp [hp]
theorem keepL_len (P : Ver → Bool) (l : List Ver) (k : Nat) : (keepL P (l.take k)).length ≤ k := Nat.le_trans (List.length_filter_le _ _) (by simp; omega)
theorem splice_ver (u v : Ver) : splice (verE u) 0 (verE v) = verE v := by simp [splice, verE, vE, arrF]
def stDel (l : List Ver) (m : Nat) (b : Vc) (P : Ver → Bool) (p : Nat × List Ver) : FS := mk [(6, .pv (.i .i64 p.1)), (5, .pv (.i .i64 ((keepL P (l.take p.1)).length : Int))), (0, .os 6), (1, .fn (.func m) [.p 3 0])] [(6, some (.row 11 (p.2.map verE))), (3, some (.var (.vec 8 (vE b))))]
theorem okDelete {l : List Ver} {m : Nat} {b : Vc} {P : Ver → Bool} (hP : Test m b P) (hn : l.length ≤ 1000) {h d} (h6 : h 6 = some (.row 11 (l.map verE))) (h3 : h 3 = some (.var (.vec 8 (vE b)))) :
    FunOk Try.prog 70 [.os 6, .fn (.func m) [.p 3 0]] h d (.pv (.sl false 11 ((keepL P l).map verE))) [.del 6, .del 3, .new d (.row 1 [])] := by
  refine fun_ownF mixed fn70 (by simp) rfl rfl fun F => ?_
  (try simp only [brK_e, gdK_e, skK_e, gdA_e, skA_e, pkK_e]); simp (maxSteps := 10000000) (disch := omega) only [ir70, h6, h3, List.length_map, go_sem, ↓reduceIte, Nat.reduceEqDiff, Nat.reduceSub, Nat.reduceLeDiff, Nat.reduceAdd, Int.reduceEq, Int.reduceLT, Int.reduceLE]
  refine call_with (okIndex (l := l) hP rfl rfl hn) ?_
  by_cases hi : l.findIdx P < l.length
  · have ei : idxI P l = (l.findIdx P : Int) := by unfold idxI; rw [if_pos hi]
    have en : ¬ (l.findIdx P : Int) = -1 := by omega
    have hk0 : keepL P (l.take (l.findIdx P)) = l.take (l.findIdx P) := by
      unfold keepL
      rw [List.filter_eq_self]
      intro v hv
      obtain ⟨j, hj, rfl⟩ := List.getElem_of_mem hv
      rw [List.getElem_take]
      have hj' : j < l.findIdx P := by simp at hj; omega
      have := List.not_of_lt_findIdx hj'
      simpa using this
    have hp0 : P l[l.findIdx P] = true := List.findIdx_getElem
    have hk1 : keepL P (l.take (l.findIdx P + 1)) = l.take (l.findIdx P) := by
      rw [keepL_snoc (List.getElem?_eq_getElem hi), if_pos hp0, List.append_nil, hk0]
    have hl1 : (keepL P (l.take (l.findIdx P + 1))).length = l.findIdx P := by rw [hk1]; simp; omega
    generalize l.findIdx P = i0 at *
    (try simp only [brK_e, gdK_e, skK_e, gdA_e, skA_e, pkK_e]); simp (maxSteps := 10000000) (disch := omega) only [ei, en, List.length_map, go_sem, ↓reduceIte, Nat.reduceEqDiff, Nat.reduceSub, Nat.reduceLeDiff, Nat.reduceAdd, Int.reduceEq, Int.reduceLT, Int.reduceLE]
    refine loop_ok mixed (stDel l m b P) (fun p => p.1 ≤ l.length ∧ p.2.length = l.length ∧ (keepL P (l.take p.1)).length < p.1 ∧ p.2.take (keepL P (l.take p.1)).length = keepL P (l.take p.1) ∧ ∀ j, p.1 ≤ j → p.2[j]? = l[j]?) (fun p => l.length - p.1) (i0 + 1, l) ⟨by show i0 + 1 ≤ _; omega, rfl, by show _ < i0 + 1; rw [hl1]; omega, by show List.take _ l = _; rw [hl1, hk1], fun j _ => rfl⟩ (weak_mk ?_ ?_) fun p hp => ?_
    · (try simp only [brK_e, gdK_e, skK_e, gdA_e, skA_e, pkK_e]); simp (maxSteps := 10000000) (disch := omega) only [hl1, go_sem, ↓reduceIte, Nat.reduceEqDiff, Nat.reduceSub, Nat.reduceLeDiff, Nat.reduceAdd, Int.reduceEq, Int.reduceLT, Int.reduceLE]
    · (try simp only [brK_e, gdK_e, skK_e, gdA_e, skA_e, pkK_e]); simp (maxSteps := 10000000) (disch := omega) only [go_sem, ↓reduceIte, Nat.reduceEqDiff, Nat.reduceSub, Nat.reduceLeDiff, Nat.reduceAdd, Int.reduceEq, Int.reduceLT, Int.reduceLE]
    obtain ⟨k, M⟩ := p
    obtain ⟨p1, p2, p3, p4, p5⟩ := hp
    simp only at p1 p2 p3 p4 p5
    by_cases hlt : k < l.length
    · have hx : l[k]? = some l[k] := List.getElem?_eq_getElem hlt
      have hM : M[k]? = some l[k] := by rw [p5 k (Nat.le_refl k)]; exact hx
      have he : (M.map verE)[k]? = some (verE l[k]) := by rw [List.getElem?_map, hM]; rfl
      have hv := verE_len l[k]
      have hs := keepL_snoc (P := P) hx
      generalize l[k] = v at *
      (try simp only [brK_e, gdK_e, skK_e, gdA_e, skA_e, pkK_e]); simp (maxSteps := 10000000) (disch := omega) only [stDel, List.length_map, p2, he, ld_ver, hv, go_sem, ↓reduceIte, Nat.reduceEqDiff, Nat.reduceSub, Nat.reduceLeDiff, Nat.reduceAdd, Int.reduceEq, Int.reduceLT, Int.reduceLE]
      refine call_with (hP _ _ _ _ rfl rfl) ?_
      by_cases hp : P v = true
      · rw [if_pos hp, List.append_nil] at hs
        (try simp only [brK_e, gdK_e, skK_e, gdA_e, skA_e, pkK_e]); simp (maxSteps := 10000000) (disch := omega) only [hp, go_sem, ↓reduceIte, Nat.reduceEqDiff, Nat.reduceSub, Nat.reduceLeDiff, Nat.reduceAdd, Int.reduceEq, Int.reduceLT, Int.reduceLE]
        refine loop_next (x := (k, M)) (k + 1, M) _ _ rfl ⟨by show k + 1 ≤ _; omega, p2, by show List.length (keepL P (l.take (k + 1))) < k + 1; rw [hs]; omega, by show List.take (List.length (keepL P (l.take (k + 1)))) M = keepL P (l.take (k + 1)); rw [hs]; exact p4, fun j hj => p5 j (by simp only at hj; omega)⟩ (by show _ - (k + 1) < _; omega) ?_ ?_
        · (try simp only [brK_e, gdK_e, skK_e, gdA_e, skA_e, pkK_e]); simp (maxSteps := 10000000) (disch := omega) only [hs, go_sem, ↓reduceIte, Nat.reduceEqDiff, Nat.reduceSub, Nat.reduceLeDiff, Nat.reduceAdd, Int.reduceEq, Int.reduceLT, Int.reduceLE]
        · (try simp only [brK_e, gdK_e, skK_e, gdA_e, skA_e, pkK_e]); simp (maxSteps := 10000000) (disch := omega) only [go_sem, ↓reduceIte, Nat.reduceEqDiff, Nat.reduceSub, Nat.reduceLeDiff, Nat.reduceAdd, Int.reduceEq, Int.reduceLT, Int.reduceLE]
      · rw [if_neg hp] at hs
        have hp' : P v = false := by simpa using hp
        generalize hK : keepL P (l.take k) = K at *
        have hi : K.length < M.length := by omega
        have hgd : ∃ u, (M.map verE).getD K.length [] = verE u := ⟨M[K.length], by rw [List.getD_eq_getElem?_getD, List.getElem?_map, List.getElem?_eq_getElem hi]; rfl⟩
        obtain ⟨u, hgd⟩ := hgd
        have hsp := splice_ver u v
        (try simp only [brK_e, gdK_e, skK_e, gdA_e, skA_e, pkK_e]); simp (maxSteps := 10000000) (disch := omega) only [hp', List.length_map, p2, hgd, hsp, hv, ld_ver, go_sem, ↓reduceIte, Nat.reduceEqDiff, Nat.reduceSub, Nat.reduceLeDiff, Nat.reduceAdd, Int.reduceEq, Int.reduceLT, Int.reduceLE]
        refine loop_next (x := (k, M)) (k + 1, M.set K.length v) _ _ rfl ⟨by show k + 1 ≤ _; omega, by show (M.set _ _).length = _; rw [List.length_set]; exact p2, by show List.length (keepL P (l.take (k + 1))) < k + 1; rw [hs]; simp; omega, ?_, fun j hj => ?_⟩ (by show _ - (k + 1) < _; omega) ?_ ?_
        · show List.take (List.length (keepL P (l.take (k + 1)))) (M.set K.length v) = keepL P (l.take (k + 1))
          rw [hs, List.length_append, List.length_singleton, List.take_add_one, List.getElem?_set_self hi, List.take_set_of_le (Nat.le_refl _), p4]; rfl
        · show (M.set K.length v)[j]? = _
          rw [List.getElem?_set_ne (by simp only at hj; omega)]
          exact p5 j (by simp only at hj; omega)
        · (try simp only [brK_e, gdK_e, skK_e, gdA_e, skA_e, pkK_e]); simp (maxSteps := 10000000) (disch := omega) only [hs, List.length_append, List.length_singleton, go_sem, ↓reduceIte, Nat.reduceEqDiff, Nat.reduceSub, Nat.reduceLeDiff, Nat.reduceAdd, Int.reduceEq, Int.reduceLT, Int.reduceLE]
        · (try simp only [brK_e, gdK_e, skK_e, gdA_e, skA_e, pkK_e]); simp (maxSteps := 10000000) (disch := omega) only [List.map_set, go_sem, ↓reduceIte, Nat.reduceEqDiff, Nat.reduceSub, Nat.reduceLeDiff, Nat.reduceAdd, Int.reduceEq, Int.reduceLT, Int.reduceLE]
    · obtain rfl : k = l.length := by omega
      rw [List.take_length] at p3 p4
      have eL := List.take_length (l := l)
      have eK : ∀ z : List (List PV), ((M.map verE).take (keepL P l).length ++ z).take (keepL P l).length = (keepL P l).map verE := fun z => by
        rw [List.take_append_of_le_length (by simp; omega), List.take_take, Nat.min_self, ← List.map_take, p4]
      (try simp only [brK_e, gdK_e, skK_e, gdA_e, skA_e, pkK_e]); simp (maxSteps := 10000000) (disch := omega) only [stDel, eL, List.length_map, p2, List.append_assoc, eK, go_sem, ↓reduceIte, Nat.reduceEqDiff, Nat.reduceSub, Nat.reduceLeDiff, Nat.reduceAdd, Int.reduceEq, Int.reduceLT, Int.reduceLE]
      refine ⟨by simp; omega, _, .same _, ?_⟩
      (try simp only [brK_e, gdK_e, skK_e, gdA_e, skA_e, pkK_e]); simp (maxSteps := 10000000) (disch := omega) only [go_sem, ↓reduceIte, Nat.reduceEqDiff, Nat.reduceSub, Nat.reduceLeDiff, Nat.reduceAdd, Int.reduceEq, Int.reduceLT, Int.reduceLE]
  · have hP0 : ∀ x ∈ l, P x = false := List.findIdx_eq_length.1 (Nat.le_antisymm List.findIdx_le_length (by omega))
    have ei : idxI P l = -1 := by unfold idxI; rw [if_neg hi]
    have eK : keepL P l = l := by
      unfold keepL; rw [List.filter_eq_self]; intro v hv; rw [hP0 v hv]; rfl
    (try simp only [brK_e, gdK_e, skK_e, gdA_e, skA_e, pkK_e]); simp (maxSteps := 10000000) (disch := omega) only [ei, eK, go_sem, ↓reduceIte, Nat.reduceEqDiff, Nat.reduceSub, Nat.reduceLeDiff, Nat.reduceAdd, Int.reduceEq, Int.reduceLT, Int.reduceLE]
    refine ⟨_, wk_frz 6 rfl (.same _), ?_⟩
    (try simp only [brK_e, gdK_e, skK_e, gdA_e, skA_e, pkK_e]); simp (maxSteps := 10000000) (disch := omega) only [go_sem, ↓reduceIte, Nat.reduceEqDiff, Nat.reduceSub, Nat.reduceLeDiff, Nat.reduceAdd, Int.reduceEq, Int.reduceLT, Int.reduceLE]
def sweepL (l : List Ver) (b : Vc) : List Ver := keepL (fun v => goneB v.gone b) l
theorem okSweep {f : Bool} {l : List Ver} {b : Vc} {h d} (hn : l.length ≤ 1000) :
    FunOk Try.prog 34 [.pv (.sl f 11 (l.map verE)), .vec 8 (vE b)] h d (.pv (.sl false 11 ((sweepL l b).map verE))) [] := by
  refine fun_pure mixed fn34 (by simp) rfl rfl fun F => ?_
  (try simp only [brK_e, gdK_e, skK_e, gdA_e, skA_e, pkK_e]); simp (maxSteps := 10000000) (disch := omega) only [ir34, go_sem, ↓reduceIte, Nat.reduceEqDiff, Nat.reduceSub, Nat.reduceLeDiff, Nat.reduceAdd, Int.reduceEq, Int.reduceLT, Int.reduceLE]
  refine call_with (okClone (es := l.map verE) rfl rfl (.inr rfl) (by simp; omega) rfl) ?_
  (try simp only [brK_e, gdK_e, skK_e, gdA_e, skA_e, pkK_e]); simp (maxSteps := 10000000) (disch := omega) only [go_sem, ↓reduceIte, Nat.reduceEqDiff, Nat.reduceSub, Nat.reduceLeDiff, Nat.reduceAdd, Int.reduceEq, Int.reduceLT, Int.reduceLE]
  refine call_with (okDelete (l := l) (b := b) (P := fun v => goneB v.gone b) (fun v x h d h1 h2 => okSwF v b h1 h2) hn rfl rfl) ?_
  (try simp only [brK_e, gdK_e, skK_e, gdA_e, skA_e, pkK_e]); simp (maxSteps := 10000000) (disch := omega) only [sweepL, go_sem, ↓reduceIte, Nat.reduceEqDiff, Nat.reduceSub, Nat.reduceLeDiff, Nat.reduceAdd, Int.reduceEq, Int.reduceLT, Int.reduceLE]
def stSwR (f : Bool) (l : List Ver) (b : Vc) (k : Nat) : FS := mk [(6, .pv (.i .i64 k)), (0, .pv (.sl f 11 (l.map verE))), (5, .os 40), (3, .p 3 0)] [(40, some (.row 11 ((sweepL (l.take k) b).map verE))), (3, some (.var (.vec 8 (vE b))))]
set_option maxHeartbeats 1000000 in
theorem okSweepR {x : SV} {f : Bool} {l : List Ver} {b : Vc} {h d} (hx : lents h [x, .vec 8 (vE b)] = [.pv (.sl f 11 (l.map verE)), .vec 8 (vE b)]) (hl : lendable [x, .vec 8 (vE b)] = true) (hn : l.length ≤ 1000) :
    FunOk Try.prog 35 [x, .vec 8 (vE b)] h d (.os d) [.new d (.row 11 ((sweepL l b).map verE))] := by
  refine fun_row mixed fn35 (by simp) hl (.inr (verE_flat _)) fun F => ?_
  rw [hx]
  (try simp only [brK_e, gdK_e, skK_e, gdA_e, skA_e, pkK_e]); simp (maxSteps := 10000000) (disch := omega) only [ir35, List.length_map, go_sem, ↓reduceIte, Nat.reduceEqDiff, Nat.reduceSub, Nat.reduceLeDiff, Nat.reduceAdd, Int.reduceEq, Int.reduceLT, Int.reduceLE]
  refine loop_ok mixed (stSwR f l b) (fun k => k ≤ l.length) (fun k => l.length - k) 0 (by simp) (wk_nil 5 40 11 rfl (by omega) (weak_mk ?_ ?_)) fun k hk => ?_
  · (try simp only [brK_e, gdK_e, skK_e, gdA_e, skA_e, pkK_e]); simp (maxSteps := 10000000) (disch := omega) only [go_sem, ↓reduceIte, Nat.reduceEqDiff, Nat.reduceSub, Nat.reduceLeDiff, Nat.reduceAdd, Int.reduceEq, Int.reduceLT, Int.reduceLE]
  · (try simp only [brK_e, gdK_e, skK_e, gdA_e, skA_e, pkK_e]); simp (maxSteps := 10000000) (disch := omega) only [go_sem, ↓reduceIte, Nat.reduceEqDiff, Nat.reduceSub, Nat.reduceLeDiff, Nat.reduceAdd, Int.reduceEq, Int.reduceLT, Int.reduceLE]
    rfl
  by_cases hlt : k < l.length
  · have he : (l.map verE)[k]? = some (verE l[k]) := by simp [hlt]
    have ht := keepL_snoc (P := fun v => goneB v.gone b) (List.getElem?_eq_getElem hlt)
    have hb : (sweepL (l.take k) b).length ≤ k := keepL_len _ _ _
    generalize l[k] = v at *
    (try simp only [brK_e, gdK_e, skK_e, gdA_e, skA_e, pkK_e]); simp (maxSteps := 10000000) (disch := omega) only [stSwR, List.length_map, he, ld_verBy, load_vE8, go_sem, ↓reduceIte, Nat.reduceEqDiff, Nat.reduceSub, Nat.reduceLeDiff, Nat.reduceAdd, Int.reduceEq, Int.reduceLT, Int.reduceLE]
    refine call_with (okGoneR _ _) ?_
    have hv := verE_len v
    by_cases hh : goneB v.gone b = true
    · rw [if_pos hh, List.append_nil] at ht
      (try simp only [brK_e, gdK_e, skK_e, gdA_e, skA_e, pkK_e]); simp (maxSteps := 10000000) (disch := omega) only [hh, go_sem, ↓reduceIte, Nat.reduceEqDiff, Nat.reduceSub, Nat.reduceLeDiff, Nat.reduceAdd, Int.reduceEq, Int.reduceLT, Int.reduceLE]
      refine loop_next (k + 1) _ _ rfl (by omega) (by omega) ?_ ?_
      · (try simp only [brK_e, gdK_e, skK_e, gdA_e, skA_e, pkK_e]); simp (maxSteps := 10000000) (disch := omega) only [go_sem, ↓reduceIte, Nat.reduceEqDiff, Nat.reduceSub, Nat.reduceLeDiff, Nat.reduceAdd, Int.reduceEq, Int.reduceLT, Int.reduceLE]
      · (try simp only [brK_e, gdK_e, skK_e, gdA_e, skA_e, pkK_e]); simp (maxSteps := 10000000) (disch := omega) only [go_sem, ↓reduceIte, Nat.reduceEqDiff, Nat.reduceSub, Nat.reduceLeDiff, Nat.reduceAdd, Int.reduceEq, Int.reduceLT, Int.reduceLE]
        unfold sweepL; rw [ht]
    · have hh' : goneB v.gone b = false := by simpa using hh
      rw [if_neg hh] at ht
      (try simp only [brK_e, gdK_e, skK_e, gdA_e, skA_e, pkK_e]); simp (maxSteps := 10000000) (disch := omega) only [hh', he, ld_ver, hv, List.length_map, go_sem, ↓reduceIte, Nat.reduceEqDiff, Nat.reduceSub, Nat.reduceLeDiff, Nat.reduceAdd, Int.reduceEq, Int.reduceLT, Int.reduceLE]
      refine ⟨k + 1, by omega, by omega, wk_ren 27 40 (by decide) rfl (weak_mk ?_ ?_)⟩
      · (try simp only [brK_e, gdK_e, skK_e, gdA_e, skA_e, pkK_e]); simp (maxSteps := 10000000) (disch := omega) only [go_sem, ↓reduceIte, Nat.reduceEqDiff, Nat.reduceSub, Nat.reduceLeDiff, Nat.reduceAdd, Int.reduceEq, Int.reduceLT, Int.reduceLE]
      · (try simp only [brK_e, gdK_e, skK_e, gdA_e, skA_e, pkK_e]); simp (maxSteps := 10000000) (disch := omega) only [go_sem, ↓reduceIte, Nat.reduceEqDiff, Nat.reduceSub, Nat.reduceLeDiff, Nat.reduceAdd, Int.reduceEq, Int.reduceLT, Int.reduceLE]
        unfold sweepL; rw [ht, List.map_append]; rfl
  · obtain rfl : k = l.length := by omega
    have e := List.take_length (l := l)
    (try simp only [brK_e, gdK_e, skK_e, gdA_e, skA_e, pkK_e]); simp (maxSteps := 10000000) (disch := omega) only [stSwR, List.length_map, e, go_sem, ↓reduceIte, Nat.reduceEqDiff, Nat.reduceSub, Nat.reduceLeDiff, Nat.reduceAdd, Int.reduceEq, Int.reduceLT, Int.reduceLE]
theorem sweep_heads (l : List Ver) (b : Vc) : (sweepL l b).filter headP = l.filter headP := by
  unfold sweepL keepL
  rw [List.filter_filter]
  refine List.filter_congr fun v _ => ?_
  cases hh : headP v with
  | false => rfl
  | true =>
    have hz := headP_iff.1 hh
    have : goneB v.gone b = false := goneB_f fun i hi h => by have := hz i hi; omega
    simp [this]
end Go.Proofs.Ytmeecblciegkkaa.Fw
namespace Go.Proofs.Ytmeecblciegkkaa.Fw
open Go.RowKit Go.Proofs
set_option maxHeartbeats 4000000 in
theorem lawSweeps (l : List Ver) (b : Vc) (hll : l.length ≤ maxLen) {h d} :
    FunOk Try.prog 8 [.pv (.sl false 11 (l.map verE)), .vec 8 (vE b)] h d (.pv (.b true)) [] := by
  refine fun_pure mixed fn8 (by simp) rfl rfl fun F => ?_
  (try simp only [brK_e, gdK_e, skK_e, gdA_e, skA_e, pkK_e]); simp (maxSteps := 10000000) (disch := omega) only [ir8, List.length_map, go_sem, ↓reduceIte, Nat.reduceEqDiff, Nat.reduceSub, Nat.reduceLeDiff, Nat.reduceAdd, Int.reduceEq, Int.reduceLT, Int.reduceLE]
  refine call_with livesV ?_
  (try simp only [brK_e, gdK_e, skK_e, gdA_e, skA_e, pkK_e]); simp (maxSteps := 10000000) (disch := omega) only [go_sem, ↓reduceIte, Nat.reduceEqDiff, Nat.reduceSub, Nat.reduceLeDiff, Nat.reduceAdd, Int.reduceEq, Int.reduceLT, Int.reduceLE]
  refine call_with (okFits (l := l) rfl rfl) ?_
  by_cases hf : FitsV l
  case neg =>
    have e := fitsB_f hf
    (try simp only [brK_e, gdK_e, skK_e, gdA_e, skA_e, pkK_e]); simp (maxSteps := 10000000) (disch := omega) only [e, go_sem, ↓reduceIte, Nat.reduceEqDiff, Nat.reduceSub, Nat.reduceLeDiff, Nat.reduceAdd, Int.reduceEq, Int.reduceLT, Int.reduceLE]
    refine call_with livesV ?_
    (try simp only [brK_e, gdK_e, skK_e, gdA_e, skA_e, pkK_e]); simp (maxSteps := 10000000) (disch := omega) only [go_sem, ↓reduceIte, Nat.reduceEqDiff, Nat.reduceSub, Nat.reduceLeDiff, Nat.reduceAdd, Int.reduceEq, Int.reduceLT, Int.reduceLE]
  have e := fitsB_t hf
  have hl30 := hf.1
  have hsl : (sweepL l b).length ≤ 1000 := Nat.le_trans (List.length_filter_le _ _) (by omega)
  have hhl : (l.filter headP).length ≤ 1000 := Nat.le_trans (List.length_filter_le _ _) (by omega)
  (try simp only [brK_e, gdK_e, skK_e, gdA_e, skA_e, pkK_e]); simp (maxSteps := 10000000) (disch := omega) only [e, load_vE8, go_sem, ↓reduceIte, Nat.reduceEqDiff, Nat.reduceSub, Nat.reduceLeDiff, Nat.reduceAdd, Int.reduceEq, Int.reduceLT, Int.reduceLE]
  refine call_with (okSweep (l := l) (b := b) (by omega)) ?_
  (try simp only [brK_e, gdK_e, skK_e, gdA_e, skA_e, pkK_e]); simp (maxSteps := 10000000) (disch := omega) only [load_vE8, go_sem, ↓reduceIte, Nat.reduceEqDiff, Nat.reduceSub, Nat.reduceLeDiff, Nat.reduceAdd, Int.reduceEq, Int.reduceLT, Int.reduceLE]
  refine call_with (okSweepR (l := l) (b := b) rfl rfl (by omega)) ?_
  (try simp only [brK_e, gdK_e, skK_e, gdA_e, skA_e, pkK_e]); simp (maxSteps := 10000000) (disch := omega) only [go_sem, ↓reduceIte, Nat.reduceEqDiff, Nat.reduceSub, Nat.reduceLeDiff, Nat.reduceAdd, Int.reduceEq, Int.reduceLT, Int.reduceLE]
  refine call_with (okSame (l := sweepL l b) (m := sweepL l b) rfl rfl rfl hsl) ?_
  (try simp only [brK_e, gdK_e, skK_e, gdA_e, skA_e, pkK_e]); simp (maxSteps := 10000000) (disch := omega) only [load_vE8, go_sem, ↓reduceIte, Nat.reduceEqDiff, Nat.reduceSub, Nat.reduceLeDiff, Nat.reduceAdd, Int.reduceEq, Int.reduceLT, Int.reduceLE]
  refine call_with (okUnseen (l := l) (b := b) rfl rfl (by omega)) ?_
  (try simp only [brK_e, gdK_e, skK_e, gdA_e, skA_e, pkK_e]); simp (maxSteps := 10000000) (disch := omega) only [load_vE8, go_sem, ↓reduceIte, Nat.reduceEqDiff, Nat.reduceSub, Nat.reduceLeDiff, Nat.reduceAdd, Int.reduceEq, Int.reduceLT, Int.reduceLE]
  refine call_with (okUnseenR (l := l) (b := b) rfl rfl (by omega)) ?_
  (try simp only [brK_e, gdK_e, skK_e, gdA_e, skA_e, pkK_e]); simp (maxSteps := 10000000) (disch := omega) only [go_sem, ↓reduceIte, Nat.reduceEqDiff, Nat.reduceSub, Nat.reduceLeDiff, Nat.reduceAdd, Int.reduceEq, Int.reduceLT, Int.reduceLE]
  refine call_with (okHeads (l := sweepL l b) rfl rfl hsl) ?_
  (try simp only [brK_e, gdK_e, skK_e, gdA_e, skA_e, pkK_e]); simp (maxSteps := 10000000) (disch := omega) only [go_sem, ↓reduceIte, Nat.reduceEqDiff, Nat.reduceSub, Nat.reduceLeDiff, Nat.reduceAdd, Int.reduceEq, Int.reduceLT, Int.reduceLE]
  refine call_with (okHeads (l := l) rfl rfl (by omega)) ?_
  (try simp only [brK_e, gdK_e, skK_e, gdA_e, skA_e, pkK_e]); simp (maxSteps := 10000000) (disch := omega) only [sweep_heads, go_sem, ↓reduceIte, Nat.reduceEqDiff, Nat.reduceSub, Nat.reduceLeDiff, Nat.reduceAdd, Int.reduceEq, Int.reduceLT, Int.reduceLE]
  refine call_with (okSame (l := l.filter headP) (m := l.filter headP) rfl rfl rfl hhl) ?_
  (try simp only [brK_e, gdK_e, skK_e, gdA_e, skA_e, pkK_e]); simp (maxSteps := 10000000) (disch := omega) only [go_sem, ↓reduceIte, Nat.reduceEqDiff, Nat.reduceSub, Nat.reduceLeDiff, Nat.reduceAdd, Int.reduceEq, Int.reduceLT, Int.reduceLE]
theorem holdsVersionSweeps {c0 c1 : List PV} (g0 : GC (.sl shVer) c0) (g1 : GC (.arr 8 (.int .u32)) c1) {h d} :
    FunOk Try.prog 8 [toSV (.sl shVer) c0, toSV (.arr 8 (.int .u32)) c1] h d (.pv (.b true)) [] := by
  obtain ⟨es, rfl, h1, g0⟩ := GC_sl g0
  obtain ⟨l, rfl, hl⟩ := els_of (f := verE) GC_ver g0
  obtain ⟨a, rfl, ha⟩ := GC_vE g1
  exact lawSweeps l a (by simpa using h1)
end Go.Proofs.Ytmeecblciegkkaa.Fw
