/- What the functions that the law VersionBytes reaches compute. -/
import Derived.Test.YtmeecblciegkkaaIr
import Derived.OpenShut
import Derived.ShutString
import Derived.ChangeOld
import Derived.SizedLaws
set_option linter.unusedVariables false
set_option linter.unusedSimpArgs false
set_option linter.unusedSectionVars false
set_option maxRecDepth 100000
namespace Go.Proofs.Ytmeecblciegkkaa.Fw
open Go.RowKit Go.Proofs
def zs (n : Nat) : List UInt8 := List.replicate n 0
theorem zs_len (n : Nat) : (zs n).length = n := by simp [zs]
theorem zs_succ (n : Nat) : zs (n + 1) = zs n ++ [0] := by simp [zs, List.replicate_succ']
theorem zs_0 : zs 0 = [] := rfl
theorem snoc0 (l : List UInt8) : bytesE l ++ [[.i .u8 0]] = bytesE (l ++ [0]) := by
  rw [← bytesE_appN]; rfl
def stZeros (n : Int) (k : Nat) : FS := mk [(4, .pv (.i .i64 k)), (3, .pv (.s (zs k))), (0, .pv (.i .i64 n))] []
theorem okZeros (n : Int) (hn : n ≤ 1000) {h d} : FunOk Try.prog 60 [.pv (.i .i64 n)] h d (.pv (.s (zs n.toNat))) [] := by
  refine fun_pure mixed fn60 (by simp) rfl rfl fun F => ?_
  (try simp only [brK_e, gdK_e, skK_e, gdA_e, skA_e, pkK_e]); simp (maxSteps := 10000000) (disch := omega) only [ir60, go_sem, ↓reduceIte, Nat.reduceEqDiff, Nat.reduceSub, Nat.reduceLeDiff, Nat.reduceAdd, Int.reduceEq, Int.reduceLT, Int.reduceLE]
  refine loop_ok mixed (stZeros n) (fun k => k ≤ n.toNat) (fun k => n.toNat - k) 0 (by omega) (weak_mk ?_ ?_) fun k hk => ?_
  · (try simp only [brK_e, gdK_e, skK_e, gdA_e, skA_e, pkK_e]); simp (maxSteps := 10000000) (disch := omega) only [zs_0, go_sem, ↓reduceIte, Nat.reduceEqDiff, Nat.reduceSub, Nat.reduceLeDiff, Nat.reduceAdd, Int.reduceEq, Int.reduceLT, Int.reduceLE]
  · (try simp only [brK_e, gdK_e, skK_e, gdA_e, skA_e, pkK_e]); simp (maxSteps := 10000000) (disch := omega) only [go_sem, ↓reduceIte, Nat.reduceEqDiff, Nat.reduceSub, Nat.reduceLeDiff, Nat.reduceAdd, Int.reduceEq, Int.reduceLT, Int.reduceLE]
  have hl := zs_len k
  by_cases hlt : (k : Int) < n
  · (try simp only [brK_e, gdK_e, skK_e, gdA_e, skA_e, pkK_e]); simp (maxSteps := 10000000) (disch := omega) only [stZeros, hl, go_sem, ↓reduceIte, Nat.reduceEqDiff, Nat.reduceSub, Nat.reduceLeDiff, Nat.reduceAdd, Int.reduceEq, Int.reduceLT, Int.reduceLE]
    refine loop_next (k + 1) _ _ rfl (by omega) (by omega) ?_ ?_
    · (try simp only [brK_e, gdK_e, skK_e, gdA_e, skA_e, pkK_e]); simp (maxSteps := 10000000) (disch := omega) only [zs_succ, go_sem, ↓reduceIte, Nat.reduceEqDiff, Nat.reduceSub, Nat.reduceLeDiff, Nat.reduceAdd, Int.reduceEq, Int.reduceLT, Int.reduceLE]
    · (try simp only [brK_e, gdK_e, skK_e, gdA_e, skA_e, pkK_e]); simp (maxSteps := 10000000) (disch := omega) only [go_sem, ↓reduceIte, Nat.reduceEqDiff, Nat.reduceSub, Nat.reduceLeDiff, Nat.reduceAdd, Int.reduceEq, Int.reduceLT, Int.reduceLE]
  · obtain rfl : k = n.toNat := by omega
    (try simp only [brK_e, gdK_e, skK_e, gdA_e, skA_e, pkK_e]); simp (maxSteps := 10000000) (disch := omega) only [stZeros, go_sem, ↓reduceIte, Nat.reduceEqDiff, Nat.reduceSub, Nat.reduceLeDiff, Nat.reduceAdd, Int.reduceEq, Int.reduceLT, Int.reduceLE]
def patchB (data : List UInt8) (o : Nat) (s : List UInt8) : List UInt8 :=
  (data ++ zs (o + s.length - data.length)).take o ++ s ++ (data ++ zs (o + s.length - data.length)).drop (o + s.length)
def patchBad (data : List UInt8) (off : Int) (s : List UInt8) : Prop := off < 0 ∨ 200 < off ∨ 200 < (data.length : Int) ∨ 200 - off < s.length
open Classical in
noncomputable def patchR (data : List UInt8) (off : Int) (s : List UInt8) : SV := if patchBad data off s then .tup [.pv (.s []), .pv (.i .i64 4)] else .tup [.pv (.s (patchB data off.toNat s)), .pv (.i .i64 0)]
theorem patchR_bad {data off s} (h : patchBad data off s) : patchR data off s = .tup [.pv (.s []), .pv (.i .i64 4)] := by unfold patchR; rw [if_pos h]
theorem patchR_ok {data off s} (h : ¬ patchBad data off s) : patchR data off s = .tup [.pv (.s (patchB data off.toNat s)), .pv (.i .i64 0)] := by unfold patchR; rw [if_neg h]
def stPatch (data s : List UInt8) (o k : Nat) : FS := mk [(8, .os 60), (2, .pv (.s s)), (1, .pv (.i .i64 o))] [(60, some (.row 1 (bytesE (data ++ zs k))))]
set_option maxHeartbeats 2000000 in
theorem okPatch (data s : List UInt8) (off : Int) {h d} : FunOk Try.prog 19 [.pv (.s data), .pv (.i .i64 off), .pv (.s s)] h d (patchR data off s) [] := by
  refine fun_pure mixed fn19 (by simp) rfl (by unfold patchR; split <;> rfl) fun F => ?_
  by_cases h1 : off < 0
  · rw [patchR_bad (.inl h1)]
    (try simp only [brK_e, gdK_e, skK_e, gdA_e, skA_e, pkK_e]); simp (maxSteps := 10000000) (disch := omega) only [ir19, go_sem, ↓reduceIte, Nat.reduceEqDiff, Nat.reduceSub, Nat.reduceLeDiff, Nat.reduceAdd, Int.reduceEq, Int.reduceLT, Int.reduceLE]
  by_cases h2 : 200 < off
  · rw [patchR_bad (.inr (.inl h2))]
    (try simp only [brK_e, gdK_e, skK_e, gdA_e, skA_e, pkK_e]); simp (maxSteps := 10000000) (disch := omega) only [ir19, go_sem, ↓reduceIte, Nat.reduceEqDiff, Nat.reduceSub, Nat.reduceLeDiff, Nat.reduceAdd, Int.reduceEq, Int.reduceLT, Int.reduceLE]
  by_cases h3 : 200 < (data.length : Int)
  · rw [patchR_bad (.inr (.inr (.inl h3)))]
    (try simp only [brK_e, gdK_e, skK_e, gdA_e, skA_e, pkK_e]); simp (maxSteps := 10000000) (disch := omega) only [ir19, go_sem, ↓reduceIte, Nat.reduceEqDiff, Nat.reduceSub, Nat.reduceLeDiff, Nat.reduceAdd, Int.reduceEq, Int.reduceLT, Int.reduceLE]
  by_cases h4 : 200 - off < (s.length : Int)
  · rw [patchR_bad (.inr (.inr (.inr h4)))]
    (try simp only [brK_e, gdK_e, skK_e, gdA_e, skA_e, pkK_e]); simp (maxSteps := 10000000) (disch := omega) only [ir19, go_sem, ↓reduceIte, Nat.reduceEqDiff, Nat.reduceSub, Nat.reduceLeDiff, Nat.reduceAdd, Int.reduceEq, Int.reduceLT, Int.reduceLE]
  have hok : ¬ patchBad data off s := by unfold patchBad; omega
  obtain ⟨o, rfl⟩ : ∃ o : Nat, off = o := ⟨off.toNat, by omega⟩
  rw [patchR_ok hok]
  (try simp only [brK_e, gdK_e, skK_e, gdA_e, skA_e, pkK_e]); simp (maxSteps := 10000000) (disch := omega) only [ir19, go_sem, ↓reduceIte, Nat.reduceEqDiff, Nat.reduceSub, Nat.reduceLeDiff, Nat.reduceAdd, Int.reduceEq, Int.reduceLT, Int.reduceLE]
  refine loop_ok mixed (stPatch data s o) (fun k => k ≤ o + s.length - data.length) (fun k => o + s.length - data.length - k) 0 (by omega) (wk_ren 28 60 (by decide) rfl (weak_mk ?_ ?_)) fun k hk => ?_
  · (try simp only [brK_e, gdK_e, skK_e, gdA_e, skA_e, pkK_e]); simp (maxSteps := 10000000) (disch := omega) only [go_sem, ↓reduceIte, Nat.reduceEqDiff, Nat.reduceSub, Nat.reduceLeDiff, Nat.reduceAdd, Int.reduceEq, Int.reduceLT, Int.reduceLE]
  · (try simp only [brK_e, gdK_e, skK_e, gdA_e, skA_e, pkK_e]); simp (maxSteps := 10000000) (disch := omega) only [zs_0, go_sem, ↓reduceIte, Nat.reduceEqDiff, Nat.reduceSub, Nat.reduceLeDiff, Nat.reduceAdd, Int.reduceEq, Int.reduceLT, Int.reduceLE]
  have hl : (data ++ zs k).length = data.length + k := by simp [zs]
  by_cases hlt : data.length + k < o + s.length
  · (try simp only [brK_e, gdK_e, skK_e, gdA_e, skA_e, pkK_e]); simp (maxSteps := 10000000) (disch := omega) only [stPatch, hl, snoc0, go_sem, ↓reduceIte, Nat.reduceEqDiff, Nat.reduceSub, Nat.reduceLeDiff, Nat.reduceAdd, Int.reduceEq, Int.reduceLT, Int.reduceLE]
    refine ⟨k + 1, by omega, by omega, wk_ren 38 60 (by decide) rfl (weak_mk ?_ ?_)⟩
    · (try simp only [brK_e, gdK_e, skK_e, gdA_e, skA_e, pkK_e]); simp (maxSteps := 10000000) (disch := omega) only [go_sem, ↓reduceIte, Nat.reduceEqDiff, Nat.reduceSub, Nat.reduceLeDiff, Nat.reduceAdd, Int.reduceEq, Int.reduceLT, Int.reduceLE]
    · (try simp only [brK_e, gdK_e, skK_e, gdA_e, skA_e, pkK_e]); simp (maxSteps := 10000000) (disch := omega) only [zs_succ, List.append_assoc, go_sem, ↓reduceIte, Nat.reduceEqDiff, Nat.reduceSub, Nat.reduceLeDiff, Nat.reduceAdd, Int.reduceEq, Int.reduceLT, Int.reduceLE]
  · obtain rfl : k = o + s.length - data.length := by omega
    have hp : patchB data o s = (data ++ zs (o + s.length - data.length)).take o ++ s ++ (data ++ zs (o + s.length - data.length)).drop (o + s.length) := rfl
    generalize hX : data ++ zs (o + s.length - data.length) = X at *
    have hle : o + s.length ≤ X.length := by omega
    have e1 : min s.length (X.length - o) = s.length := by omega
    have e2 : s.take (X.length - o) = s := List.take_of_length_le (by omega)
    (try simp only [brK_e, gdK_e, skK_e, gdA_e, skA_e, pkK_e]); simp (maxSteps := 10000000) (disch := omega) only [stPatch, hX, e1, e2, hp, go_sem, ↓reduceIte, Nat.reduceEqDiff, Nat.reduceSub, Nat.reduceLeDiff, Nat.reduceAdd, Int.reduceEq, Int.reduceLT, Int.reduceLE]
set_option maxHeartbeats 2000000 in
theorem okPatchR (data s : List UInt8) (off : Int) (hs : s.length ≤ 1000) {h d} : FunOk Try.prog 20 [.pv (.s data), .pv (.i .i64 off), .pv (.s s)] h d (patchR data off s) [] := by
  refine fun_pure mixed fn20 (by simp) rfl (by unfold patchR; split <;> rfl) fun F => ?_
  by_cases h1 : off < 0
  · rw [patchR_bad (.inl h1)]
    (try simp only [brK_e, gdK_e, skK_e, gdA_e, skA_e, pkK_e]); simp (maxSteps := 10000000) (disch := omega) only [ir20, go_sem, ↓reduceIte, Nat.reduceEqDiff, Nat.reduceSub, Nat.reduceLeDiff, Nat.reduceAdd, Int.reduceEq, Int.reduceLT, Int.reduceLE]
  by_cases h2 : 200 < off
  · rw [patchR_bad (.inr (.inl h2))]
    (try simp only [brK_e, gdK_e, skK_e, gdA_e, skA_e, pkK_e]); simp (maxSteps := 10000000) (disch := omega) only [ir20, go_sem, ↓reduceIte, Nat.reduceEqDiff, Nat.reduceSub, Nat.reduceLeDiff, Nat.reduceAdd, Int.reduceEq, Int.reduceLT, Int.reduceLE]
  by_cases h3 : 200 < (data.length : Int)
  · rw [patchR_bad (.inr (.inr (.inl h3)))]
    (try simp only [brK_e, gdK_e, skK_e, gdA_e, skA_e, pkK_e]); simp (maxSteps := 10000000) (disch := omega) only [ir20, go_sem, ↓reduceIte, Nat.reduceEqDiff, Nat.reduceSub, Nat.reduceLeDiff, Nat.reduceAdd, Int.reduceEq, Int.reduceLT, Int.reduceLE]
  by_cases h4 : 200 < off + (s.length : Int)
  · rw [patchR_bad (.inr (.inr (.inr (by omega))))]
    (try simp only [brK_e, gdK_e, skK_e, gdA_e, skA_e, pkK_e]); simp (maxSteps := 10000000) (disch := omega) only [ir20, go_sem, ↓reduceIte, Nat.reduceEqDiff, Nat.reduceSub, Nat.reduceLeDiff, Nat.reduceAdd, Int.reduceEq, Int.reduceLT, Int.reduceLE]
  have hok : ¬ patchBad data off s := by unfold patchBad; omega
  obtain ⟨o, rfl⟩ : ∃ o : Nat, off = o := ⟨off.toNat, by omega⟩
  rw [patchR_ok hok]
  (try simp only [brK_e, gdK_e, skK_e, gdA_e, skA_e, pkK_e]); simp (maxSteps := 10000000) (disch := omega) only [ir20, go_sem, ↓reduceIte, Nat.reduceEqDiff, Nat.reduceSub, Nat.reduceLeDiff, Nat.reduceAdd, Int.reduceEq, Int.reduceLT, Int.reduceLE]
  refine call_with (okZeros _ (by omega)) ?_
  have hp : patchB data o s = (data ++ zs (o + s.length - data.length)).take o ++ s ++ (data ++ zs (o + s.length - data.length)).drop (o + s.length) := rfl
  have e1 : ((o : Int) + (s.length : Int) - (data.length : Int)).toNat = o + s.length - data.length := by omega
  have e2 : ((o : Int) + (s.length : Int)).toNat = o + s.length := by omega
  have hl : (data ++ zs (o + s.length - data.length)).length = data.length + (o + s.length - data.length) := by simp [zs]
  have hz := zs_len (o + s.length - data.length)
  rw [e1]
  generalize hX : data ++ zs (o + s.length - data.length) = X at *
  (try simp only [brK_e, gdK_e, skK_e, gdA_e, skA_e, pkK_e]); simp (maxSteps := 10000000) (disch := omega) only [hX, e2, hp, List.length_append, List.length_take, List.length_drop, hz, go_sem, ↓reduceIte, Nat.reduceEqDiff, Nat.reduceSub, Nat.reduceLeDiff, Nat.reduceAdd, Int.reduceEq, Int.reduceLT, Int.reduceLE]
def cutB (data : List UInt8) (n : Nat) : List UInt8 := if n < data.length then data.take n else data ++ zs (n - data.length)
open Classical in
noncomputable def cutR (data : List UInt8) (n : Int) : SV := if n < 0 ∨ 200 < n then .tup [.pv (.s []), .pv (.i .i64 4)] else .tup [.pv (.s (cutB data n.toNat)), .pv (.i .i64 0)]
theorem cutR_bad {data n} (h : n < 0 ∨ 200 < n) : cutR data n = .tup [.pv (.s []), .pv (.i .i64 4)] := by unfold cutR; rw [if_pos h]
theorem cutR_ok {data n} (h : ¬ (n < 0 ∨ 200 < n)) : cutR data n = .tup [.pv (.s (cutB data n.toNat)), .pv (.i .i64 0)] := by unfold cutR; rw [if_neg h]
theorem zrep (n : Nat) : List.replicate n [PV.i .u8 0] = bytesE (zs n) := by simp [zs, bytesE]
set_option maxHeartbeats 2000000 in
theorem okCut (data : List UInt8) (n : Int) (hd : data.length ≤ 1000) {h d} : FunOk Try.prog 21 [.pv (.s data), .pv (.i .i64 n)] h d (cutR data n) [] := by
  refine fun_pure mixed fn21 (by simp) rfl (by unfold cutR; split <;> rfl) fun F => ?_
  by_cases h1 : n < 0
  · rw [cutR_bad (.inl h1)]
    (try simp only [brK_e, gdK_e, skK_e, gdA_e, skA_e, pkK_e]); simp (maxSteps := 10000000) (disch := omega) only [ir21, go_sem, ↓reduceIte, Nat.reduceEqDiff, Nat.reduceSub, Nat.reduceLeDiff, Nat.reduceAdd, Int.reduceEq, Int.reduceLT, Int.reduceLE]
  by_cases h2 : 200 < n
  · rw [cutR_bad (.inr h2)]
    (try simp only [brK_e, gdK_e, skK_e, gdA_e, skA_e, pkK_e]); simp (maxSteps := 10000000) (disch := omega) only [ir21, go_sem, ↓reduceIte, Nat.reduceEqDiff, Nat.reduceSub, Nat.reduceLeDiff, Nat.reduceAdd, Int.reduceEq, Int.reduceLT, Int.reduceLE]
  rw [cutR_ok (by omega)]
  obtain ⟨o, rfl⟩ : ∃ o : Nat, n = o := ⟨n.toNat, by omega⟩
  by_cases hlt : o < data.length
  · have e : cutB data o = data.take o := by unfold cutB; rw [if_pos hlt]
    (try simp only [brK_e, gdK_e, skK_e, gdA_e, skA_e, pkK_e]); simp (maxSteps := 10000000) (disch := omega) only [ir21, e, go_sem, ↓reduceIte, Nat.reduceEqDiff, Nat.reduceSub, Nat.reduceLeDiff, Nat.reduceAdd, Int.reduceEq, Int.reduceLT, Int.reduceLE]
  · have e : cutB data o = data ++ zs (o - data.length) := by unfold cutB; rw [if_neg hlt]
    have e1 : ((o : Int) - (data.length : Int)).toNat = o - data.length := by omega
    have hz := zs_len (o - data.length)
    (try simp only [brK_e, gdK_e, skK_e, gdA_e, skA_e, pkK_e]); simp (maxSteps := 10000000) (disch := omega) only [ir21, e, e1, zrep, hz, go_sem, ↓reduceIte, Nat.reduceEqDiff, Nat.reduceSub, Nat.reduceLeDiff, Nat.reduceAdd, Int.reduceEq, Int.reduceLT, Int.reduceLE]
set_option maxHeartbeats 2000000 in
theorem okCutR (data : List UInt8) (n : Int) (hd : data.length ≤ 1000) {h d} : FunOk Try.prog 22 [.pv (.s data), .pv (.i .i64 n)] h d (cutR data n) [] := by
  refine fun_pure mixed fn22 (by simp) rfl (by unfold cutR; split <;> rfl) fun F => ?_
  by_cases h1 : n < 0
  · rw [cutR_bad (.inl h1)]
    (try simp only [brK_e, gdK_e, skK_e, gdA_e, skA_e, pkK_e]); simp (maxSteps := 10000000) (disch := omega) only [ir22, go_sem, ↓reduceIte, Nat.reduceEqDiff, Nat.reduceSub, Nat.reduceLeDiff, Nat.reduceAdd, Int.reduceEq, Int.reduceLT, Int.reduceLE]
  by_cases h2 : 200 < n
  · rw [cutR_bad (.inr h2)]
    (try simp only [brK_e, gdK_e, skK_e, gdA_e, skA_e, pkK_e]); simp (maxSteps := 10000000) (disch := omega) only [ir22, go_sem, ↓reduceIte, Nat.reduceEqDiff, Nat.reduceSub, Nat.reduceLeDiff, Nat.reduceAdd, Int.reduceEq, Int.reduceLT, Int.reduceLE]
  rw [cutR_ok (by omega)]
  obtain ⟨o, rfl⟩ : ∃ o : Nat, n = o := ⟨n.toNat, by omega⟩
  have hz := zs_len (o - data.length)
  have e1 : ((o : Int) - (data.length : Int)).toNat = o - data.length := by omega
  have e : (data ++ zs (o - data.length)).take o = cutB data o := by
    unfold cutB
    split
    · rw [show o - data.length = 0 by omega, zs_0, List.append_nil]
    · exact List.take_of_length_le (by simp [zs]; omega)
  (try simp only [brK_e, gdK_e, skK_e, gdA_e, skA_e, pkK_e]); simp (maxSteps := 10000000) (disch := omega) only [ir22, go_sem, ↓reduceIte, Nat.reduceEqDiff, Nat.reduceSub, Nat.reduceLeDiff, Nat.reduceAdd, Int.reduceEq, Int.reduceLT, Int.reduceLE]
  refine call_with (okZeros _ (by omega)) ?_
  (try simp only [brK_e, gdK_e, skK_e, gdA_e, skA_e, pkK_e]); simp (maxSteps := 10000000) (disch := omega) only [e1, e, hz, List.length_append, go_sem, ↓reduceIte, Nat.reduceEqDiff, Nat.reduceSub, Nat.reduceLeDiff, Nat.reduceAdd, Int.reduceEq, Int.reduceLT, Int.reduceLE]
end Go.Proofs.Ytmeecblciegkkaa.Fw
namespace Go.Proofs.Ytmeecblciegkkaa.Fw
open Go.RowKit Go.Proofs
theorem okVid (r : Int) (q : Nat) {h d} : FunOk Try.prog 27 [.pv (.i .i64 r), .pv (.i .u32 q)] h d (.agg [.pv (.i .i64 r), .pv (.i .u32 q)]) [] := by
  refine fun_pure mixed fn27 (by simp) rfl rfl fun F => ?_
  (try simp only [brK_e, gdK_e, skK_e, gdA_e, skA_e, pkK_e]); simp (maxSteps := 10000000) (disch := omega) only [ir27, go_sem, ↓reduceIte, Nat.reduceEqDiff, Nat.reduceSub, Nat.reduceLeDiff, Nat.reduceAdd, Int.reduceEq, Int.reduceLT, Int.reduceLE]
theorem okClone0 {h d} : FunOk Try.prog 62 [.pv (.sl true 0 [])] h d (.os d) [.new d (.row 11 [])] := by
  refine fun_rowN mixed fn62 (by simp) rfl (.inl rfl) fun F => ?_
  (try simp only [brK_e, gdK_e, skK_e, gdA_e, skA_e, pkK_e]); simp (maxSteps := 10000000) (disch := omega) only [ir62, go_sem, ↓reduceIte, Nat.reduceEqDiff, Nat.reduceSub, Nat.reduceLeDiff, Nat.reduceAdd, Int.reduceEq, Int.reduceLT, Int.reduceLE]
  intro b _
  cases b
  · (try simp only [brK_e, gdK_e, skK_e, gdA_e, skA_e, pkK_e]); simp (maxSteps := 10000000) (disch := omega) only [go_sem, ↓reduceIte, Nat.reduceEqDiff, Nat.reduceSub, Nat.reduceLeDiff, Nat.reduceAdd, Int.reduceEq, Int.reduceLT, Int.reduceLE]
  · (try simp only [brK_e, gdK_e, skK_e, gdA_e, skA_e, pkK_e]); simp (maxSteps := 10000000) (disch := omega) only [go_sem, ↓reduceIte, Nat.reduceEqDiff, Nat.reduceSub, Nat.reduceLeDiff, Nat.reduceAdd, Int.reduceEq, Int.reduceLT, Int.reduceLE]
    decide
def stAt0 (r : Int) (q : Nat) (_ : Unit) : FS := mk [(10, .pv (.i .i64 0)), (9, .pv (.i .i64 0)), (0, .pv (.sl false 11 []))] []
theorem okAt0 (r : Int) (q : Nat) {h d} (hh : h 16 = some (.row 11 [])) : FunOk Try.prog 63 [.os 16, .agg [.pv (.i .i64 r), .pv (.i .u32 q)]] h d (.tup [.pv (.i .i64 0), .pv (.b false)]) [] := by
  refine fun_scalar mixed fn63 (by simp) rfl rfl fun F => ?_
  (try simp only [brK_e, gdK_e, skK_e, gdA_e, skA_e, pkK_e]); simp (maxSteps := 10000000) (disch := omega) only [ir63, lent, hh, go_sem, ↓reduceIte, Nat.reduceEqDiff, Nat.reduceSub, Nat.reduceLeDiff, Nat.reduceAdd, Int.reduceEq, Int.reduceLT, Int.reduceLE]
  refine loop_ok mixed (stAt0 r q) (fun _ => True) (fun _ => 0) () trivial (weak_mk ?_ ?_) fun _ _ => ?_
  · (try simp only [brK_e, gdK_e, skK_e, gdA_e, skA_e, pkK_e]); simp (maxSteps := 10000000) (disch := omega) only [go_sem, ↓reduceIte, Nat.reduceEqDiff, Nat.reduceSub, Nat.reduceLeDiff, Nat.reduceAdd, Int.reduceEq, Int.reduceLT, Int.reduceLE]
  · (try simp only [brK_e, gdK_e, skK_e, gdA_e, skA_e, pkK_e]); simp (maxSteps := 10000000) (disch := omega) only [go_sem, ↓reduceIte, Nat.reduceEqDiff, Nat.reduceSub, Nat.reduceLeDiff, Nat.reduceAdd, Int.reduceEq, Int.reduceLT, Int.reduceLE]
  (try simp only [brK_e, gdK_e, skK_e, gdA_e, skA_e, pkK_e]); simp (maxSteps := 10000000) (disch := omega) only [stAt0, go_sem, ↓reduceIte, Nat.reduceEqDiff, Nat.reduceSub, Nat.reduceLeDiff, Nat.reduceAdd, Int.reduceEq, Int.reduceLT, Int.reduceLE]
theorem okIns0 (cs : List PV) (hcs : cs.length = 11) {h d} (h1 : h 16 = some (.row 11 [])) (h2 : h 55 = some (.row 11 [cs])) : FunOk Try.prog 65 [.os 16, .pv (.i .i64 0), .os 55] h d (.os d) [.del 16, .del 55, .new d (.row 11 [cs])] := by
  refine fun_own mixed fn65 (by simp) rfl fun F => ?_
  simp only [lentNames]
  (try simp only [brK_e, gdK_e, skK_e, gdA_e, skA_e, pkK_e]); simp (maxSteps := 10000000) (disch := omega) only [ir65, h1, h2, go_sem, ↓reduceIte, Nat.reduceEqDiff, Nat.reduceSub, Nat.reduceLeDiff, Nat.reduceAdd, Int.reduceEq, Int.reduceLT, Int.reduceLE]
def zeros8 : List PV := List.replicate 8 (.i .u32 0)
def verC (r : Int) (q : Nat) (l : List UInt8) : List PV := .i .i64 r :: .i .u32 q :: .s l :: zeros8
def stAdd0 (x : SV) (_ : Unit) : FS := mk [(19, .pv (.i .i64 0)), (18, .pv (.i .i64 0)), (8, .os 16), (5, .p 5 0)] [(16, some (.row 11 [])), (5, some (.var x))]
theorem okAdd0 (r : Int) (q : Nat) (l : List UInt8) {h d} : FunOk Try.prog 25 [.pv (.sl true 0 []), .pv (.sl true 0 []), .agg [.pv (.i .i64 r), .pv (.i .u32 q), .pv (.s l), .vec 8 zeros8]] h d (.tup [.os d, .pv (.i .i64 0)]) [.new d (.row 11 [verC r q l])] := by
  refine fun_row2 mixed fn25 (by simp) rfl (.inl rfl) rfl fun F => ?_
  (try simp only [brK_e, gdK_e, skK_e, gdA_e, skA_e, pkK_e]); simp (maxSteps := 10000000) (disch := omega) only [ir25, go_sem, ↓reduceIte, Nat.reduceEqDiff, Nat.reduceSub, Nat.reduceLeDiff, Nat.reduceAdd, Int.reduceEq, Int.reduceLT, Int.reduceLE]
  refine call_with okClone0 ?_
  (try simp only [brK_e, gdK_e, skK_e, gdA_e, skA_e, pkK_e]); simp (maxSteps := 10000000) (disch := omega) only [go_sem, ↓reduceIte, Nat.reduceEqDiff, Nat.reduceSub, Nat.reduceLeDiff, Nat.reduceAdd, Int.reduceEq, Int.reduceLT, Int.reduceLE]
  refine loop_ok mixed (stAdd0 (.agg [.pv (.i .i64 r), .pv (.i .u32 q), .pv (.s l), .vec 8 zeros8])) (fun _ => True) (fun _ => 0) () trivial (weak_mk ?_ ?_) fun _ _ => ?_
  · (try simp only [brK_e, gdK_e, skK_e, gdA_e, skA_e, pkK_e]); simp (maxSteps := 10000000) (disch := omega) only [go_sem, ↓reduceIte, Nat.reduceEqDiff, Nat.reduceSub, Nat.reduceLeDiff, Nat.reduceAdd, Int.reduceEq, Int.reduceLT, Int.reduceLE]
  · (try simp only [brK_e, gdK_e, skK_e, gdA_e, skA_e, pkK_e]); simp (maxSteps := 10000000) (disch := omega) only [go_sem, ↓reduceIte, Nat.reduceEqDiff, Nat.reduceSub, Nat.reduceLeDiff, Nat.reduceAdd, Int.reduceEq, Int.reduceLT, Int.reduceLE]
  (try simp only [brK_e, gdK_e, skK_e, gdA_e, skA_e, pkK_e]); simp (maxSteps := 10000000) (disch := omega) only [stAdd0, go_sem, ↓reduceIte, Nat.reduceEqDiff, Nat.reduceSub, Nat.reduceLeDiff, Nat.reduceAdd, Int.reduceEq, Int.reduceLT, Int.reduceLE]
  refine call_with (okAt0 _ _ rfl) ?_
  (try simp only [brK_e, gdK_e, skK_e, gdA_e, skA_e, pkK_e]); simp (maxSteps := 10000000) (disch := omega) only [go_sem, ↓reduceIte, Nat.reduceEqDiff, Nat.reduceSub, Nat.reduceLeDiff, Nat.reduceAdd, Int.reduceEq, Int.reduceLT, Int.reduceLE]
  refine ⟨rfl, call_with (okIns0 (verC r q l) rfl rfl rfl) ?_⟩
  (try simp only [brK_e, gdK_e, skK_e, gdA_e, skA_e, pkK_e]); simp (maxSteps := 10000000) (disch := omega) only [go_sem, ↓reduceIte, Nat.reduceEqDiff, Nat.reduceSub, Nat.reduceLeDiff, Nat.reduceAdd, Int.reduceEq, Int.reduceLT, Int.reduceLE]
theorem load_ver3 (r q l K) : LoadK (some (verC r q l)) 3 8 true K = K (.vec 8 zeros8) [] := by
  simp only [LoadK, ldX, eq_iff_iff]
  exact ⟨fun h => h.2.2, fun h => ⟨by simp [verC, zeros8], .inl trivial, h⟩⟩
theorem load_ver0 (r q l K) : LoadK [verC r q l][0]? 0 11 true K = K (.vec 11 (verC r q l)) [] := by
  simp only [LoadK, ldX, eq_iff_iff]
  exact ⟨fun h => h.2.2, fun h => ⟨by simp [verC, zeros8], .inl trivial, h⟩⟩
theorem okHead0 (r : Int) (q : Nat) (l : List UInt8) {h d} : FunOk Try.prog 32 [.vec 11 (verC r q l)] h d (.pv (.b true)) [] := by
  refine fun_pure mixed fn32 (by simp) rfl rfl fun F => ?_
  have e : ((verC r q l).drop 3).take 8 = zeros8 := rfl
  have e8 : zeros8 = [.i .u32 0, .i .u32 0, .i .u32 0, .i .u32 0, .i .u32 0, .i .u32 0, .i .u32 0, .i .u32 0] := rfl
  have el : (verC r q l).length = 11 := rfl
  have ep : peq zeros8 zeros8 = true := by simp [peq]
  have ef : fits [.int .u32, .int .u32, .int .u32, .int .u32, .int .u32, .int .u32, .int .u32, .int .u32] zeros8 := rfl
  (try simp only [brK_e, gdK_e, skK_e, gdA_e, skA_e, pkK_e]); simp (maxSteps := 10000000) (disch := omega) only [ir32, load_ver3, ← e8, ep, ef, go_sem, ↓reduceIte, Nat.reduceEqDiff, Nat.reduceSub, Nat.reduceLeDiff, Nat.reduceAdd, Int.reduceEq, Int.reduceLT, Int.reduceLE]
  rfl
theorem livesV {h d} : FunOk Try.prog 18 [] h d (.pv (.b true)) [] := by
  refine fun_pure mixed fn18 (by simp) rfl rfl fun F => ?_
  (try simp only [brK_e, gdK_e, skK_e, gdA_e, skA_e, pkK_e]); simp (maxSteps := 10000000) (disch := omega) only [ir18, go_sem, ↓reduceIte, Nat.reduceEqDiff, Nat.reduceSub, Nat.reduceLeDiff, Nat.reduceAdd, Int.reduceEq, Int.reduceLT, Int.reduceLE]
  refine call_with (okPatch _ _ _) ?_
  have e1 : patchR [97, 98, 99] 5 [120] = .tup [.pv (.s [97, 98, 99, 0, 0, 120]), .pv (.i .i64 0)] := by
    rw [patchR_ok (by unfold patchBad; simp)]; rfl
  rw [e1]
  (try simp only [brK_e, gdK_e, skK_e, gdA_e, skA_e, pkK_e]); simp (maxSteps := 10000000) (disch := omega) only [go_sem, ↓reduceIte, Nat.reduceEqDiff, Nat.reduceSub, Nat.reduceLeDiff, Nat.reduceAdd, Int.reduceEq, Int.reduceLT, Int.reduceLE]
  refine call_with (okVid 1 2) ?_
  (try simp only [brK_e, gdK_e, skK_e, gdA_e, skA_e, pkK_e]); simp (maxSteps := 10000000) (disch := omega) only [go_sem, ↓reduceIte, Nat.reduceEqDiff, Nat.reduceSub, Nat.reduceLeDiff, Nat.reduceAdd, Int.reduceEq, Int.reduceLT, Int.reduceLE]
  refine call_with (okAdd0 1 2 [121]) ?_
  have el : (verC 1 2 [121]).length = 11 := rfl
  have et : (verC 1 2 [121]).take 11 = verC 1 2 [121] := rfl
  (try simp only [brK_e, gdK_e, skK_e, gdA_e, skA_e, pkK_e]); simp (maxSteps := 10000000) (disch := omega) only [load_ver0, go_sem, ↓reduceIte, Nat.reduceEqDiff, Nat.reduceSub, Nat.reduceLeDiff, Nat.reduceAdd, Int.reduceEq, Int.reduceLT, Int.reduceLE]
  refine call_with (okHead0 1 2 [121]) ?_
  (try simp only [brK_e, gdK_e, skK_e, gdA_e, skA_e, pkK_e]); simp (maxSteps := 10000000) (disch := omega) only [go_sem, ↓reduceIte, Nat.reduceEqDiff, Nat.reduceSub, Nat.reduceLeDiff, Nat.reduceAdd, Int.reduceEq, Int.reduceLT, Int.reduceLE]
end Go.Proofs.Ytmeecblciegkkaa.Fw
namespace Go.Proofs.Ytmeecblciegkkaa.Fw
open Go.RowKit
/-! How an argument of any plain type that lies in a world reads in the small language. -/
noncomputable abbrev allOf (w : World) : View := viewOf w fun _ => False
theorem cell_view {w : World} {a : Addr} {v : Value} (h : w.cell? a = some v) : a.spot = none ∧ ∃ arr, allOf w a.block = some arr ∧ arr[a.off]? = some v := by
  unfold World.cell? at h
  split at h
  · rename_i c ty fr hb
    split at h
    · cases h
    · rename_i hs
      refine ⟨by cases hx : a.spot <;> simp_all, c, ?_, h⟩
      unfold allOf viewOf cellsAt
      simp [hb]
  · cases h
inductive Sh where
  | int (k : IntKind) | bool | str | arr (n : Nat) (s : Sh) | st (l : List Sh) | sl (s : Sh)
mutual
def Sh.w : Sh → Nat
  | .arr n s => n * s.w
  | .st l => Sh.wL l
  | _ => 1
def Sh.wL : List Sh → Nat
  | [] => 0
  | s :: l => s.w + Sh.wL l
end
mutual
def shB (P : Program) : Sh → TypeId → Bool
  | .int k, t => match P.underlying t with | some (.int k') => decide (k = k') | _ => false
  | .bool, t => match P.underlying t with | some .bool => true | _ => false
  | .str, t => match P.underlying t with | some .string => true | _ => false
  | .arr n s, t => match P.underlying t with | some (.array n' e) => decide (n = n') && decide (P.cellsOf e = s.w) && decide (P.cellsOf t = n * s.w) && shB P s e | _ => false
  | .st l, t => match P.underlying t with | some (.struct fs) => decide (P.cellsOf t = Sh.wL l) && shBL P l fs.toList 0 | _ => false
  | .sl s, t => match P.underlying t with | some (.slice e) => decide (P.cellsOf e = s.w) && decide (0 < s.w) && shB P s e | _ => false
def shBL (P : Program) : List Sh → List Field → Nat → Bool
  | [], [], _ => true
  | s :: l, f :: fs, off => decide (f.offset = off) && decide (P.cellsOf f.type = s.w) && shB P s f.type && shBL P l fs (off + s.w)
  | _, _, _ => false
end
mutual
/-- cells of a shape -/
def GC : Sh → List PV → Prop
  | .int k, cs => ∃ n, cs = [.i k n] ∧ (Lit.int k n).wf = true
  | .bool, cs => ∃ b, cs = [.b b]
  | .str, cs => ∃ l, cs = [.s l] ∧ l.length ≤ maxLen
  | .arr n s, cs => ∃ cc : List (List PV), cs = cc.flatten ∧ cc.length = n ∧ ∀ c ∈ cc, GC s c
  | .st l, cs => GCL l cs
  | .sl s, cs => ∃ es, cs = [.sl false s.w es] ∧ es.length ≤ maxLen ∧ ∀ c ∈ es, GC s c
def GCL : List Sh → List PV → Prop
  | [], cs => cs = []
  | s :: l, cs => ∃ c cs', cs = c ++ cs' ∧ GC s c ∧ GCL l cs'
end
theorem flat_len {w : Nat} : ∀ {cc : List (List PV)}, (∀ c ∈ cc, c.length = w) → cc.flatten.length = cc.length * w
  | [], _ => by simp
  | c :: cc, h => by
    rw [List.flatten_cons, List.length_append, flat_len fun c hc => h c (by simp [hc]), h c (by simp), List.length_cons, Nat.add_mul]; omega
mutual
theorem GC.len : ∀ {s : Sh} {cs : List PV}, GC s cs → cs.length = s.w
  | .int k, cs, h => by obtain ⟨n, rfl, _⟩ := h; rfl
  | .bool, cs, h => by obtain ⟨n, rfl⟩ := h; rfl
  | .str, cs, h => by obtain ⟨n, rfl, _⟩ := h; rfl
  | .arr n s, cs, h => by
    simp only [GC] at h
    obtain ⟨cc, rfl, rfl, h⟩ := h
    rw [flat_len fun c hc => GC.len (h c hc)]; rfl
  | .st l, cs, h => by simp only [GC] at h; simp only [Sh.w]; exact GCL.len h
  | .sl s, cs, h => by obtain ⟨n, rfl, _⟩ := h; rfl
theorem GCL.len : ∀ {l : List Sh} {cs : List PV}, GCL l cs → cs.length = Sh.wL l
  | [], cs, h => by simp only [GCL] at h; subst h; rfl
  | s :: l, cs, h => by
    simp only [GCL] at h
    obtain ⟨c, cs', rfl, h1, h2⟩ := h
    rw [List.length_append, GC.len h1, GCL.len h2]; rfl
end
theorem arr_GC {V : View} {s : Sh} : ∀ (n : Nat) (vs : List Value), vs.length = n * s.w → (∀ i, i < n → ∃ c, GC s c ∧ PCells V c ((vs.drop (i * s.w)).take s.w)) → ∃ cc : List (List PV), cc.length = n ∧ (∀ c ∈ cc, GC s c) ∧ PCells V cc.flatten vs
  | 0, vs, hl, h => by
    have : vs = [] := List.eq_nil_of_length_eq_zero (by omega)
    subst this
    exact ⟨[], rfl, by simp, PCells.nil⟩
  | n + 1, vs, hl, h => by
    rw [Nat.add_mul] at hl
    obtain ⟨c, g, p⟩ := h 0 (by omega)
    rw [Nat.zero_mul, List.drop_zero] at p
    obtain ⟨cc, e1, e2, e3⟩ := arr_GC (V := V) (s := s) n (vs.drop s.w) (by rw [List.length_drop]; omega) fun i hi => by
      obtain ⟨c', g', p'⟩ := h (i + 1) (by omega)
      refine ⟨c', g', ?_⟩
      rw [List.drop_drop, show s.w + i * s.w = (i + 1) * s.w from by rw [Nat.add_mul]; omega]
      exact p'
    refine ⟨c :: cc, by simp [e1], fun x hx => ?_, ?_⟩
    · rcases List.mem_cons.1 hx with rfl | hx
      · exact g
      · exact e2 x hx
    · rw [List.flatten_cons]
      have := PCells.append p e3
      rwa [List.take_append_drop] at this
theorem add_add {a : Addr} (h : a.spot = none) (i j : Nat) : (a.add i).add j = ⟨a.block, a.off + (i + j), none⟩ := by
  obtain ⟨b, o, sp⟩ := a
  simp only at h; subst h
  unfold Addr.add
  by_cases hi : i = 0
  · subst hi
    by_cases hj : j = 0
    · subst hj; simp
    · simp [hj]
  · by_cases hj : j = 0
    · subst hj; simp [hi]
    · simp [hi, hj]; omega
theorem slice_GC {w : World} {s : Sh} {a : Addr} {len cap : Nat} (hcap : len ≤ cap) (hw : 0 < s.w)
    (h : ∀ i, i < len → ∃ c vs, GC s c ∧ PCells (allOf w) c vs ∧ w.cells? 0 (a.add (i * s.w)) s.w = some vs) :
    ∃ es : List (List PV), es.length = len ∧ (∀ c ∈ es, GC s c) ∧ PConc (allOf w) (.sl false s.w es) (.slice (some a) len cap) := by
  by_cases h0 : len = 0
  · subst h0
    exact ⟨[], rfl, by simp, .sl false s.w [] (some a) cap (fun _ _ => undef) 0 0 #[] (by simp) (by simp) (by simp) (by simp) (by simp) (by simp)⟩
  · have h' : ∀ i, ∃ c vs, i < len → GC s c ∧ PCells (allOf w) c vs ∧ w.cells? 0 (a.add (i * s.w)) s.w = some vs := fun i => by
      by_cases hi : i < len
      · obtain ⟨c, vs, h1⟩ := h i hi; exact ⟨c, vs, fun _ => h1⟩
      · exact ⟨[], [], fun h => absurd h hi⟩
    obtain ⟨c, hc⟩ := Classical.axiomOfChoice h'
    obtain ⟨vs, hv⟩ := Classical.axiomOfChoice hc
    obtain ⟨g0, p0, k0⟩ := hv 0 (by omega)
    obtain ⟨_, l0, c0⟩ := World.cells?_some k0
    have c00 := c0 0 hw
    have hlen0 : 0 < (vs 0).length := by omega
    rw [List.getElem?_eq_getElem hlen0, Nat.zero_mul] at c00
    have e0 : (a.add 0).add 0 = a := by simp [Addr.add]
    rw [e0] at c00
    obtain ⟨hs, arr, harr, _⟩ := cell_view c00
    have hget : ∀ i j, i < len → j < s.w → arr[a.off + (i * s.w + j)]? = (vs i)[j]? := fun i j hi hj => by
      obtain ⟨_, _, k⟩ := hv i hi
      obtain ⟨_, ll, cc⟩ := World.cells?_some k
      have h1 := cc j hj
      have hlt : j < (vs i).length := by omega
      rw [List.getElem?_eq_getElem hlt, add_add hs] at h1
      obtain ⟨_, arr', ha', h2⟩ := cell_view h1
      simp only at ha' h2
      rw [harr] at ha'; cases ha'
      rw [h2, List.getElem?_eq_getElem hlt]
    have hel : ∀ i, i < len → ((List.range len).map c)[i]? = some (c i) := fun i hi => by simp [hi]
    refine ⟨(List.range len).map c, by simp, fun x hx => ?_, ?_⟩
    · obtain ⟨i, hi, rfl⟩ := List.mem_map.1 hx
      exact (hv i (by simpa using hi)).1
    · have e := PConc.sl (V := allOf w) false s.w ((List.range len).map c) (some a) cap (fun i j => (vs i).getD j undef) a.block a.off arr (by simpa using hcap) (by simp) (fun x hx => by
          obtain ⟨i, hi, rfl⟩ := List.mem_map.1 hx
          exact (hv i (by simpa using hi)).1.len) (fun _ => by
          obtain ⟨b, o, sp⟩ := a
          simp only at hs; subst hs
          exact ⟨rfl, harr⟩) (fun i j hi hj => by
          have hi' : i < len := by simpa using hi
          rw [hget i j hi' hj]
          have : j < (vs i).length := by
            obtain ⟨_, ll, _⟩ := World.cells?_some (hv i hi').2.2; omega
          simp [List.getD_eq_getElem?_getD, this]) (fun i j x y hx hy => by
          have hi' : i < len := by
            have := (List.getElem?_eq_some_iff.1 hx).1; simpa using this
          rw [hel i hi'] at hx; cases hx
          obtain ⟨v, hv1, hv2⟩ := (hv i hi').2.1.2 j y hy
          simp only [List.getD_eq_getElem?_getD, hv1, Option.getD_some]; exact hv2)
      simpa using e
section
variable {H : Type} {enc : TypeId × Value → H} {P : Program} {w : World} {spare : Nat → Bool} {held : Bool}
mutual
theorem trod_GC : ∀ (s : Sh) {t : TypeId} {fuel : Nat} {vs : List Value} {x}, shB P s t = true → DataW.trod enc P w 0 spare held fuel t vs = some x → ∃ cs, GC s cs ∧ PCells (allOf w) cs vs
  | .int k, t, fuel, vs, x, hs, h => by
    simp only [shB] at hs
    split at hs
    · rename_i k' hu
      obtain rfl := of_decide_eq_true hs
      obtain ⟨n, rfl, _, hw⟩ := DataW.trod_int hu h
      exact ⟨[.i k n], ⟨n, rfl, hw⟩, PCells.cons (.i _ _) PCells.nil⟩
    · cases hs
  | .bool, t, fuel, vs, x, hs, h => by
    simp only [shB] at hs
    split at hs
    · rename_i hu
      obtain ⟨n, rfl, _⟩ := DataW.trod_bool hu h
      exact ⟨[.b n], ⟨n, rfl⟩, PCells.cons (.b _) PCells.nil⟩
    · cases hs
  | .str, t, fuel, vs, x, hs, h => by
    simp only [shB] at hs
    split at hs
    · rename_i hu
      obtain ⟨b, rfl, _, hl⟩ := DataW.trod_string hu h
      refine ⟨[.s b.data.toList], ⟨b.data.toList, rfl, by simpa using hl⟩, PCells.cons ?_ PCells.nil⟩
      have := PConc.s (V := allOf w) b.data.toList
      simpa using this
    · cases hs
  | .arr n s, t, fuel, vs, x, hs, h => by
    simp only [shB] at hs
    split at hs
    · rename_i n' e hu
      simp only [Bool.and_eq_true, decide_eq_true_eq] at hs
      obtain ⟨⟨⟨rfl, h1⟩, h2⟩, h3⟩ := hs
      obtain ⟨xs, m, rfl, _, hl, hx, hg⟩ := DataW.trod_array hu h
      rw [h1] at hg
      obtain ⟨cc, e1, e2, e3⟩ := arr_GC (V := allOf w) (s := s) n vs (by rw [hl, h2]) fun i hi => by
        have := hg i hi
        rw [List.getElem?_eq_getElem (by omega)] at this
        exact trod_GC s h3 this
      exact ⟨cc.flatten, by simp only [GC]; exact ⟨cc, rfl, e1, e2⟩, e3⟩
    · cases hs
  | .st l, t, fuel, vs, x, hs, h => by
    simp only [shB] at hs
    split at hs
    · rename_i fs hu
      simp only [Bool.and_eq_true, decide_eq_true_eq] at hs
      obtain ⟨h2, h3⟩ := hs
      obtain ⟨xs, m, rfl, _, hl, hx, hg⟩ := DataW.trod_struct hu h
      obtain ⟨cs, e1, e2⟩ := trod_GCL l (off := 0) (vs := vs) h3 fun f hf => by
        obtain ⟨i, hi⟩ := List.mem_iff_getElem?.1 hf
        have hi2 : fs[i]? = some f := by simpa using hi
        have := hg i f hi2
        have hlt := (Array.getElem?_eq_some_iff.1 hi2).1
        rw [List.getElem?_eq_getElem (by omega)] at this
        exact ⟨_, _, this⟩
      rw [List.drop_zero, ← h2, ← hl, List.take_length] at e2
      exact ⟨cs, by simp only [GC]; exact e1, e2⟩
    · cases hs
  | .sl s, t, fuel, vs, x, hs, h => by
    simp only [shB] at hs
    split at hs
    · rename_i e hu
      simp only [Bool.and_eq_true, decide_eq_true_eq] at hs
      obtain ⟨⟨h1, h2⟩, h3⟩ := hs
      rcases DataW.trod_slice hu h with ⟨rfl, _⟩ | ⟨a, len, cap, elems, rest, n, rfl, rfl, _, _, hl, hm, hle, hg, _⟩
      · exact ⟨[.sl false s.w []], by simp only [GC]; exact ⟨[], rfl, by simp, by simp⟩, PCells.cons (.sl false s.w [] none 0 (fun _ _ => undef) 0 0 #[] (by simp) (by simp) (by simp) (by simp) (by simp) (by simp)) PCells.nil⟩
      · rw [h1] at hg
        obtain ⟨es, e1, e2, e3⟩ := slice_GC (w := w) (s := s) (a := a) hl h2 fun i hi => by
          have h4 := hg i hi
          rw [List.getElem?_eq_getElem (by omega)] at h4
          obtain ⟨vs, h5, h6⟩ := Option.bind_eq_some_iff.1 h4
          obtain ⟨c, g, p⟩ := trod_GC s h3 h6
          exact ⟨c, vs, g, p, h5⟩
        exact ⟨[.sl false s.w es], by simp only [GC]; exact ⟨es, rfl, by omega, e2⟩, PCells.cons e3 PCells.nil⟩
    · cases hs
theorem trod_GCL : ∀ (l : List Sh) {fs : List Field} {off : Nat} {vs : List Value}, shBL P l fs off = true →
    (∀ f ∈ fs, ∃ n x, DataW.trod enc P w 0 spare held n f.type ((vs.drop f.offset).take (P.cellsOf f.type)) = some x) → ∃ cs, GCL l cs ∧ PCells (allOf w) cs ((vs.drop off).take (Sh.wL l))
  | [], fs, off, vs, hs, h => ⟨[], by simp only [GCL], by simp only [Sh.wL, List.take_zero]; exact PCells.nil⟩
  | s :: l, [], off, vs, hs, h => by simp [shBL] at hs
  | s :: l, f :: fs, off, vs, hs, h => by
    simp only [shBL, Bool.and_eq_true, decide_eq_true_eq] at hs
    obtain ⟨⟨⟨h1, h2⟩, h3⟩, h4⟩ := hs
    obtain ⟨n, x, hx⟩ := h f (by simp)
    obtain ⟨c, g, p⟩ := trod_GC s h3 hx
    obtain ⟨cs, gl, pl⟩ := trod_GCL l (vs := vs) h4 fun f hf => h f (by simp [hf])
    refine ⟨c ++ cs, by simp only [GCL]; exact ⟨c, cs, rfl, g, gl⟩, ?_⟩
    rw [h1, h2] at p
    have := PCells.append p pl
    have e : (vs.drop off).take (Sh.wL (s :: l)) = (vs.drop off).take s.w ++ (vs.drop (off + s.w)).take (Sh.wL l) := by
      simp only [Sh.wL]
      rw [List.take_add, List.drop_drop]
    rw [e]; exact this
end
end
mutual
/-- the value of cells of a shape -/
def toSV : Sh → List PV → SV
  | .arr n s, cs => .vec (n * s.w) cs
  | .st l, cs => .agg (toSegs l cs)
  | _, cs => .pv (cs.headD (.b false))
def toSegs : List Sh → List PV → List SV
  | [], _ => []
  | s :: l, cs => (toSV s (cs.take s.w)).segs ++ toSegs l (cs.drop s.w)
end
def Sh.isAg : Sh → Bool
  | .arr _ _ => true
  | .st _ => true
  | _ => false
theorem cells_append {V : View} {ρ : Nat → Value} : ∀ {l m : List SV} {a b : List Value}, Cells V ρ l a → Cells V ρ m b → Cells V ρ (l ++ m) (a ++ b)
  | [], m, a, b, h1, h2 => by simp only [Cells] at h1; subst h1; exact h2
  | x :: l, m, a, b, h1, h2 => by
    simp only [Cells, List.cons_append] at h1 ⊢
    obtain ⟨u, us, rfl, c, d, e, f⟩ := h1
    exact ⟨u, us ++ b, by simp, c, d, e, cells_append f h2⟩
mutual
theorem conc_toSV {V : View} {ρ : Nat → Value} : ∀ (s : Sh) {cs : List PV} {v : Value}, GC s cs → PCells V cs (flatV v) → (s.isAg = true → ∃ vs, v = .agg ⟨vs⟩) → (s.isAg = false → ∀ vs, v ≠ .agg vs) → Conc V ρ (toSV s cs) v
  | .int k, cs, v, g, p, _, h => by
    obtain ⟨n, rfl, _⟩ := g
    have e : flatV v = [v] := by cases v <;> first | rfl | exact absurd rfl (h rfl _)
    rw [e] at p
    obtain ⟨v', h1, h2⟩ := p.2 0 _ rfl
    simp at h1; subst h1
    simp only [toSV, Conc, List.headD_cons]; exact h2
  | .bool, cs, v, g, p, _, h => by
    obtain ⟨n, rfl⟩ := g
    have e : flatV v = [v] := by cases v <;> first | rfl | exact absurd rfl (h rfl _)
    rw [e] at p
    obtain ⟨v', h1, h2⟩ := p.2 0 _ rfl
    simp at h1; subst h1
    simp only [toSV, Conc, List.headD_cons]; exact h2
  | .str, cs, v, g, p, _, h => by
    obtain ⟨n, rfl, _⟩ := g
    have e : flatV v = [v] := by cases v <;> first | rfl | exact absurd rfl (h rfl _)
    rw [e] at p
    obtain ⟨v', h1, h2⟩ := p.2 0 _ rfl
    simp at h1; subst h1
    simp only [toSV, Conc, List.headD_cons]; exact h2
  | .sl s, cs, v, g, p, _, h => by
    simp only [GC] at g
    obtain ⟨n, rfl, _⟩ := g
    have e : flatV v = [v] := by cases v <;> first | rfl | exact absurd rfl (h rfl _)
    rw [e] at p
    obtain ⟨v', h1, h2⟩ := p.2 0 _ rfl
    simp at h1; subst h1
    simp only [toSV, Conc, List.headD_cons]; exact h2
  | .arr n s, cs, v, g, p, h, _ => by
    obtain ⟨vs, rfl⟩ := h rfl
    have hl := g.len
    simp only [toSV, Conc]
    refine ⟨vs, rfl, ?_, p⟩
    have e1 : vs.length = cs.length := p.1.symm
    rw [e1, hl]; rfl
  | .st l, cs, v, g, p, h, _ => by
    obtain ⟨vs, rfl⟩ := h rfl
    simp only [GC] at g
    simp only [toSV, Conc]
    exact ⟨vs, rfl, conc_toSegs l g p⟩
theorem conc_toSegs {V : View} {ρ : Nat → Value} : ∀ (l : List Sh) {cs : List PV} {vs : List Value}, GCL l cs → PCells V cs vs → Cells V ρ (toSegs l cs) vs
  | [], cs, vs, g, p => by
    simp only [GCL] at g; subst g
    have : vs = [] := List.eq_nil_of_length_eq_zero (by rw [← p.1]; rfl)
    subst this
    simp only [toSegs, Cells]
  | s :: l, cs, vs, g, p => by
    simp only [GCL] at g
    obtain ⟨c, cs', rfl, g1, g2⟩ := g
    have hl := g1.len
    have p1 : PCells V c (vs.take c.length) := by
      have := p.split c.length |>.1
      simpa using this
    have p2 : PCells V cs' (vs.drop c.length) := by
      have := p.split c.length |>.2
      simpa using this
    have hvs : vs = vs.take c.length ++ vs.drop c.length := (List.take_append_drop _ _).symm
    have hlen : (vs.take c.length).length = s.w := by rw [← p1.1, hl]
    simp only [toSegs]
    rw [List.take_left' hl, List.drop_left' hl]
    rw [hvs]
    refine cells_append ?_ (conc_toSegs l g2 p2)
    cases s with
    | st m =>
      simp only [GC] at g1
      simp only [toSV, SV.segs]
      exact conc_toSegs m g1 p1
    | arr n s' =>
      have := conc_toSV (V := V) (ρ := ρ) (.arr n s') (v := .agg ⟨vs.take c.length⟩) g1 (by simpa [flatV] using p1) (fun _ => ⟨_, rfl⟩) (by simp [Sh.isAg])
      simp only [toSV] at this ⊢
      simp only [SV.segs, Cells]
      exact ⟨_, [], by simp [flatV], this, by simpa [flatV, SV.width, Sh.w] using hlen, fun v hv => p1.one v (by simpa [flatV] using hv), rfl⟩
    | int k =>
      obtain ⟨n, rfl, _⟩ := g1
      obtain ⟨v, h1, h2⟩ := p1.2 0 _ rfl
      have e : vs.take [PV.i k n].length = [v] := by
        match hx : vs.take [PV.i k n].length, h1, hlen with
        | [u], h1, _ => simp at h1; rw [h1]
      have ho := h2.one
      have fv : flatV v = [v] := by cases v <;> first | rfl | exact absurd ho (by simp [oneCell])
      rw [e]
      simp only [toSV, SV.segs, Cells, Conc, List.headD_cons]
      exact ⟨v, [], by rw [fv]; rfl, h2, by rw [fv]; rfl, by rw [fv]; simpa using ho, rfl⟩
    | bool =>
      obtain ⟨n, rfl⟩ := g1
      obtain ⟨v, h1, h2⟩ := p1.2 0 _ rfl
      have e : vs.take [PV.b n].length = [v] := by
        match hx : vs.take [PV.b n].length, h1, hlen with
        | [u], h1, _ => simp at h1; rw [h1]
      have ho := h2.one
      have fv : flatV v = [v] := by cases v <;> first | rfl | exact absurd ho (by simp [oneCell])
      rw [e]
      simp only [toSV, SV.segs, Cells, Conc, List.headD_cons]
      exact ⟨v, [], by rw [fv]; rfl, h2, by rw [fv]; rfl, by rw [fv]; simpa using ho, rfl⟩
    | str =>
      obtain ⟨n, rfl, _⟩ := g1
      obtain ⟨v, h1, h2⟩ := p1.2 0 _ rfl
      have e : vs.take [PV.s n].length = [v] := by
        match hx : vs.take [PV.s n].length, h1, hlen with
        | [u], h1, _ => simp at h1; rw [h1]
      have ho := h2.one
      have fv : flatV v = [v] := by cases v <;> first | rfl | exact absurd ho (by simp [oneCell])
      rw [e]
      simp only [toSV, SV.segs, Cells, Conc, List.headD_cons]
      exact ⟨v, [], by rw [fv]; rfl, h2, by rw [fv]; rfl, by rw [fv]; simpa using ho, rfl⟩
    | sl s' =>
      simp only [GC] at g1
      obtain ⟨n, rfl, _⟩ := g1
      obtain ⟨v, h1, h2⟩ := p1.2 0 _ rfl
      have e : vs.take [PV.sl false s'.w n].length = [v] := by
        match hx : vs.take [PV.sl false s'.w n].length, h1, hlen with
        | [u], h1, _ => simp at h1; rw [h1]
      have ho := h2.one
      have fv : flatV v = [v] := by cases v <;> first | rfl | exact absurd ho (by simp [oneCell])
      rw [e]
      simp only [toSV, SV.segs, Cells, Conc, List.headD_cons]
      exact ⟨v, [], by rw [fv]; rfl, h2, by rw [fv]; rfl, by rw [fv]; simpa using ho, rfl⟩
end
mutual
theorem toSV_closed : ∀ (s : Sh) (cs : List PV), (toSV s cs).closed = true
  | .int k, cs => rfl
  | .bool, cs => rfl
  | .str, cs => rfl
  | .sl s, cs => rfl
  | .arr n s, cs => rfl
  | .st l, cs => by simp only [toSV, SV.closed]; exact toSegs_closed l cs
theorem toSegs_closed : ∀ (l : List Sh) (cs : List PV), SV.closedL (toSegs l cs) = true
  | [], cs => rfl
  | s :: l, cs => by
    simp only [toSegs]
    have h2 := toSegs_closed l (cs.drop s.w)
    have app : ∀ (a b : List SV), SV.closedL a = true → SV.closedL b = true → SV.closedL (a ++ b) = true := fun a b ha hb => by
      induction a with
      | nil => exact hb
      | cons x a ih => simp only [SV.closedL, Bool.and_eq_true, List.cons_append] at ha ⊢; exact ⟨ha.1, ih ha.2⟩
    refine app _ _ ?_ h2
    cases s with
    | st m => simp only [toSV, SV.segs]; exact toSegs_closed m _
    | int k => rfl
    | bool => rfl
    | str => rfl
    | sl s => rfl
    | arr n s => rfl
end
theorem okWide_ag {P : Program} {w : World} {base : Nat} {t : TypeId} {v : Value} : ∀ {s : Sh}, shB P s t = true → Value.okWide P w .any base t v → (s.isAg = true → ∃ vs, v = .agg ⟨vs⟩) ∧ (s.isAg = false → ∀ vs, v ≠ .agg vs)
  | .int k, hs, h => by
    simp only [shB] at hs
    split at hs
    · rename_i k' hu
      obtain ⟨n, rfl⟩ := WideShapes.okWide_int hu h
      exact ⟨fun h => (by cases h), fun _ vs e => by cases e⟩
    · cases hs
  | .bool, hs, h => by
    simp only [shB] at hs
    split at hs
    · rename_i hu
      obtain ⟨n, rfl⟩ := WideShapes.okWide_bool hu h
      exact ⟨fun h => (by cases h), fun _ vs e => by cases e⟩
    · cases hs
  | .str, hs, h => by
    simp only [shB] at hs
    split at hs
    · rename_i hu
      obtain ⟨n, rfl⟩ := WideShapes.okWide_string hu h
      exact ⟨fun h => (by cases h), fun _ vs e => by cases e⟩
    · cases hs
  | .sl s, hs, h => by
    simp only [shB] at hs
    split at hs
    · rename_i e hu
      obtain ⟨a, b, c, rfl⟩ := WideShapes.okWide_slice hu h
      exact ⟨fun h => (by cases h), fun _ vs e => by cases e⟩
    · cases hs
  | .arr n s, hs, h => by
    simp only [shB] at hs
    split at hs
    · rename_i n' e hu
      simp only [Value.okWide, hu] at h
      obtain ⟨⟨xs⟩, rfl, _⟩ := h
      exact ⟨fun _ => ⟨_, rfl⟩, fun h => (by cases h)⟩
    · cases hs
  | .st l, hs, h => by
    simp only [shB] at hs
    split at hs
    · rename_i fs hu
      simp only [Value.okWide, hu] at h
      obtain ⟨⟨xs⟩, rfl, _⟩ := h
      exact ⟨fun _ => ⟨_, rfl⟩, fun h => (by cases h)⟩
    · cases hs
/-- an argument, as it reads -/
theorem arg_conc {H : Type} {enc : TypeId × Value → H} {P : Program} {w : World} {spare : Nat → Bool} {held : Bool} {base : Nat} {t : TypeId} {v : Value} {d : DataW H} {ps : List MemPlace} {s : Sh} (hs : shB P s t = true)
    (hv : Value.okWide P w .any base t v) (h : DataW.Trod enc P w 0 spare held t v d ps) : ∃ cs, GC s cs ∧ Conc (allOf w) (fun _ => undef) (toSV s cs) v := by
  obtain ⟨fuel, hf⟩ := h
  obtain ⟨cs, g, p⟩ := trod_GC s hs hf
  rw [flatV_cells] at p
  obtain ⟨h1, h2⟩ := okWide_ag hs hv
  exact ⟨cs, g, conc_toSV s g p h1 h2⟩
end Go.Proofs.Ytmeecblciegkkaa.Fw
namespace Go.Proofs.Ytmeecblciegkkaa.Fw
open Go.RowKit
/-! Arguments of the shapes that the laws have. -/
theorem flat_get {m : Nat} : ∀ {cc : List (List PV)} {i j : Nat}, (∀ c ∈ cc, c.length = m) → j < m → cc.flatten[i * m + j]? = (cc[i]?).bind (·[j]?)
  | [], i, j, _, _ => by simp
  | c :: cc, 0, j, h, hj => by
    have hc := h c (by simp)
    rw [List.flatten_cons, Nat.zero_mul, Nat.zero_add, List.getElem?_append_left (by omega)]; rfl
  | c :: cc, i + 1, j, h, hj => by
    have hc := h c (by simp)
    rw [List.flatten_cons, List.getElem?_append_right (by rw [Nat.add_mul]; omega)]
    rw [show (i + 1) * m + j - c.length = i * m + j from by rw [Nat.add_mul]; omega]
    rw [flat_get (fun c hc => h c (by simp [hc])) hj]; rfl
theorem arr_el {n : Nat} {s : Sh} {cs : List PV} (h : GC (.arr n s) cs) : cs.length = n * s.w ∧ ∀ i, i < n → ∃ c, GC s c ∧ ∀ j, j < s.w → cs[i * s.w + j]? = c[j]? := by
  refine ⟨h.len, fun i hi => ?_⟩
  simp only [GC] at h
  obtain ⟨cc, rfl, rfl, g⟩ := h
  refine ⟨cc[i], g _ (List.getElem_mem _), fun j hj => ?_⟩
  rw [flat_get (fun c hc => (g c hc).len) hj, List.getElem?_eq_getElem hi]; rfl
theorem u32_wf {n : Int} (h : (Lit.int .u32 n).wf = true) : 0 ≤ n ∧ n < 4294967296 := by
  simp [Lit.wf, IntKind.min, IntKind.max, IntKind.signed, IntKind.bits] at h; omega
theorem u64_wf {n : Int} (h : (Lit.int .u64 n).wf = true) : 0 ≤ n ∧ n < 18446744073709551616 := by
  simp [Lit.wf, IntKind.min, IntKind.max, IntKind.signed, IntKind.bits] at h; omega
theorem u8_wf {n : Int} (h : (Lit.int .u8 n).wf = true) : 0 ≤ n ∧ n < 256 := by
  simp [Lit.wf, IntKind.min, IntKind.max, IntKind.signed, IntKind.bits] at h; omega
theorem i64_wf {n : Int} (h : (Lit.int .i64 n).wf = true) : -9223372036854775808 ≤ n ∧ n < 9223372036854775808 := by
  simp [Lit.wf, IntKind.min, IntKind.max, IntKind.signed, IntKind.bits] at h; omega
theorem arrF_of {n : Nat} {cs : List PV} {f : Nat → PV} (hl : cs.length = n) (h : ∀ i, i < n → cs[i]? = some (f i)) : cs = arrF n f := by
  apply List.ext_getElem?
  intro i
  by_cases hi : i < n
  · rw [h i hi, arrF_get hi]
  · rw [List.getElem?_eq_none (by omega), List.getElem?_eq_none (by rw [arrF_length]; omega)]
theorem GC_vE {cs : List PV} (h : GC (.arr 8 (.int .u32)) cs) : ∃ a : Vc, cs = vE a ∧ ∀ i, i < 8 → a i < 4294967296 := by
  obtain ⟨hl, g⟩ := arr_el h
  have key : ∀ i, ∃ n : Nat, i < 8 → cs[i]? = some (.i .u32 n) ∧ n < 4294967296 := fun i => by
    by_cases hi : i < 8
    · obtain ⟨c, ⟨n, rfl, hw⟩, k⟩ := g i hi
      have := k 0 (by simp [Sh.w])
      simp only [Sh.w, Nat.mul_one, Nat.add_zero] at this
      have hr := u32_wf hw
      refine ⟨n.toNat, fun _ => ⟨?_, by omega⟩⟩
      rw [this, show ((n.toNat : Nat) : Int) = n from by omega]; rfl
    · exact ⟨0, fun h => absurd h hi⟩
  obtain ⟨a, ha⟩ := Classical.axiomOfChoice key
  exact ⟨a, arrF_of hl fun i hi => (ha i hi).1, fun i hi => (ha i hi).2⟩
theorem GC_wE {cs : List PV} (h : GC (.arr 8 .bool) cs) : ∃ a : Nat → Bool, cs = wE a := by
  obtain ⟨hl, g⟩ := arr_el h
  have key : ∀ i, ∃ n : Bool, i < 8 → cs[i]? = some (.b n) := fun i => by
    by_cases hi : i < 8
    · obtain ⟨c, ⟨n, rfl⟩, k⟩ := g i hi
      have := k 0 (by simp [Sh.w])
      simp only [Sh.w, Nat.mul_one, Nat.add_zero] at this
      exact ⟨n, fun _ => this⟩
    · exact ⟨false, fun h => absurd h hi⟩
  obtain ⟨a, ha⟩ := Classical.axiomOfChoice key
  exact ⟨a, arrF_of hl fun i hi => ha i hi⟩
theorem GC_tE {cs : List PV} (h : GC (.arr 8 (.arr 8 (.int .u32))) cs) : ∃ t : Nat → Vc, cs = tE t ∧ ∀ i, i < 8 → ∀ j, j < 8 → t i j < 4294967296 := by
  obtain ⟨hl, g⟩ := arr_el h
  have key : ∀ i, ∃ a : Vc, i < 8 → (∀ j, j < 8 → cs[i * 8 + j]? = some (.i .u32 (a j))) ∧ ∀ j, j < 8 → a j < 4294967296 := fun i => by
    by_cases hi : i < 8
    · obtain ⟨c, hc, k⟩ := g i hi
      obtain ⟨a, rfl, hb⟩ := GC_vE hc
      refine ⟨a, fun _ => ⟨fun j hj => ?_, hb⟩⟩
      have := k j hj
      simp only [Sh.w] at this
      rw [this]; exact arrF_get hj _
    · exact ⟨fun _ => 0, fun h => absurd h hi⟩
  obtain ⟨t, ht⟩ := Classical.axiomOfChoice key
  refine ⟨t, arrF_of hl fun i hi => ?_, fun i hi => (ht i hi).2⟩
  have := (ht (i / 8) (by omega)).1 (i % 8) (by omega)
  rw [show i / 8 * 8 + i % 8 = i from by omega] at this
  exact this
theorem GC_i64 {cs : List PV} (h : GC (.int .i64) cs) : ∃ n : Int, cs = [.i .i64 n] ∧ -9223372036854775808 ≤ n ∧ n < 9223372036854775808 := by
  obtain ⟨n, rfl, hw⟩ := h; exact ⟨n, rfl, i64_wf hw⟩
theorem GC_u64 {cs : List PV} (h : GC (.int .u64) cs) : ∃ n : Nat, cs = [.i .u64 n] ∧ n < 18446744073709551616 := by
  obtain ⟨n, rfl, hw⟩ := h
  have := u64_wf hw
  exact ⟨n.toNat, by rw [show ((n.toNat : Nat) : Int) = n from by omega], by omega⟩
theorem GC_bool {cs : List PV} (h : GC .bool cs) : ∃ n : Bool, cs = [.b n] := h
theorem GC_bytes {cs : List PV} (h : GC (.sl (.int .u8)) cs) : ∃ l : List UInt8, cs = [.sl false 1 (bytesE l)] ∧ l.length ≤ maxLen := by
  simp only [GC] at h
  obtain ⟨es, rfl, hl, g⟩ := h
  have key : ∀ es : List (List PV), (∀ c ∈ es, ∃ n, c = [PV.i .u8 n] ∧ (Lit.int .u8 n).wf = true) → ∃ l : List UInt8, es = bytesE l := fun es => by
    induction es with
    | nil => intro _; exact ⟨[], rfl⟩
    | cons c es ih =>
      intro h
      obtain ⟨n, rfl, hw⟩ := h c (by simp)
      obtain ⟨l, rfl⟩ := ih fun c hc => h c (by simp [hc])
      have hr := u8_wf hw
      refine ⟨UInt8.ofNat n.toNat :: l, ?_⟩
      simp only [bytesE, List.map_cons]
      rw [UInt8.toNat_ofNat', show n.toNat % 2 ^ 8 = n.toNat from Nat.mod_eq_of_lt (by omega), show ((n.toNat : Nat) : Int) = n from by omega]
  obtain ⟨l, rfl⟩ := key es g
  exact ⟨l, rfl, by simpa [bytesE] using hl⟩
theorem wrap_u64_mod (n : Int) : IntKind.u64.wrap n = n % 18446744073709551616 := by simp [IntKind.wrap, IntKind.signed, IntKind.bits]
theorem u64_idx (a : Int) {n : Nat} (h0 : 0 < n) (h : n < 4611686018427387904) : ∃ j : Nat, j < n ∧ IntKind.i64.wrap ((IntKind.u64.wrap a).tmod (IntKind.u64.wrap (n : Int))) = j := by
  rw [wrap_u64 (n := (n : Int)) (by omega), wrap_u64_mod]
  have h1 : 0 ≤ a % 18446744073709551616 := by omega
  rw [Int.tmod_eq_emod_of_nonneg h1]
  generalize a % 18446744073709551616 = m at *
  have h2 := Int.emod_nonneg m (b := (n : Int)) (by omega)
  have h3 := Int.emod_lt_of_pos m (b := (n : Int)) (by omega)
  refine ⟨(m % n).toNat, by omega, ?_⟩
  rw [wrap_i64 (by omega)]; omega
theorem GC_sl {s : Sh} {cs : List PV} (h : GC (.sl s) cs) : ∃ es, cs = [.sl false s.w es] ∧ es.length ≤ maxLen ∧ ∀ c ∈ es, GC s c := by
  simp only [GC] at h; exact h
end Go.Proofs.Ytmeecblciegkkaa.Fw
namespace Go.Proofs.Ytmeecblciegkkaa.Fw
open Go.RowKit Go.Proofs
theorem patchR_cases (a s : List UInt8) (o : Int) : ∃ l e, patchR a o s = .tup [.pv (.s l), .pv (.i .i64 e)] := by
  unfold patchR; split
  · exact ⟨_, _, rfl⟩
  · exact ⟨_, _, rfl⟩
theorem cutR_cases (a : List UInt8) (o : Int) : ∃ l e, cutR a o = .tup [.pv (.s l), .pv (.i .i64 e)] := by
  unfold cutR; split
  · exact ⟨_, _, rfl⟩
  · exact ⟨_, _, rfl⟩
set_option maxHeartbeats 2000000 in
theorem holdsVersionBytes {c0 c1 c2 : List PV} (g0 : GC .str c0) (g1 : GC (.int .i64) c1) (g2 : GC .str c2) {h d} :
    FunOk Try.prog 4 [toSV .str c0, toSV (.int .i64) c1, toSV .str c2] h d (.pv (.b true)) [] := by
  obtain ⟨a, rfl, ha⟩ := g0
  obtain ⟨o, rfl, ho⟩ := GC_i64 g1
  obtain ⟨s, rfl, hs⟩ := g2
  show FunOk Try.prog 4 [.pv (.s a), .pv (.i .i64 o), .pv (.s s)] h d (.pv (.b true)) []
  refine fun_pure mixed fn4 (by simp) rfl rfl fun F => ?_
  (try simp only [brK_e, gdK_e, skK_e, gdA_e, skA_e, pkK_e]); simp (maxSteps := 10000000) (disch := omega) only [ir4, go_sem, ↓reduceIte, Nat.reduceEqDiff, Nat.reduceSub, Nat.reduceLeDiff, Nat.reduceAdd, Int.reduceEq, Int.reduceLT, Int.reduceLE]
  refine call_with livesV ?_
  by_cases h1 : 500 < (a.length : Int)
  · (try simp only [brK_e, gdK_e, skK_e, gdA_e, skA_e, pkK_e]); simp (maxSteps := 10000000) (disch := omega) only [go_sem, ↓reduceIte, Nat.reduceEqDiff, Nat.reduceSub, Nat.reduceLeDiff, Nat.reduceAdd, Int.reduceEq, Int.reduceLT, Int.reduceLE]
    refine call_with livesV ?_
    (try simp only [brK_e, gdK_e, skK_e, gdA_e, skA_e, pkK_e]); simp (maxSteps := 10000000) (disch := omega) only [go_sem, ↓reduceIte, Nat.reduceEqDiff, Nat.reduceSub, Nat.reduceLeDiff, Nat.reduceAdd, Int.reduceEq, Int.reduceLT, Int.reduceLE]
  by_cases h2 : 500 < (s.length : Int)
  · (try simp only [brK_e, gdK_e, skK_e, gdA_e, skA_e, pkK_e]); simp (maxSteps := 10000000) (disch := omega) only [go_sem, ↓reduceIte, Nat.reduceEqDiff, Nat.reduceSub, Nat.reduceLeDiff, Nat.reduceAdd, Int.reduceEq, Int.reduceLT, Int.reduceLE]
    refine call_with livesV ?_
    (try simp only [brK_e, gdK_e, skK_e, gdA_e, skA_e, pkK_e]); simp (maxSteps := 10000000) (disch := omega) only [go_sem, ↓reduceIte, Nat.reduceEqDiff, Nat.reduceSub, Nat.reduceLeDiff, Nat.reduceAdd, Int.reduceEq, Int.reduceLT, Int.reduceLE]
  obtain ⟨l, e, hp⟩ := patchR_cases a s o
  obtain ⟨l', e', hc⟩ := cutR_cases a o
  (try simp only [brK_e, gdK_e, skK_e, gdA_e, skA_e, pkK_e]); simp (maxSteps := 10000000) (disch := omega) only [go_sem, ↓reduceIte, Nat.reduceEqDiff, Nat.reduceSub, Nat.reduceLeDiff, Nat.reduceAdd, Int.reduceEq, Int.reduceLT, Int.reduceLE]
  refine call_with (okPatch a s o) ?_
  (try simp only [brK_e, gdK_e, skK_e, gdA_e, skA_e, pkK_e]); simp (maxSteps := 10000000) (disch := omega) only [hp, go_sem, ↓reduceIte, Nat.reduceEqDiff, Nat.reduceSub, Nat.reduceLeDiff, Nat.reduceAdd, Int.reduceEq, Int.reduceLT, Int.reduceLE]
  refine call_with (okPatchR a s o (by omega)) ?_
  (try simp only [brK_e, gdK_e, skK_e, gdA_e, skA_e, pkK_e]); simp (maxSteps := 10000000) (disch := omega) only [hp, go_sem, ↓reduceIte, Nat.reduceEqDiff, Nat.reduceSub, Nat.reduceLeDiff, Nat.reduceAdd, Int.reduceEq, Int.reduceLT, Int.reduceLE]
  refine call_with (okCut a o (by omega)) ?_
  (try simp only [brK_e, gdK_e, skK_e, gdA_e, skA_e, pkK_e]); simp (maxSteps := 10000000) (disch := omega) only [hc, go_sem, ↓reduceIte, Nat.reduceEqDiff, Nat.reduceSub, Nat.reduceLeDiff, Nat.reduceAdd, Int.reduceEq, Int.reduceLT, Int.reduceLE]
  refine call_with (okCutR a o (by omega)) ?_
  (try simp only [brK_e, gdK_e, skK_e, gdA_e, skA_e, pkK_e]); simp (maxSteps := 10000000) (disch := omega) only [hc, go_sem, ↓reduceIte, Nat.reduceEqDiff, Nat.reduceSub, Nat.reduceLeDiff, Nat.reduceAdd, Int.reduceEq, Int.reduceLT, Int.reduceLE]
end Go.Proofs.Ytmeecblciegkkaa.Fw
