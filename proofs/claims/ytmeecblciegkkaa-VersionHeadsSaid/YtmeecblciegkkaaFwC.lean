/- Orders, control, loops and calls of the small language do in the model what their meaning tells. -/
import Derived.Test.YtmeecblciegkkaaFwB
import Derived.Scope
set_option linter.unusedVariables false
set_option linter.unusedSimpArgs false
set_option linter.unusedSectionVars false
namespace Go.Proofs.Ytmeecblciegkkaa.Fw
open Go.RowKit

mutual
theorem kill_comm (m n : Nat) : ∀ x : SV, (x.kill m).kill n = (x.kill n).kill m
  | .pv x => by simp only [SV.kill]
  | .vec k cs => by simp only [SV.kill]
  | .agg l => by simp only [SV.kill, killL_comm m n l]
  | .tup l => by simp only [SV.kill, killL_comm m n l]
  | .p k off => by simp only [SV.kill]; split <;> split <;> simp_all [SV.kill]
  | .ps k off => by simp only [SV.kill]; split <;> split <;> simp_all [SV.kill]
  | .pr k sz i off => by simp only [SV.kill]; split <;> split <;> simp_all [SV.kill]
  | .pi sz es i off => by simp only [SV.kill]
  | .os k => by simp only [SV.kill]; split <;> split <;> simp_all [SV.kill]
  | .ov k z a b => by simp only [SV.kill]; split <;> split <;> simp_all [SV.kill]
  | .fn f cap => by simp only [SV.kill, killL_comm m n cap]
  | .dead => by simp only [SV.kill]
theorem killL_comm (m n : Nat) : ∀ l : List SV, SV.killL n (SV.killL m l) = SV.killL m (SV.killL n l)
  | [] => by simp only [SV.killL]
  | x :: l => by simp only [SV.killL, kill_comm m n x, killL_comm m n l]
end
mutual
theorem kill_idem (n : Nat) : ∀ x : SV, (x.kill n).kill n = x.kill n
  | .pv x => by simp only [SV.kill]
  | .vec k cs => by simp only [SV.kill]
  | .agg l => by simp only [SV.kill, killL_idem n l]
  | .tup l => by simp only [SV.kill, killL_idem n l]
  | .p k off => by simp only [SV.kill]; split <;> simp_all [SV.kill]
  | .ps k off => by simp only [SV.kill]; split <;> simp_all [SV.kill]
  | .pr k sz i off => by simp only [SV.kill]; split <;> simp_all [SV.kill]
  | .pi sz es i off => by simp only [SV.kill]
  | .os k => by simp only [SV.kill]; split <;> simp_all [SV.kill]
  | .ov k z a b => by simp only [SV.kill]; split <;> simp_all [SV.kill]
  | .fn f cap => by simp only [SV.kill, killL_idem n cap]
  | .dead => by simp only [SV.kill]
theorem killL_idem (n : Nat) : ∀ l : List SV, SV.killL n (SV.killL n l) = SV.killL n l
  | [] => by simp only [SV.killL]
  | x :: l => by simp only [SV.killL, kill_idem n x, killL_idem n l]
end
theorem bkill_comm (m n : Nat) (b : Blk) : (b.kill m).kill n = (b.kill n).kill m := by
  cases b with
  | var x => simp only [Blk.kill, kill_comm m n x]
  | row sz es => rfl
  | rowc sz es c => rfl
theorem bkill_idem (n : Nat) (b : Blk) : (b.kill n).kill n = b.kill n := by
  cases b with
  | var x => simp only [Blk.kill, kill_idem n x]
  | row sz es => rfl
  | rowc sz es c => rfl
theorem FS.ext' {s s' : FS} (h1 : ∀ n, s.t n = s'.t n) (h2 : ∀ n, s.h n = s'.h n) : s = s' := by
  cases s; cases s'
  congr
  · exact funext h1
  · exact funext h2
theorem skill_comm (m n : Nat) (s : FS) : (s.kill m).kill n = (s.kill n).kill m := by
  refine FS.ext' (fun k => ?_) (fun k => ?_)
  · simp only [FS.kill, kill_comm m n]
  · simp only [FS.kill, Option.map_map]; cases s.h k <;> simp [bkill_comm m n]
theorem skill_idem (n : Nat) (s : FS) : (s.kill n).kill n = s.kill n := by
  refine FS.ext' (fun k => ?_) (fun k => ?_)
  · simp only [FS.kill, kill_idem n]
  · simp only [FS.kill, Option.map_map]; cases s.h k <;> simp [bkill_idem n]
theorem killD_mem {d : Nat} : ∀ {D : List Nat} {s : FS}, (d ∈ D ∨ s.kill d = s) → (killD D s).kill d = killD D s
  | [], s, h => by simpa [killD] using h
  | e :: D, s, h => by
    simp only [killD]
    apply killD_mem
    by_cases hd : d ∈ D
    · exact .inl hd
    · right
      by_cases he : d = e
      · subst he; exact skill_idem d s
      · have : s.kill d = s := by simpa [hd, he] using h
        rw [skill_comm, this]

mutual
/-- the names of what a value points to or owns -/
def tn : SV → List Nat
  | .p n _ => [n]
  | .ps n _ => [n]
  | .pr n _ _ _ => [n]
  | .os n => [n]
  | .ov n _ _ _ => [n]
  | .fn _ cap => tops cap
  | _ => []
def tops : List SV → List Nat
  | [] => []
  | x :: l => tn x ++ tops l
end
mutual
theorem tn_kill {d : Nat} : ∀ {x : SV}, x.kill d = x → d ∉ tn x
  | .p n o, h => by
    simp only [tn, List.mem_singleton]; intro e; subst e; simp [SV.kill] at h
  | .ps n o, h => by
    simp only [tn, List.mem_singleton]; intro e; subst e; simp [SV.kill] at h
  | .pr n z i o, h => by
    simp only [tn, List.mem_singleton]; intro e; subst e; simp [SV.kill] at h
  | .os n, h => by
    simp only [tn, List.mem_singleton]; intro e; subst e; simp [SV.kill] at h
  | .ov n z a b, h => by
    simp only [tn, List.mem_singleton]; intro e; subst e; simp [SV.kill] at h
  | .fn f cap, h => by
    simp only [SV.kill, SV.fn.injEq, true_and] at h
    simp only [tn]; exact tops_kill h
  | .pv _, _ => by simp [tn]
  | .vec _ _, _ => by simp [tn]
  | .agg _, _ => by simp [tn]
  | .tup _, _ => by simp [tn]
  | .pi _ _ _ _, _ => by simp [tn]
  | .dead, _ => by simp [tn]
theorem tops_kill {d : Nat} : ∀ {l : List SV}, SV.killL d l = l → d ∉ tops l
  | [], _ => by simp [tops]
  | x :: l, h => by
    simp only [SV.killL, List.cons.injEq] at h
    simp only [tops, List.mem_append, not_or]
    exact ⟨tn_kill h.1, tops_kill h.2⟩
end
theorem mem_tops {x : SV} {n : Nat} : ∀ {l : List SV}, x ∈ l → n ∈ tn x → n ∈ tops l
  | y :: l, h, hn => by
    simp only [tops, List.mem_append]
    rcases List.mem_cons.1 h with rfl | h
    · exact .inl hn
    · exact .inr (mem_tops h hn)
theorem tops_append : ∀ (a b : List SV), tops (a ++ b) = tops a ++ tops b
  | [], b => by simp [tops]
  | x :: a, b => by simp [tops, tops_append a b]
end Go.Proofs.Ytmeecblciegkkaa.Fw
namespace Go.Proofs.Ytmeecblciegkkaa.Fw
open Go.RowKit
/-- one outcome -/
def Ang (T : KK → Prop) : Prop := ∀ K, T K → ∃ x u, K x u ∧ ∀ K', K' x u → T K'
theorem Ang.and {p : Prop} {T : KK → Prop} (h : p → Ang T) : Ang fun K => p ∧ T K := fun K ⟨hp, hk⟩ => by
  obtain ⟨x, u, h1, h2⟩ := h hp K hk
  exact ⟨x, u, h1, fun K' k => ⟨hp, h2 K' k⟩⟩
theorem ang_load {c off size ag} : Ang (LoadK c off size ag) := by
  intro K h
  cases c with
  | none => exact h.elim
  | some cs => exact ⟨_, _, h.2.2, fun _ k => ⟨h.1, h.2.1, k⟩⟩
theorem ang_bytes {es} : Ang (BytesK es) := fun K ⟨l, h1, h2⟩ => ⟨_, _, h2, fun _ k => ⟨l, h1, k⟩⟩

theorem ang_binI {op k k' a b} : Ang (binI op k k' a b) := by
  intro K h
  cases op <;> simp only [binI] at h ⊢ <;> (first | exact h.elim | exact ⟨_, _, h, fun _ k => k⟩ | exact ⟨_, _, h.2, fun _ k => ⟨h.1, k⟩⟩ | exact ⟨_, _, h.2.2, fun _ k => ⟨h.1, h.2.1, k⟩⟩ | exact ⟨_, _, h.2.2.2, fun _ k => ⟨h.1, h.2.1, h.2.2.1, k⟩⟩ | exact ⟨_, _, h.2.2.2.2, fun _ k => ⟨h.1, h.2.1, h.2.2.1, h.2.2.2.1, k⟩⟩)
theorem ang_binS {op a b} : Ang (binS op a b) := by
  intro K h
  cases op <;> simp only [binS] at h ⊢ <;> (first | exact h.elim | exact ⟨_, _, h, fun _ k => k⟩ | exact ⟨_, _, h.2, fun _ k => ⟨h.1, k⟩⟩ | exact ⟨_, _, h.2.2, fun _ k => ⟨h.1, h.2.1, k⟩⟩ | exact ⟨_, _, h.2.2.2, fun _ k => ⟨h.1, h.2.1, h.2.2.1, k⟩⟩ | exact ⟨_, _, h.2.2.2.2, fun _ k => ⟨h.1, h.2.1, h.2.2.1, h.2.2.2.1, k⟩⟩)
theorem ang_binB {op a b} : Ang (binB op a b) := by
  intro K h
  cases op <;> simp only [binB] at h ⊢ <;> (first | exact h.elim | exact ⟨_, _, h, fun _ k => k⟩ | exact ⟨_, _, h.2, fun _ k => ⟨h.1, k⟩⟩ | exact ⟨_, _, h.2.2, fun _ k => ⟨h.1, h.2.1, k⟩⟩ | exact ⟨_, _, h.2.2.2, fun _ k => ⟨h.1, h.2.1, h.2.2.1, k⟩⟩ | exact ⟨_, _, h.2.2.2.2, fun _ k => ⟨h.1, h.2.1, h.2.2.1, h.2.2.2.1, k⟩⟩)
theorem ang_binSem {op x y} : Ang (binSem op x y) := by
  intro K h
  unfold binSem at h ⊢
  split at h
  · exact ang_binI K h
  · exact ang_binS K h
  · exact h.elim
theorem ang_unSem {op x} : Ang (unSem op x) := by
  intro K h
  unfold unSem at h ⊢
  split at h
  · cases op <;> simp only at h ⊢ <;> (first | exact h.elim | exact ⟨_, _, h, fun _ k => k⟩ | exact ⟨_, _, h.2, fun _ k => ⟨h.1, k⟩⟩ | exact ⟨_, _, h.2.2, fun _ k => ⟨h.1, h.2.1, k⟩⟩ | exact ⟨_, _, h.2.2.2, fun _ k => ⟨h.1, h.2.1, h.2.2.1, k⟩⟩ | exact ⟨_, _, h.2.2.2.2, fun _ k => ⟨h.1, h.2.1, h.2.2.1, h.2.2.2.1, k⟩⟩)
  · cases op <;> simp only at h ⊢ <;> (first | exact h.elim | exact ⟨_, _, h, fun _ k => k⟩ | exact ⟨_, _, h.2, fun _ k => ⟨h.1, k⟩⟩ | exact ⟨_, _, h.2.2, fun _ k => ⟨h.1, h.2.1, k⟩⟩ | exact ⟨_, _, h.2.2.2, fun _ k => ⟨h.1, h.2.1, h.2.2.1, k⟩⟩ | exact ⟨_, _, h.2.2.2.2, fun _ k => ⟨h.1, h.2.1, h.2.2.1, h.2.2.2.1, k⟩⟩)
  · exact h.elim
theorem ang_pickSem {c x y} : Ang (pickSem c x y) := by
  intro K h
  unfold pickSem at h ⊢
  split at h <;> (first | exact h.elim | exact ⟨_, _, h, fun _ k => k⟩ | exact ⟨_, _, h.2, fun _ k => ⟨h.1, k⟩⟩ | exact ⟨_, _, h.2.2, fun _ k => ⟨h.1, h.2.1, k⟩⟩ | exact ⟨_, _, h.2.2.2, fun _ k => ⟨h.1, h.2.1, h.2.2.1, k⟩⟩ | exact ⟨_, _, h.2.2.2.2, fun _ k => ⟨h.1, h.2.1, h.2.2.1, h.2.2.2.1, k⟩⟩)
theorem ang_mkOr {o ag c off size} : Ang (mkOr o ag c off size) := by
  intro K h
  unfold mkOr at h ⊢
  split at h
  · first | exact h.elim | exact ⟨_, _, h, fun _ k => k⟩ | exact ⟨_, _, h.2, fun _ k => ⟨h.1, k⟩⟩ | exact ⟨_, _, h.2.2, fun _ k => ⟨h.1, h.2.1, k⟩⟩ | exact ⟨_, _, h.2.2.2, fun _ k => ⟨h.1, h.2.1, h.2.2.1, k⟩⟩ | exact ⟨_, _, h.2.2.2.2, fun _ k => ⟨h.1, h.2.1, h.2.2.1, h.2.2.2.1, k⟩⟩
  · exact ang_load K h
theorem ang_ldVar {x off size ag} : Ang (ldVar x off size ag) := ang_mkOr
theorem ang_ldV {o off size ag} : Ang (ldV o off size ag) := by
  intro K h
  unfold ldV at h ⊢
  split at h
  · exact ang_ldVar K h
  · exact h.elim
theorem ang_ldS {o off size ag} : Ang (ldS o off size ag) := by
  intro K h
  unfold ldS at h ⊢
  split at h
  · exact ang_load K h
  · exact h.elim
theorem ang_ldR {o sz i off size ag} : Ang (ldR o sz i off size ag) := by
  intro K h
  unfold ldR at h ⊢
  split at h
  · exact Ang.and (fun _ => ang_load) K h
  · exact h.elim
theorem ang_ldSem {h0 size ag x} : Ang (ldSem h0 size ag x) := by
  intro K h
  unfold ldSem at h ⊢
  split at h
  · exact ang_ldV K h
  · exact ang_ldS K h
  · exact ang_ldR K h
  · exact ang_load K h
  · exact h.elim
theorem ang_stCells {n w e size a b} : Ang (stCells n w e size a b) := by
  intro K h
  unfold stCells at h ⊢
  split at h <;> (first | exact h.elim | exact ⟨_, _, h, fun _ k => k⟩ | exact ⟨_, _, h.2, fun _ k => ⟨h.1, k⟩⟩ | exact ⟨_, _, h.2.2, fun _ k => ⟨h.1, h.2.1, k⟩⟩ | exact ⟨_, _, h.2.2.2, fun _ k => ⟨h.1, h.2.1, h.2.2.1, k⟩⟩ | exact ⟨_, _, h.2.2.2.2, fun _ k => ⟨h.1, h.2.1, h.2.2.1, h.2.2.2.1, k⟩⟩)
theorem ang_stSpl {o n w off size a b} : Ang (stSpl o n w off size a b) := by
  intro K h
  unfold stSpl at h ⊢
  split at h
  · first | exact h.elim | exact ⟨_, _, h, fun _ k => k⟩ | exact ⟨_, _, h.2, fun _ k => ⟨h.1, k⟩⟩ | exact ⟨_, _, h.2.2, fun _ k => ⟨h.1, h.2.1, k⟩⟩ | exact ⟨_, _, h.2.2.2, fun _ k => ⟨h.1, h.2.1, h.2.2.1, k⟩⟩ | exact ⟨_, _, h.2.2.2.2, fun _ k => ⟨h.1, h.2.1, h.2.2.1, h.2.2.2.1, k⟩⟩
  · exact ang_stCells K h
theorem ang_stVar {n x off size y} : Ang (stVar n x off size y) := by
  intro K h
  unfold stVar at h ⊢
  split at h
  · rename_i e
    simp only [e, and_self, if_true]
    first | exact h.elim | exact ⟨_, _, h, fun _ k => k⟩ | exact ⟨_, _, h.2, fun _ k => ⟨h.1, k⟩⟩ | exact ⟨_, _, h.2.2, fun _ k => ⟨h.1, h.2.1, k⟩⟩ | exact ⟨_, _, h.2.2.2, fun _ k => ⟨h.1, h.2.1, h.2.2.1, k⟩⟩ | exact ⟨_, _, h.2.2.2.2, fun _ k => ⟨h.1, h.2.1, h.2.2.1, h.2.2.2.1, k⟩⟩
  · rename_i e
    simp only [e, if_false]
    exact ang_stSpl K h
theorem ang_stV {o n off size y} : Ang (stV o n off size y) := by
  intro K h
  unfold stV at h ⊢
  split at h
  · exact Ang.and (fun _ => Ang.and fun _ => ang_stVar) K h
  · exact h.elim
theorem ang_stS {o n e size y} : Ang (stS o n e size y) := by
  intro K h
  unfold stS at h ⊢
  split at h
  · exact Ang.and (fun _ => Ang.and fun _ => ang_stCells) K h
  · exact h.elim
theorem ang_stGive {o n sz i off size es} : Ang (stGive o n sz i off size es) := by
  intro K h
  unfold stGive at h ⊢
  split at h <;> (first | exact h.elim | exact ⟨_, _, h, fun _ k => k⟩ | exact ⟨_, _, h.2, fun _ k => ⟨h.1, k⟩⟩ | exact ⟨_, _, h.2.2, fun _ k => ⟨h.1, h.2.1, k⟩⟩ | exact ⟨_, _, h.2.2.2, fun _ k => ⟨h.1, h.2.1, h.2.2.1, k⟩⟩ | exact ⟨_, _, h.2.2.2.2, fun _ k => ⟨h.1, h.2.1, h.2.2.1, h.2.2.2.1, k⟩⟩)
theorem ang_stR {o n sz i off size y} : Ang (stR o n sz i off size y) := by
  intro K h
  unfold stR at h ⊢
  split at h
  · exact Ang.and (fun _ => Ang.and fun _ => Ang.and fun _ => ang_stGive) K h
  · exact h.elim
theorem ang_stSem {h0 size x y} : Ang (stSem h0 size x y) := by
  intro K h
  unfold stSem at h ⊢
  split at h
  · exact ang_stV K h
  · exact ang_stS K h
  · exact ang_stR K h
  · exact h.elim
theorem ang_slcV {x o sz0 hi mx i j m es} : Ang (slcV x o sz0 hi mx i j m es) := by
  intro K h
  unfold slcV at h ⊢
  split at h
  · first | exact h.elim | exact ⟨_, _, h, fun _ k => k⟩ | exact ⟨_, _, h.2, fun _ k => ⟨h.1, k⟩⟩ | exact ⟨_, _, h.2.2, fun _ k => ⟨h.1, h.2.1, k⟩⟩ | exact ⟨_, _, h.2.2.2, fun _ k => ⟨h.1, h.2.1, h.2.2.1, k⟩⟩ | exact ⟨_, _, h.2.2.2.2, fun _ k => ⟨h.1, h.2.1, h.2.2.1, h.2.2.2.1, k⟩⟩
  · split at h
    · first | exact h.elim | exact ⟨_, _, h, fun _ k => k⟩ | exact ⟨_, _, h.2, fun _ k => ⟨h.1, k⟩⟩ | exact ⟨_, _, h.2.2, fun _ k => ⟨h.1, h.2.1, k⟩⟩ | exact ⟨_, _, h.2.2.2, fun _ k => ⟨h.1, h.2.1, h.2.2.1, k⟩⟩ | exact ⟨_, _, h.2.2.2.2, fun _ k => ⟨h.1, h.2.1, h.2.2.1, h.2.2.2.1, k⟩⟩
    · exact h.elim
  · exact h.elim
theorem ang_slc4 {x h0 sz0 hi mx es i j o} : Ang (slc4 x h0 sz0 hi mx es i j o) := by
  intro K h
  unfold slc4 at h ⊢
  split at h
  · exact Ang.and (fun _ => Ang.and fun _ => Ang.and fun _ => Ang.and fun _ => ang_slcV) K h
  · exact h.elim
theorem ang_slc3 {x h0 sz0 hi mx es i o} : Ang (slc3 x h0 sz0 hi mx es i o) := by
  intro K h
  unfold slc3 at h ⊢
  split at h
  · exact ang_slc4 K h
  · exact h.elim
theorem ang_slc2 {x h0 sz0 hi mx es o} : Ang (slc2 x h0 sz0 hi mx es o) := by
  intro K h
  unfold slc2 at h ⊢
  split at h
  · exact ang_slc3 K h
  · exact h.elim
theorem ang_slc1 {x h0 sz0 lo hi mx l o} : Ang (slc1 x h0 sz0 lo hi mx l o) := by
  intro K h
  unfold slc1 at h ⊢
  split at h
  · exact ang_slc2 K h
  · exact h.elim
theorem ang_sls3 {s i o} : Ang (sls3 s i o) := by
  intro K h
  unfold sls3 at h ⊢
  split at h <;> (first | exact h.elim | exact ⟨_, _, h, fun _ k => k⟩ | exact ⟨_, _, h.2, fun _ k => ⟨h.1, k⟩⟩ | exact ⟨_, _, h.2.2, fun _ k => ⟨h.1, h.2.1, k⟩⟩ | exact ⟨_, _, h.2.2.2, fun _ k => ⟨h.1, h.2.1, h.2.2.1, k⟩⟩ | exact ⟨_, _, h.2.2.2.2, fun _ k => ⟨h.1, h.2.1, h.2.2.1, h.2.2.2.1, k⟩⟩)
theorem ang_sls2 {hi s o} : Ang (sls2 hi s o) := by
  intro K h
  unfold sls2 at h ⊢
  split at h
  · exact ang_sls3 K h
  · exact h.elim
theorem ang_appRow {o e z d sz bytes n} : Ang (appRow o e z d sz bytes n) := by
  intro K h
  unfold appRow at h ⊢
  split at h <;> (first | exact h.elim | exact ⟨_, _, h, fun _ k => k⟩ | exact ⟨_, _, h.2, fun _ k => ⟨h.1, k⟩⟩ | exact ⟨_, _, h.2.2, fun _ k => ⟨h.1, h.2.1, k⟩⟩ | exact ⟨_, _, h.2.2.2, fun _ k => ⟨h.1, h.2.1, h.2.2.1, k⟩⟩ | exact ⟨_, _, h.2.2.2.2, fun _ k => ⟨h.1, h.2.1, h.2.2.1, h.2.2.2.1, k⟩⟩)
theorem ang_appSl {z' es e z d sz bytes} : Ang (appSl z' es e z d sz bytes) := by
  intro K h
  unfold appSl at h ⊢
  split at h <;> (first | exact h.elim | exact ⟨_, _, h, fun _ k => k⟩ | exact ⟨_, _, h.2, fun _ k => ⟨h.1, k⟩⟩ | exact ⟨_, _, h.2.2, fun _ k => ⟨h.1, h.2.1, k⟩⟩ | exact ⟨_, _, h.2.2.2, fun _ k => ⟨h.1, h.2.1, h.2.2.1, k⟩⟩ | exact ⟨_, _, h.2.2.2.2, fun _ k => ⟨h.1, h.2.1, h.2.2.1, h.2.2.2.1, k⟩⟩)
theorem ang_appSem {h0 d sz bytes x y} : Ang (appSem h0 d sz bytes x y) := by
  intro K h
  unfold appSem at h ⊢
  split at h
  · exact ang_appRow K h
  · exact ang_appSl K h
  · exact h.elim
theorem ang_faSem {off x} : Ang (faSem off x) := by
  intro K h
  unfold faSem at h ⊢
  split at h <;> (first | exact h.elim | exact ⟨_, _, h, fun _ k => k⟩ | exact ⟨_, _, h.2, fun _ k => ⟨h.1, k⟩⟩ | exact ⟨_, _, h.2.2, fun _ k => ⟨h.1, h.2.1, k⟩⟩ | exact ⟨_, _, h.2.2.2, fun _ k => ⟨h.1, h.2.1, h.2.2.1, k⟩⟩ | exact ⟨_, _, h.2.2.2.2, fun _ k => ⟨h.1, h.2.1, h.2.2.1, h.2.2.2.1, k⟩⟩)
theorem ang_iaSem {len stride j x} : Ang (iaSem len stride j x) := by
  intro K h
  unfold iaSem at h ⊢
  split at h <;> (first | exact h.elim | exact ⟨_, _, h, fun _ k => k⟩ | exact ⟨_, _, h.2, fun _ k => ⟨h.1, k⟩⟩ | exact ⟨_, _, h.2.2, fun _ k => ⟨h.1, h.2.1, k⟩⟩ | exact ⟨_, _, h.2.2.2, fun _ k => ⟨h.1, h.2.1, h.2.2.1, k⟩⟩ | exact ⟨_, _, h.2.2.2.2, fun _ k => ⟨h.1, h.2.1, h.2.2.1, h.2.2.2.1, k⟩⟩)
theorem ang_iaSrow {o sz j n} : Ang (iaSrow o sz j n) := by
  intro K h
  unfold iaSrow at h ⊢
  split at h <;> (first | exact h.elim | exact ⟨_, _, h, fun _ k => k⟩ | exact ⟨_, _, h.2, fun _ k => ⟨h.1, k⟩⟩ | exact ⟨_, _, h.2.2, fun _ k => ⟨h.1, h.2.1, k⟩⟩ | exact ⟨_, _, h.2.2.2, fun _ k => ⟨h.1, h.2.1, h.2.2.1, k⟩⟩ | exact ⟨_, _, h.2.2.2.2, fun _ k => ⟨h.1, h.2.1, h.2.2.1, h.2.2.2.1, k⟩⟩)
theorem ang_iaSSem {h0 sz j x} : Ang (iaSSem h0 sz j x) := by
  intro K h
  unfold iaSSem at h ⊢
  split at h
  · first | exact h.elim | exact ⟨_, _, h, fun _ k => k⟩ | exact ⟨_, _, h.2, fun _ k => ⟨h.1, k⟩⟩ | exact ⟨_, _, h.2.2, fun _ k => ⟨h.1, h.2.1, k⟩⟩ | exact ⟨_, _, h.2.2.2, fun _ k => ⟨h.1, h.2.1, h.2.2.1, k⟩⟩ | exact ⟨_, _, h.2.2.2.2, fun _ k => ⟨h.1, h.2.1, h.2.2.1, h.2.2.2.1, k⟩⟩
  · exact ang_iaSrow K h
  · exact h.elim
theorem ang_mxSem {big x y} : Ang (mxSem big x y) := by
  intro K h
  unfold mxSem at h ⊢
  split at h <;> (first | exact h.elim | exact ⟨_, _, h, fun _ k => k⟩ | exact ⟨_, _, h.2, fun _ k => ⟨h.1, k⟩⟩ | exact ⟨_, _, h.2.2, fun _ k => ⟨h.1, h.2.1, k⟩⟩ | exact ⟨_, _, h.2.2.2, fun _ k => ⟨h.1, h.2.1, h.2.2.1, k⟩⟩ | exact ⟨_, _, h.2.2.2.2, fun _ k => ⟨h.1, h.2.1, h.2.2.1, h.2.2.2.1, k⟩⟩)
theorem ang_bldVSem {n o} : Ang (bldVSem n o) := by
  intro K h
  unfold bldVSem at h ⊢
  split at h <;> (first | exact h.elim | exact ⟨_, _, h, fun _ k => k⟩ | exact ⟨_, _, h.2, fun _ k => ⟨h.1, k⟩⟩ | exact ⟨_, _, h.2.2, fun _ k => ⟨h.1, h.2.1, k⟩⟩ | exact ⟨_, _, h.2.2.2, fun _ k => ⟨h.1, h.2.1, h.2.2.1, k⟩⟩ | exact ⟨_, _, h.2.2.2.2, fun _ k => ⟨h.1, h.2.1, h.2.2.1, h.2.2.2.1, k⟩⟩)
theorem ang_bslSem {d sz o} : Ang (bslSem d sz o) := by
  intro K h
  unfold bslSem at h ⊢
  split at h <;> (first | exact h.elim | exact ⟨_, _, h, fun _ k => k⟩ | exact ⟨_, _, h.2, fun _ k => ⟨h.1, k⟩⟩ | exact ⟨_, _, h.2.2, fun _ k => ⟨h.1, h.2.1, k⟩⟩ | exact ⟨_, _, h.2.2.2, fun _ k => ⟨h.1, h.2.1, h.2.2.1, k⟩⟩ | exact ⟨_, _, h.2.2.2.2, fun _ k => ⟨h.1, h.2.1, h.2.2.1, h.2.2.2.1, k⟩⟩)
theorem ang_eqvSem {g ks a b} : Ang (eqvSem g ks a b) := by
  intro K h
  unfold eqvSem at h ⊢
  split at h <;> (first | exact h.elim | exact ⟨_, _, h, fun _ k => k⟩ | exact ⟨_, _, h.2, fun _ k => ⟨h.1, k⟩⟩ | exact ⟨_, _, h.2.2, fun _ k => ⟨h.1, h.2.1, k⟩⟩ | exact ⟨_, _, h.2.2.2, fun _ k => ⟨h.1, h.2.1, h.2.2.1, k⟩⟩ | exact ⟨_, _, h.2.2.2.2, fun _ k => ⟨h.1, h.2.1, h.2.2.1, h.2.2.2.1, k⟩⟩)
theorem ang_lenSem {o} : Ang (lenSem o) := by
  intro K h
  unfold lenSem at h ⊢
  split at h <;> (first | exact h.elim | exact ⟨_, _, h, fun _ k => k⟩ | exact ⟨_, _, h.2, fun _ k => ⟨h.1, k⟩⟩ | exact ⟨_, _, h.2.2, fun _ k => ⟨h.1, h.2.1, k⟩⟩ | exact ⟨_, _, h.2.2.2, fun _ k => ⟨h.1, h.2.1, h.2.2.1, k⟩⟩ | exact ⟨_, _, h.2.2.2.2, fun _ k => ⟨h.1, h.2.1, h.2.2.1, h.2.2.2.1, k⟩⟩)
theorem ang_b2sSem {o} : Ang (b2sSem o) := by
  intro K h
  unfold b2sSem at h ⊢
  split at h
  · exact ang_bytes K h
  · exact h.elim
theorem ang_b2bSem {o n} : Ang (b2bSem o n) := by
  intro K h
  unfold b2bSem at h ⊢
  split at h <;> (first | exact h.elim | exact ⟨_, _, h, fun _ k => k⟩ | exact ⟨_, _, h.2, fun _ k => ⟨h.1, k⟩⟩ | exact ⟨_, _, h.2.2, fun _ k => ⟨h.1, h.2.1, k⟩⟩ | exact ⟨_, _, h.2.2.2, fun _ k => ⟨h.1, h.2.1, h.2.2.1, k⟩⟩ | exact ⟨_, _, h.2.2.2.2, fun _ k => ⟨h.1, h.2.1, h.2.2.1, h.2.2.2.1, k⟩⟩)
theorem ang_extK {o} : Ang (extK o) := by
  intro K h
  unfold extK at h ⊢
  split at h <;> (first | exact h.elim | exact ⟨_, _, h, fun _ k => k⟩ | exact ⟨_, _, h.2, fun _ k => ⟨h.1, k⟩⟩ | exact ⟨_, _, h.2.2, fun _ k => ⟨h.1, h.2.1, k⟩⟩ | exact ⟨_, _, h.2.2.2, fun _ k => ⟨h.1, h.2.1, h.2.2.1, k⟩⟩ | exact ⟨_, _, h.2.2.2.2, fun _ k => ⟨h.1, h.2.1, h.2.2.1, h.2.2.2.1, k⟩⟩)
theorem ang_cpyRow {o n sz lo hi e z} : Ang (cpyRow o n sz lo hi e z) := by
  intro K h
  unfold cpyRow at h ⊢
  split at h <;> (first | exact h.elim | exact ⟨_, _, h, fun _ k => k⟩ | exact ⟨_, _, h.2, fun _ k => ⟨h.1, k⟩⟩ | exact ⟨_, _, h.2.2, fun _ k => ⟨h.1, h.2.1, k⟩⟩ | exact ⟨_, _, h.2.2.2, fun _ k => ⟨h.1, h.2.1, h.2.2.1, k⟩⟩ | exact ⟨_, _, h.2.2.2.2, fun _ k => ⟨h.1, h.2.1, h.2.2.1, h.2.2.2.1, k⟩⟩)
theorem ang_apzRow {o d sz bytes z hi m} : Ang (apzRow o d sz bytes z hi m) := by
  intro K h
  unfold apzRow at h ⊢
  split at h <;> (first | exact h.elim | exact ⟨_, _, h, fun _ k => k⟩ | exact ⟨_, _, h.2, fun _ k => ⟨h.1, k⟩⟩ | exact ⟨_, _, h.2.2, fun _ k => ⟨h.1, h.2.1, k⟩⟩ | exact ⟨_, _, h.2.2.2, fun _ k => ⟨h.1, h.2.1, h.2.2.1, k⟩⟩ | exact ⟨_, _, h.2.2.2.2, fun _ k => ⟨h.1, h.2.1, h.2.2.1, h.2.2.2.1, k⟩⟩)
theorem ang_slv3 {n sz len i o} : Ang (slv3 n sz len i o) := by
  intro K h
  unfold slv3 at h ⊢
  split at h <;> (first | exact h.elim | exact ⟨_, _, h, fun _ k => k⟩ | exact ⟨_, _, h.2, fun _ k => ⟨h.1, k⟩⟩ | exact ⟨_, _, h.2.2, fun _ k => ⟨h.1, h.2.1, k⟩⟩ | exact ⟨_, _, h.2.2.2, fun _ k => ⟨h.1, h.2.1, h.2.2.1, k⟩⟩ | exact ⟨_, _, h.2.2.2.2, fun _ k => ⟨h.1, h.2.1, h.2.2.1, h.2.2.2.1, k⟩⟩)
theorem ang_cpySem {h0 sz x y} : Ang (cpySem h0 sz x y) := by
  intro K h
  unfold cpySem at h ⊢
  split at h
  · exact ang_cpyRow K h
  · exact Ang.and (fun _ => ang_cpyRow) K h
  · exact h.elim
theorem ang_apzSem {h0 d sz bytes z m x} : Ang (apzSem h0 d sz bytes z m x) := by
  intro K h
  unfold apzSem at h ⊢
  split at h
  · exact Ang.and (fun _ => ang_apzRow) K h
  · exact h.elim
theorem ang_slv2 {n sz hi e z o} : Ang (slv2 n sz hi e z o) := by
  intro K h
  unfold slv2 at h ⊢
  split at h
  · exact Ang.and (fun _ => ang_slv3) K h
  · exact h.elim
theorem ang_slvSem {h0 sz lo hi x l} : Ang (slvSem h0 sz lo hi x l) := by
  intro K h
  unfold slvSem at h ⊢
  split at h
  · exact ang_slv2 K h
  · exact ang_slc1 K h
  · exact h.elim
theorem ang_op {d h0 k l} (hnd : nd k = false) : Ang (opSem d h0 k l) := by
  intro K h
  cases k <;> simp only [opSem] at h ⊢
  case mv => split at h <;> (first | exact h.elim | exact ⟨_, _, h, fun _ k => k⟩ | exact ⟨_, _, h.2, fun _ k => ⟨h.1, k⟩⟩ | exact ⟨_, _, h.2.2, fun _ k => ⟨h.1, h.2.1, k⟩⟩ | exact ⟨_, _, h.2.2.2, fun _ k => ⟨h.1, h.2.1, h.2.2.1, k⟩⟩ | exact ⟨_, _, h.2.2.2.2, fun _ k => ⟨h.1, h.2.1, h.2.2.1, h.2.2.2.1, k⟩⟩)
  case box => split at h <;> (first | exact h.elim | exact ⟨_, _, h, fun _ k => k⟩ | exact ⟨_, _, h.2, fun _ k => ⟨h.1, k⟩⟩ | exact ⟨_, _, h.2.2, fun _ k => ⟨h.1, h.2.1, k⟩⟩ | exact ⟨_, _, h.2.2.2, fun _ k => ⟨h.1, h.2.1, h.2.2.1, k⟩⟩ | exact ⟨_, _, h.2.2.2.2, fun _ k => ⟨h.1, h.2.1, h.2.2.1, h.2.2.2.1, k⟩⟩)
  case cvI => split at h <;> (first | exact h.elim | exact ⟨_, _, h, fun _ k => k⟩ | exact ⟨_, _, h.2, fun _ k => ⟨h.1, k⟩⟩ | exact ⟨_, _, h.2.2, fun _ k => ⟨h.1, h.2.1, k⟩⟩ | exact ⟨_, _, h.2.2.2, fun _ k => ⟨h.1, h.2.1, h.2.2.1, k⟩⟩ | exact ⟨_, _, h.2.2.2.2, fun _ k => ⟨h.1, h.2.1, h.2.2.1, h.2.2.2.1, k⟩⟩)
  case cvS => split at h <;> (first | exact h.elim | exact ⟨_, _, h, fun _ k => k⟩ | exact ⟨_, _, h.2, fun _ k => ⟨h.1, k⟩⟩ | exact ⟨_, _, h.2.2, fun _ k => ⟨h.1, h.2.1, k⟩⟩ | exact ⟨_, _, h.2.2.2, fun _ k => ⟨h.1, h.2.1, h.2.2.1, k⟩⟩ | exact ⟨_, _, h.2.2.2.2, fun _ k => ⟨h.1, h.2.1, h.2.2.1, h.2.2.2.1, k⟩⟩)
  case s2b => split at h <;> (first | exact h.elim | exact ⟨_, _, h, fun _ k => k⟩ | exact ⟨_, _, h.2, fun _ k => ⟨h.1, k⟩⟩ | exact ⟨_, _, h.2.2, fun _ k => ⟨h.1, h.2.1, k⟩⟩ | exact ⟨_, _, h.2.2.2, fun _ k => ⟨h.1, h.2.1, h.2.2.1, k⟩⟩ | exact ⟨_, _, h.2.2.2.2, fun _ k => ⟨h.1, h.2.1, h.2.2.1, h.2.2.2.1, k⟩⟩)
  case mks => split at h <;> (first | exact h.elim | exact ⟨_, _, h, fun _ k => k⟩ | exact ⟨_, _, h.2, fun _ k => ⟨h.1, k⟩⟩ | exact ⟨_, _, h.2.2, fun _ k => ⟨h.1, h.2.1, k⟩⟩ | exact ⟨_, _, h.2.2.2, fun _ k => ⟨h.1, h.2.1, h.2.2.1, k⟩⟩ | exact ⟨_, _, h.2.2.2.2, fun _ k => ⟨h.1, h.2.1, h.2.2.1, h.2.2.2.1, k⟩⟩)
  case lenS => split at h <;> (first | exact h.elim | exact ⟨_, _, h, fun _ k => k⟩ | exact ⟨_, _, h.2, fun _ k => ⟨h.1, k⟩⟩ | exact ⟨_, _, h.2.2, fun _ k => ⟨h.1, h.2.1, k⟩⟩ | exact ⟨_, _, h.2.2.2, fun _ k => ⟨h.1, h.2.1, h.2.2.1, k⟩⟩ | exact ⟨_, _, h.2.2.2.2, fun _ k => ⟨h.1, h.2.1, h.2.2.1, h.2.2.2.1, k⟩⟩)
  case ixS => split at h <;> (first | exact h.elim | exact ⟨_, _, h, fun _ k => k⟩ | exact ⟨_, _, h.2, fun _ k => ⟨h.1, k⟩⟩ | exact ⟨_, _, h.2.2, fun _ k => ⟨h.1, h.2.1, k⟩⟩ | exact ⟨_, _, h.2.2.2, fun _ k => ⟨h.1, h.2.1, h.2.2.1, k⟩⟩ | exact ⟨_, _, h.2.2.2.2, fun _ k => ⟨h.1, h.2.1, h.2.2.1, h.2.2.2.1, k⟩⟩)
  case nilc => split at h <;> (first | exact h.elim | exact ⟨_, _, h, fun _ k => k⟩ | exact ⟨_, _, h.2, fun _ k => ⟨h.1, k⟩⟩ | exact ⟨_, _, h.2.2, fun _ k => ⟨h.1, h.2.1, k⟩⟩ | exact ⟨_, _, h.2.2.2, fun _ k => ⟨h.1, h.2.1, h.2.2.1, k⟩⟩ | exact ⟨_, _, h.2.2.2.2, fun _ k => ⟨h.1, h.2.1, h.2.2.1, h.2.2.2.1, k⟩⟩)
  case new => first | exact h.elim | exact ⟨_, _, h, fun _ k => k⟩ | exact ⟨_, _, h.2, fun _ k => ⟨h.1, k⟩⟩ | exact ⟨_, _, h.2.2, fun _ k => ⟨h.1, h.2.1, k⟩⟩ | exact ⟨_, _, h.2.2.2, fun _ k => ⟨h.1, h.2.1, h.2.2.1, k⟩⟩ | exact ⟨_, _, h.2.2.2.2, fun _ k => ⟨h.1, h.2.1, h.2.2.1, h.2.2.2.1, k⟩⟩
  case mkf => first | exact h.elim | exact ⟨_, _, h, fun _ k => k⟩ | exact ⟨_, _, h.2, fun _ k => ⟨h.1, k⟩⟩ | exact ⟨_, _, h.2.2, fun _ k => ⟨h.1, h.2.1, k⟩⟩ | exact ⟨_, _, h.2.2.2, fun _ k => ⟨h.1, h.2.1, h.2.2.1, k⟩⟩ | exact ⟨_, _, h.2.2.2.2, fun _ k => ⟨h.1, h.2.1, h.2.2.1, h.2.2.2.1, k⟩⟩
  case pick => split at h; exact ang_pickSem K h; exact h.elim
  case ld => split at h; exact ang_ldSem K h; exact h.elim
  case sto => split at h; exact ang_stSem K h; exact h.elim
  case bin => split at h; exact ang_binSem K h; exact h.elim
  case binB => split at h; exact ang_binB K h; exact h.elim
  case un => split at h; exact ang_unSem K h; exact h.elim
  case slc => split at h; exact ang_slc1 K h; exact h.elim
  case sls => split at h; exact ang_sls2 K h; exact h.elim
  case fa => split at h; exact ang_faSem K h; exact h.elim
  case iaC => split at h; exact ang_faSem K h; exact h.elim
  case iaS => split at h; exact ang_iaSSem K h; exact h.elim
  case iaA => split at h; exact ang_iaSem K h; exact h.elim
  case ext => split at h; exact ang_extK K h; exact h.elim
  case app => split at h; exact ang_appSem K h; exact h.elim
  case mx => split at h; exact ang_mxSem K h; exact h.elim
  case mn => split at h; exact ang_mxSem K h; exact h.elim
  case b2b => split at h; exact ang_b2bSem K h; exact h.elim
  case cpy => split at h; exact ang_cpySem K h; exact h.elim
  case apz => split at h; exact ang_apzSem K h; exact h.elim
  case slv => split at h; exact ang_slvSem K h; exact h.elim
  case bld => first | exact h.elim | exact ⟨_, _, h, fun _ k => k⟩ | exact ⟨_, _, h.2, fun _ k => ⟨h.1, k⟩⟩ | exact ⟨_, _, h.2.2, fun _ k => ⟨h.1, h.2.1, k⟩⟩ | exact ⟨_, _, h.2.2.2, fun _ k => ⟨h.1, h.2.1, h.2.2.1, k⟩⟩ | exact ⟨_, _, h.2.2.2.2, fun _ k => ⟨h.1, h.2.1, h.2.2.1, h.2.2.2.1, k⟩⟩
  case bldV => exact Ang.and (fun _ => ang_bldVSem) K h
  case bsl => exact ang_bslSem K h
  case eqv => split at h; exact Ang.and (fun _ => Ang.and fun _ => ang_eqvSem) K h; exact h.elim
  case b2s => split at h; exact ang_b2sSem K h; exact ang_b2sSem K h; exact h.elim
  case len => split at h; exact ang_lenSem K h; exact ang_lenSem K h; exact h.elim
  case fld => split at h; exact Ang.and (fun _ => ang_ldVar) K h; exact h.elim
  case ixA => split at h; exact Ang.and (fun _ => Ang.and fun _ => Ang.and fun _ => ang_load) K h; exact h.elim
  case eqn => simp [nd] at hnd
  case cap => simp [nd] at hnd
  case slx => simp [nd] at hnd
  all_goals exact h.elim
end Go.Proofs.Ytmeecblciegkkaa.Fw
namespace Go.Proofs.Ytmeecblciegkkaa.Fw
open Go.RowKit
variable {h h' : Nat → Option Blk}

theorem elems_congr {x : SV} (hh : ∀ n ∈ tn x, h' n = h n) : elems h' x = elems h x := by
  unfold elems
  split
  · rfl
  · rfl
  · rename_i n; rw [hh n (by simp [tn])]
  · rfl
theorem elSz_congr {x : SV} (hh : ∀ n ∈ tn x, h' n = h n) : elSz h' x = elSz h x := by
  unfold elSz
  split
  · rfl
  · rfl
  · rename_i n; rw [hh n (by simp [tn])]
  · rfl
theorem give_congr {x : SV} (hh : ∀ n ∈ tn x, h' n = h n) : give h' x = give h x := by
  unfold give
  split
  · rename_i n; rw [hh n (by simp [tn])]
  · rfl
theorem giveL_congr : ∀ {l : List SV}, (∀ n ∈ tops l, h' n = h n) → giveL h' l = giveL h l
  | [], _ => rfl
  | x :: l, hh => by
    simp only [giveL]
    rw [give_congr fun n hn => hh n (mem_tops (by simp) hn), giveL_congr fun n hn => hh n (by simp only [tops, List.mem_append]; exact .inr hn)]
theorem slcV_congr {x : SV} {o o' : Option Blk} {sz0 hi mx i j m es K} (hh : ∀ n, x = .os n → o' = o) : slcV x o' sz0 hi mx i j m es K = slcV x o sz0 hi mx i j m es K := by
  unfold slcV
  split
  · rfl
  · rw [hh _ rfl]
  · rfl
theorem slc1_congr {x : SV} {sz0 lo hi mx l o K} (hh : ∀ n ∈ tn x, h' n = h n) : slc1 x h' sz0 lo hi mx l o K = slc1 x h sz0 lo hi mx l o K := by
  have hs : ∀ i j m es, slcV x (h' x.nm) sz0 hi mx i j m es K = slcV x (h x.nm) sz0 hi mx i j m es K := fun i j m es =>
    slcV_congr fun n e => by subst e; exact hh n (by simp [tn])
  unfold slc1
  split
  · unfold slc2
    split
    · unfold slc3
      split
      · unfold slc4
        split
        · rw [hs]
        · rfl
      · rfl
    · rfl
  · rfl
theorem elRowC_congr {o o' : Option Blk} (h : o' = o) : elRowC o' = elRowC o := by rw [h]
theorem elemsC_congr {x : SV} (hh : ∀ n ∈ tn x, h' n = h n) : elemsC h' x = elemsC h x := by
  unfold elemsC
  split
  · rename_i n _ _ _; rw [hh n (by simp [tn])]
  · exact elems_congr hh
theorem elSzC_congr {x : SV} (hh : ∀ n ∈ tn x, h' n = h n) : elSzC h' x = elSzC h x := by
  unfold elSzC
  split
  · rename_i n _ _ _; rw [hh n (by simp [tn])]
  · exact elSz_congr hh
theorem opSem_congr {d : Nat} {k : Kd} {l : List SV} {K : KK} (hh : cls k = 0 ∨ ∀ n ∈ tops l, h' n = h n) (hs : opSem d h k l K) : opSem d h' k l K := by
  have hx : ∀ x, x ∈ l → cls k ≠ 0 → ∀ n ∈ tn x, h' n = h n := fun x hx hk n hn => by
    rcases hh with h1 | h1
    · exact absurd h1 hk
    · exact h1 n (mem_tops hx hn)
  cases k <;> (try exact hs) <;> simp only [opSem] at hs ⊢
  case bsl => rw [giveL_congr (by rcases hh with h1 | h1; cases h1; exact h1)]; exact hs
  case ld =>
    split at hs
    · rename_i a
      unfold ldSem at hs ⊢
      have hx := hx a (by simp) (by simp [cls])
      split at hs
      · rw [hx _ (by simp [tn])]; exact hs
      · rw [hx _ (by simp [tn])]; exact hs
      · rw [hx _ (by simp [tn])]; exact hs
      · exact hs
      · exact hs
    · exact hs
  case sto =>
    split at hs
    · rename_i a y
      unfold stSem at hs ⊢
      have hx := hx a (by simp) (by simp [cls])
      split at hs
      · rw [hx _ (by simp [tn])]; exact hs
      · rw [hx _ (by simp [tn])]; exact hs
      · rw [hx _ (by simp [tn])]; exact hs
      · exact hs
    · exact hs
  case b2s =>
    split at hs
    · exact hs
    · rename_i n; rw [hx (.os n) (by simp) (by simp [cls]) _ (by simp [tn])]; exact hs
    · exact hs
  case b2b =>
    split at hs
    · rename_i n; rw [hx (.os n) (by simp) (by simp [cls]) _ (by simp [tn])]; exact hs
    · exact hs
  case slc =>
    split at hs
    · rename_i x l
      have hx := hx x (by simp) (by simp [cls])
      rw [slc1_congr hx, elems_congr hx]; exact hs
    · exact hs
  case iaS =>
    split at hs
    · rename_i x k' j
      have hx := hx x (by simp) (by simp [cls])
      unfold iaSSem at hs ⊢
      split at hs
      · exact hs
      · rw [hx _ (by simp [tn])]; exact hs
      · exact hs
    · exact hs
  case len =>
    split at hs
    · exact hs
    · rename_i n; rw [hx (.os n) (by simp) (by simp [cls]) _ (by simp [tn])]; exact hs
    · exact hs
  case eqn =>
    split at hs
    · exact hs
    · rename_i n; rw [hx (.os n) (by simp) (by simp [cls]) _ (by simp [tn])]; exact hs
    · exact hs
  case cap =>
    split at hs
    · rename_i n; rw [hx (.os n) (by simp) (by simp [cls]) _ (by simp [tn])]; exact hs
    · exact hs
  case cpy =>
    split at hs
    · rename_i x y
      have hx1 := hx x (by simp) (by simp [cls])
      have hx2 := hx y (by simp) (by simp [cls])
      unfold cpySem at hs ⊢
      split at hs
      · rw [hx1 _ (by simp [tn]), elemsC_congr hx2, elSzC_congr hx2]; exact hs
      · rw [hx1 _ (by simp [tn]), elemsC_congr hx2, elSzC_congr hx2]; exact hs
      · exact hs
    · exact hs
  case apz =>
    split at hs
    · rename_i x k m
      have hx1 := hx x (by simp) (by simp [cls])
      unfold apzSem at hs ⊢
      split at hs
      · rw [hx1 _ (by simp [tn])]; exact hs
      · exact hs
    · exact hs
  case slv =>
    split at hs
    · rename_i x l
      have hx1 := hx x (by simp) (by simp [cls])
      unfold slvSem at hs ⊢
      split at hs
      · rw [hx1 _ (by simp [tn])]; exact hs
      · rw [slc1_congr hx1, elems_congr hx1]; exact hs
      · exact hs
    · exact hs
  case slx =>
    split at hs
    · rename_i x k j
      have hx1 := hx x (by simp) (by simp [cls])
      unfold slxSem at hs ⊢
      split at hs
      · rw [slc1_congr hx1, elems_congr hx1, hx1 _ (by simp [tn])]; exact hs
      · rw [slc1_congr hx1, elems_congr hx1]; exact hs
      · exact hs
    · exact hs
  case app =>
    split at hs
    · rename_i x y
      have hx1 := hx x (by simp) (by simp [cls])
      have hx2 := hx y (by simp) (by simp [cls])
      unfold appSem at hs ⊢
      split at hs
      · rw [hx1 _ (by simp [tn]), elems_congr hx2, elSz_congr hx2]; exact hs
      · rw [elems_congr hx2, elSz_congr hx2]; exact hs
      · exact hs
    · exact hs

/-- what is known of calls: they look at no block but those their arguments name -/
def EnvOk (E : Env) : Prop := ∀ f args h h' d x u, (∀ n ∈ tops args, h' n = h n) → E.call f args h d x u → E.call f args h' d x u
variable {E : Env}
/-- the whole of it: one outcome, the same wherever operands and the blocks they name are the same -/
theorem body_out (hE : EnvOk E) {k : Kd} {x : List Opd} {d : Nat} {s : FS} {K : KK} (hnd : nd k = false) (hb : body E k x d s K) :
    ∃ v u, K v u ∧ ∀ s' K', evL s' x = evL s x → (cls k = 0 ∨ ∀ n ∈ tops (evL s x), s'.h n = s.h n) → K' v u → body E k x d s' K' := by
  have plain : opSem d s.h k (evL s x) K → ∃ v u, K v u ∧ ∀ s' K', evL s' x = evL s x → (cls k = 0 ∨ ∀ n ∈ tops (evL s x), s'.h n = s.h n) → K' v u → opSem d s'.h k (evL s' x) K' := fun h => by
    obtain ⟨v, u, h1, h2⟩ := ang_op hnd K h
    refine ⟨v, u, h1, fun s' K' he hh hk => ?_⟩
    rw [he]
    exact opSem_congr hh (h2 K' hk)
  cases k
  case call f =>
    obtain ⟨v, u, h1, h2⟩ := hb
    refine ⟨v, u, h2, fun s' K' he hh hk => ⟨v, u, ?_, hk⟩⟩
    rw [he]
    exact hE _ _ _ _ _ _ _ (hh.resolve_left (by simp [cls])) h1
  case callv =>
    simp only [body] at hb ⊢
    unfold callvK at hb
    split at hb
    · rename_i f cap args hl
      obtain ⟨v, u, h1, h2⟩ := hb
      refine ⟨v, u, h2, fun s' K' he hh hk => ?_⟩
      rw [he, hl]
      refine ⟨v, u, hE _ _ _ _ _ _ _ (fun n hn => hh.resolve_left (by simp [cls]) n ?_) h1, hk⟩
      rw [hl]
      rw [tops_append] at hn
      simp only [tops, tn, List.mem_append] at hn ⊢
      exact hn.symm
    · exact hb.elim
  all_goals exact plain hb
end Go.Proofs.Ytmeecblciegkkaa.Fw
namespace Go.Proofs.Ytmeecblciegkkaa.Fw
open Go.RowKit
variable {P : Program} {F : Fr} {N : Nat} {ρ : Nat → Value} {s : FS} {a : Act} {w w' : World} {K : KK} {V : View}

def Entered (P : Program) (f : Nat) : Prop := ∃ fn, P.funcs[f]? = some fn ∧ fn.name ≠ "runtime.NumGoroutine" ∧ fn.body.isSome = true
/-- what a call brings: one outcome, in every world in which the arguments are what they are -/
def FunOk (P : Program) (f : Nat) (args : List SV) (h : Nat → Option Blk) (_d : Nat) (x : SV) (u : List HU) : Prop :=
  Entered P f ∧ ∀ (F : Fr) (N : Nat) (ρ : Nat → Value) (s : FS) (a : Act) (w : World), RelR F N ρ s a w → (∀ n ∈ tops args, s.h n = h n) →
    ∀ vs, ConcL (vw F w ρ s) ρ args vs → Calls P f ⟨vs⟩ w fun e w' => ∃ v ρ', e = .returned v ∧ RelR F N ρ' (s.hup u) a w' ∧ Conc (vw F w' ρ' (s.hup u)) ρ' x v
def PostW (F : Fr) (N : Nat) (Q : Post) : Exit → Act → World → Prop
  | .normal, a, w => ∃ s, Rel F N s a w ∧ Q .normal s
  | .exit id, a, w => ∃ s, Rel F N s a w ∧ Q (.exit id) s
  | .ret, a, w => ∃ s, Rel F N s a w ∧ Q .ret s
  | _, _, _ => False
def LoopOk (P : Program) (F : Fr) (N : Nat) (c : C) (Q : Post) (s : FS) : Prop :=
  ∀ code, compile P N code = some c → ∀ a w, Rel F N s a w → (Code.loop code).wp P (PostW F N Q) a w
/-- what a function of the model's own brings -/
def ExtOk (P : Program) (f : Nat) (args : List SV) (h : Nat → Option Blk) (x : SV) : Prop :=
  ∀ (F : Fr) (N : Nat) (ρ : Nat → Value) (s : FS) (a : Act) (w : World), RelR F N ρ s a w → (∀ n ∈ tops args, s.h n = h n) →
    ∀ vs, ConcL (vw F w ρ s) ρ args vs → ∃ v, (callFunc f ⟨vs⟩).run P w = .ok (.value v) w ∧ Conc (vw F w ρ s) ρ x v
def CallOk (P : Program) (f : Nat) (args : List SV) (h : Nat → Option Blk) (d : Nat) (x : SV) (u : List HU) : Prop := FunOk P f args h d x u ∨ (u = [] ∧ ExtOk P f args h x)
def env (P : Program) (F : Fr) (N : Nat) : Env := ⟨CallOk P, LoopOk P F N⟩
theorem env_ok : EnvOk (env P F N) := fun f args h h' d x u hh hc => hc.elim
  (fun ⟨h1, h2⟩ => .inl ⟨h1, fun F N ρ s a w hR hs => h2 F N ρ s a w hR fun n hn => (hs n hn).trans (hh n hn)⟩)
  (fun ⟨h1, h2⟩ => .inr ⟨h1, fun F N ρ s a w hR hs => h2 F N ρ s a w hR fun n hn => (hs n hn).trans (hh n hn)⟩)

theorem kd_call {o : Oper} {f : Nat} {x : List Opd} (hk : kdOf P o = some (.call f, x)) : ∃ c, o.op = .call c ∧ c.callee = .value (.func f) ∧ opdsOf c.args.toList = some x := by
  obtain ⟨dst, op, type, pos, after, guard⟩ := o
  cases op <;> simp only [kdOf] at hk <;> (try cases hk)
  case call c =>
    split at hk
    · rename_i g hc
      obtain ⟨e, h2⟩ := ins_some hk
      cases e
      exact ⟨c, rfl, hc, h2⟩
    all_goals (repeat' (split at hk)) <;> first | cases hk | (obtain ⟨e, _⟩ := ins_some hk; cases e)
  all_goals (repeat' (split at hk)) <;> first | cases hk | (obtain ⟨e, _⟩ := ins_some hk; cases e)
theorem kd_callv {o : Oper} {x : List Opd} (hk : kdOf P o = some (.callv, x)) : ∃ c y, o.op = .call c ∧ c.callee = .value y ∧ opdsOf (y :: c.args.toList) = some x := by
  obtain ⟨dst, op, type, pos, after, guard⟩ := o
  cases op <;> simp only [kdOf] at hk <;> (try cases hk)
  case call c =>
    split at hk
    · obtain ⟨e, _⟩ := ins_some hk; cases e
    · rename_i y _ hc
      obtain ⟨e, h2⟩ := ins_some hk
      cases e
      exact ⟨c, y, rfl, hc, h2⟩
    all_goals (repeat' (split at hk)) <;> first | cases hk | (obtain ⟨e, _⟩ := ins_some hk; cases e)
  all_goals (repeat' (split at hk)) <;> first | cases hk | (obtain ⟨e, _⟩ := ins_some hk; cases e)
theorem run_callFunc {f : Nat} {args : Array Value} (h : Entered P f) : (callFunc f args).run P w = .ok (.enter f args) w := by
  obtain ⟨fn, h1, h2, h3⟩ := h
  unfold callFunc
  rw [run_bind_ok (show (program).run P w = .ok P w from rfl)]
  simp only [h1, beq_iff_eq, h2, if_false]
  cases hb : fn.body with
  | none => rw [hb] at h3; cases h3
  | some c => simp
theorem ConcL.append {V : View} {ρ : Nat → Value} : ∀ {l m : List SV} {vs us : List Value}, ConcL V ρ l vs → ConcL V ρ m us → ConcL V ρ (l ++ m) (vs ++ us)
  | [], m, vs, us, h, k => by simp only [ConcL] at h; subst h; exact k
  | x :: l, m, vs, us, h, k => by
    simp only [ConcL] at h
    obtain ⟨v, vs', rfl, h1, h2⟩ := h
    simp only [List.cons_append, ConcL]
    exact ⟨v, _, rfl, h1, ConcL.append h2 k⟩

theorem turn_call {v xx : Bool} {k : Kd} {f : Nat} (h : turnK v xx k = .call f) : k = .call f := by
  unfold turnK at h
  split at h
  · split at h
    · cases h
    · split at h <;> cases h
  · exact h
theorem turn_callv {v xx : Bool} {k : Kd} (h : turnK v xx k = .callv) : k = .callv := by
  unfold turnK at h
  split at h
  · split at h
    · cases h
    · split at h <;> cases h
  · exact h
/-- an operation, its guard left aside -/
theorem body_sound {o : Oper} {k k0 : Kd} {tv tx : Bool} {x : List Opd} {Q : Exit → Act → World → Prop} {next : Act → World → Prop} (hk0 : kdOf P o = some (k0, x)) (hkt : k = turnK tv tx k0) (hd : ∀ d, o.dst = some d → d < N) (hR : RelR F N ρ s a w)
    (h : body (env P F N) k x (o.dst.getD 0) s K) (hK : ∀ x u a' w', K x u → Rel F N (s.apply o.dst x u) a' w' → next a' w') : o.wp P a w next Q := by
  have put : ∀ {v y u ρ' w'}, RelR F N ρ' (s.hup u) a w' → Conc (vw F w' ρ' (s.hup u)) ρ' y v → Rel F N (s.apply o.dst y u) (a.put o.dst v) w' := fun {v y u ρ' w'} h1 h2 => by
    have := h1.put (dst := o.dst) hd h2
    refine ⟨ρ', ?_⟩
    cases hdd : o.dst <;> rw [hdd] at this <;> exact this
  have enter : ∀ {f : Nat} {args : List SV} {vs : List Value}, (execOp a.eval o).run P w = (callFunc f ⟨vs⟩).run P w → ConcL (vw F w ρ s) ρ args vs →
      callK (env P F N) f args s.h (o.dst.getD 0) K → o.wp P a w next Q := fun {f args vs} h1 h2 ⟨y, u, h3, h4⟩ => by
    unfold Oper.wp
    rw [h1]
    rcases h3 with h3 | ⟨rfl, h3⟩
    case inr =>
      obtain ⟨v, h5, h6⟩ := h3 F N ρ s a w hR (fun _ _ => rfl) vs h2
      rw [h5, Oper.upon_value]
      exact hK _ _ _ _ h4 (put hR h6)
    rw [run_callFunc h3.1, Oper.upon_enter]
    refine Calls.mono (h3.2 F N ρ s a w hR (fun _ _ => rfl) vs h2) fun e w' he => ?_
    obtain ⟨v, ρ', rfl, h5, h6⟩ := he
    exact hK _ _ _ _ h4 (put h5 h6)
  by_cases hc1 : ∃ f, k = .call f
  · obtain ⟨f, rfl⟩ := hc1
    rw [turn_call hkt.symm] at hk0
    obtain ⟨c, h1, h2, h3⟩ := kd_call hk0
    have hc := conc_opds (s := s) (a := a) h3 hR.tmps
    refine enter (vs := c.args.toList.map a.eval) ?_ hc h
    obtain ⟨dst, op, type, pos, after, guard⟩ := o
    simp only at h1; subst h1
    simp only [execOp, resolve, h2, Act.eval, Deferred.ofValue, pure_bind, invoke]
    congr 2
    exact Array.toList_inj.1 (by simp)
  · by_cases hc2 : k = .callv
    · subst hc2
      rw [turn_callv hkt.symm] at hk0
      obtain ⟨c, y, h1, h2, h3⟩ := kd_callv hk0
      obtain ⟨z, zs, rfl, hz, hzs⟩ := allSome_cons (show allSome (opdOf y :: c.args.toList.map opdOf) = some x from h3)
      have hc := conc_opds (s := s) (a := a) (l := c.args.toList) hzs hR.tmps
      have g1 := conc_opd (s := s) (a := a) hz hR.tmps
      simp only [body, evL] at h
      generalize s.ev z = zz at h g1
      unfold callvK at h
      split at h
      · rename_i f cap args hl
        cases hl
        simp only [Conc] at g1
        obtain ⟨cv, hv, hcap⟩ := g1
        refine enter (vs := c.args.toList.map a.eval ++ cv) ?_ (ConcL.append hc hcap) h
        obtain ⟨dst, op, type, pos, after, guard⟩ := o
        simp only at h1; subst h1
        simp only [execOp, resolve, h2, hv, Deferred.ofValue, pure_bind, invoke]
        congr 2
        exact Array.toList_inj.1 (by simp)
      · exact h.elim
    · have hs : opSem (o.dst.getD 0) s.h k (evL s x) K := by
        cases k <;> first | exact h | exact absurd ⟨_, rfl⟩ hc1 | exact absurd rfl hc2
      subst hkt
      obtain ⟨n, w', v, y, u, ρ', h1, h2, h3, h4, h5⟩ := turn_ok hk0 (fun f e => hc1 ⟨f, by rw [e]; rfl⟩) (fun e => hc2 (by rw [e]; rfl)) hR hs
      unfold Oper.wp
      rw [h1]
      rcases h2 with rfl | ⟨rfl, rfl⟩
      · rw [Oper.upon_value]; exact hK _ _ _ _ h3 (put h4 h5)
      · rw [Oper.upon_skip]; exact hK _ _ _ _ h3 (put h4 h5)

theorem insOf0_ok {ops : Array Oper} {o : Oper} {i : I} (h : insOf0 P N ops o = some i) : (∀ d, o.dst = some d → d < N) ∧ kdOf P o = some (i.k, i.x) ∧ i.d = o.dst ∧
    ((o.guard = none ∧ i.g = none) ∨ ∃ j w t, o.guard = some (j, w) ∧ (ops[j]?).bind (·.dst) = some t ∧ i.g = some (t, w)) := by
  unfold insOf0 at h
  split at h
  · cases h
  · rename_i hd
    have hd' : ∀ d, o.dst = some d → d < N := fun d e => by
      rw [e] at hd; simpa using hd
    split at h
    · rename_i k x hk
      split at h
      · rename_i hg; cases h; exact ⟨hd', hk, rfl, .inl ⟨hg, rfl⟩⟩
      · rename_i j w hg
        split at h
        · rename_i t ht; cases h; exact ⟨hd', hk, rfl, .inr ⟨j, w, t, hg, ht, rfl⟩⟩
        · cases h
    · cases h
theorem insOf_ok {ops : Array Oper} {o : Oper} {i : I} (h : insOf P N ops o = some i) : (∀ d, o.dst = some d → d < N) ∧ (∃ k0, kdOf P o = some (k0, i.x) ∧ i.k = turnK (viewR P ops) (selfR ops) k0) ∧ i.d = o.dst ∧
    ((o.guard = none ∧ i.g = none) ∨ ∃ j w t, o.guard = some (j, w) ∧ (ops[j]?).bind (·.dst) = some t ∧ i.g = some (t, w)) := by
  unfold insOf at h
  obtain ⟨i0, h1, rfl⟩ := Option.map_eq_some_iff.1 h
  obtain ⟨a, b, c, d⟩ := insOf0_ok h1
  exact ⟨a, ⟨_, b, rfl⟩, c, d⟩
theorem yielded_of {ops : Array Oper} {j t : Nat} {p : Bool} (ht : (ops[j]?).bind (·.dst) = some t) (h : a.tmps.getD t undef = .bool p) : yielded ops a.tmps j = some p := by
  unfold yielded
  rw [ht]
  simp only [Option.bind_some]
  cases hx : a.tmps[t]? with
  | none =>
    rw [Array.getD_eq_getD_getElem?, hx] at h; cases h
  | some v =>
    rw [Array.getD_eq_getD_getElem?, hx] at h
    simp only [Option.getD_some] at h; subst h; rfl
theorem opS_sound {ops : Array Oper} {o : Oper} {i : I} {ix : Nat} {Q : Exit → Act → World → Prop} {next : Act → World → Prop} (ho : ops[ix]? = some o) (hi : insOf P N ops o = some i) (hR : RelR F N ρ s a w)
    (h : opS (env P F N) i s K) (hK : ∀ x u a' w', K x u → Rel F N (s.apply i.d x u) a' w' → next a' w') : wpOp P ops Q ix next a w := by
  obtain ⟨hd, ⟨k0, hk, hkt⟩, hdd, hg⟩ := insOf_ok hi
  rw [hdd] at hK
  unfold wpOp
  rw [ho]
  simp only
  unfold opS at h
  rw [hdd] at h
  rcases hg with ⟨hg, hg'⟩ | ⟨j, wt, t, hg, hj, hg'⟩
  · rw [hg'] at h
    rw [if_pos (by simp [Region.wanted, hg])]
    exact .inl (body_sound hk hkt hd hR h hK)
  · rw [hg'] at h
    simp only at h
    have hc := hR.tmps t
    generalize s.t t = z at h hc
    unfold guardP at h
    split at h
    · rename_i p
      have hy := yielded_of hj (inv_b hc)
      by_cases hp : p = wt
      · rw [if_pos hp] at h
        rw [if_pos (by simp [Region.wanted, hg, hy, hp])]
        exact .inl (body_sound hk hkt hd hR h hK)
      · rw [if_neg hp] at h
        rw [if_neg (by simp [Region.wanted, hg, hy, hp])]
        refine hK _ _ _ _ h ⟨ρ, ?_⟩
        have := hR.put (dst := o.dst) (x := .tup []) (v := undef) hd (by simp only [Conc, ConcL]; exact ⟨[], rfl, rfl⟩)
        exact this
    · have hy : yielded ops a.tmps j = none := by
        simp only [Conc, ConcL] at hc
        obtain ⟨vs, hv, rfl⟩ := hc
        unfold yielded
        rw [hj]
        simp only [Option.bind_some]
        cases hx : a.tmps[t]? with
        | none => rfl
        | some v =>
          rw [Array.getD_eq_getD_getElem?, hx] at hv
          simp only [Option.getD_some] at hv; subst hv; rfl
      rw [if_neg (by simp [Region.wanted, hg, hy])]
      refine hK _ _ _ _ h ⟨ρ, ?_⟩
      have := hR.put (dst := o.dst) (x := .tup []) (v := undef) hd (by simp only [Conc, ConcL]; exact ⟨[], rfl, rfl⟩)
      exact this
    · exact h.elim
end Go.Proofs.Ytmeecblciegkkaa.Fw
namespace Go.Proofs.Ytmeecblciegkkaa.Fw
open Go.RowKit
variable {P : Program} {E : Env} {D : List Nat} {ops : Array Oper} {l : List I} {K : FS → Prop} {s : FS}

/-! The states that updates make. -/
def noFrz (u : List HU) : Prop := ∀ n v, HU.frz n v ∉ u
theorem noFrz.tail {e : HU} {u : List HU} (h : noFrz (e :: u)) : noFrz u := fun n v hm => h n v (List.mem_cons_of_mem _ hm)
theorem hup_t {n : Nat} : ∀ {u : List HU} {s : FS}, noFrz u → (∀ m b, HU.new m b ∈ u → (s.t n).kill m = s.t n) → (s.hup u).t n = s.t n
  | [], s, _, _ => rfl
  | .frz m v :: u, s, hf, h => absurd List.mem_cons_self (hf m v)
  | .new m b :: u, s, hf, h => by
    have h1 := h m b (by simp)
    have : (((s.kill m).seth m (some b)).t n) = s.t n := h1
    simp only [FS.hup]
    rw [hup_t hf.tail (fun m' b' hm => by rw [this]; exact h m' b' (by simp [hm])), this]
  | .upd m b :: u, s, hf, h => by
    simp only [FS.hup]
    rw [hup_t (s := s.seth m (some b)) hf.tail (fun m' b' hm => h m' b' (by simp [hm]))]; rfl
  | .del m :: u, s, hf, h => by
    simp only [FS.hup]
    rw [hup_t (s := s.seth m none) hf.tail (fun m' b' hm => h m' b' (by simp [hm]))]; rfl
def HU.blk? : HU → Option Blk
  | .new _ b => some b
  | .upd _ b => some b
  | .del _ => none
  | .frz _ _ => none
theorem seth_kill {d m : Nat} {b : Option Blk} (hb : b.map (Blk.kill d) = b) (hs : s.kill d = s) : (s.seth m b).kill d = s.seth m b := by
  have ht : ∀ n, (s.t n).kill d = s.t n := fun n => congrArg (fun q : FS => q.t n) hs
  have hh : ∀ n, (s.h n).map (Blk.kill d) = s.h n := fun n => congrArg (fun q : FS => q.h n) hs
  refine FS.ext' (fun n => ht n) (fun n => ?_)
  simp only [FS.kill, FS.seth]
  split
  · exact hb
  · exact hh n
theorem hup_kill {d : Nat} : ∀ {u : List HU} {s : FS}, noFrz u → s.kill d = s → (∀ e ∈ u, ∀ b, e.blk? = some b → b.kill d = b) → (s.hup u).kill d = s.hup u
  | [], s, _, h, _ => h
  | .frz m v :: u, s, hf, _, _ => absurd List.mem_cons_self (hf m v)
  | .new m b :: u, s, hf, h, hb => by
    simp only [FS.hup]
    refine hup_kill hf.tail (seth_kill (by simp [hb (.new m b) (by simp) b rfl]) ?_) (fun e he => hb e (by simp [he]))
    rw [skill_comm, h]
  | .upd m b :: u, s, hf, h, hb => by
    simp only [FS.hup]
    exact hup_kill hf.tail (seth_kill (by simp [hb (.upd m b) (by simp) b rfl]) h) (fun e he => hb e (by simp [he]))
  | .del m :: u, s, hf, h, hb => by
    simp only [FS.hup]
    exact hup_kill hf.tail (seth_kill (by simp) h) (fun e he => hb e (by simp [he]))
theorem apply_kill {d : Nat} {dst : Option Nat} {x : SV} {u : List HU} (hf : noFrz u) (h : s.kill d = s) (hx : dst ≠ none → x.kill d = x) (hb : ∀ e ∈ u, ∀ b, e.blk? = some b → b.kill d = b) : (s.apply dst x u).kill d = s.apply dst x u := by
  have h1 := hup_kill hf h hb
  cases dst with
  | none => exact h1
  | some e =>
    have ht : ∀ n, ((s.hup u).t n).kill d = (s.hup u).t n := fun n => congrArg (fun q : FS => q.t n) h1
    have hh : ∀ n, ((s.hup u).h n).map (Blk.kill d) = (s.hup u).h n := fun n => congrArg (fun q : FS => q.h n) h1
    refine FS.ext' (fun n => ?_) (fun n => hh n)
    simp only [FS.apply, FS.set, FS.kill]
    split
    · exact hx (by simp)
    · exact ht n
theorem set_hup {j : Nat} {x : SV} : ∀ {u : List HU} {s : FS}, noFrz u → (∀ m b, HU.new m b ∈ u → x.kill m = x) → (s.set j x).hup u = (s.hup u).set j x
  | [], s, _, _ => rfl
  | .frz m v :: u, s, hf, _ => absurd List.mem_cons_self (hf m v)
  | .new m b :: u, s, hf, h => by
    simp only [FS.hup]
    have : ((s.set j x).kill m).seth m (some b) = (((s.kill m).seth m (some b)).set j x) := by
      refine FS.ext' (fun n => ?_) (fun n => rfl)
      simp only [FS.seth, FS.set, FS.kill]
      split
      · exact h m b (by simp)
      · rfl
    rw [this]
    exact set_hup hf.tail (fun m' b' hm => h m' b' (by simp [hm]))
  | .upd m b :: u, s, hf, h => by
    simp only [FS.hup]
    exact set_hup (s := s.seth m (some b)) hf.tail (fun m' b' hm => h m' b' (by simp [hm]))
  | .del m :: u, s, hf, h => by
    simp only [FS.hup]
    exact set_hup (s := s.seth m none) hf.tail (fun m' b' hm => h m' b' (by simp [hm]))
theorem set_comm {i j : Nat} {x y : SV} (h : i ≠ j) : (s.set i x).set j y = (s.set j y).set i x := by
  refine FS.ext' (fun n => ?_) (fun n => rfl)
  simp only [FS.set]
  by_cases h1 : n = j
  · by_cases h2 : n = i
    · omega
    · simp [h1]; omega
  · simp [h1]
theorem apply_comm0 {i j : Option Nat} {x y : SV} {u : List HU} (hf : noFrz u) (hd : ∀ d, i = some d → j ≠ some d) (hy : j ≠ none → ∀ m b, HU.new m b ∈ u → y.kill m = y) :
    (s.apply i x u).apply j y [] = (s.apply j y []).apply i x u := by
  cases j with
  | none => rfl
  | some e =>
    have h1 := set_hup (j := e) (x := y) (s := s) hf (hy (by simp))
    cases i with
    | none => simp only [FS.apply, FS.hup]; exact h1.symm
    | some d =>
      simp only [FS.apply, FS.hup]
      rw [h1]
      exact set_comm fun e' => hd d rfl (by rw [e'])
theorem apply_comm1 {d e : Nat} {x y : SV} {b c : Blk} (hde : d ≠ e) (hx : x.kill e = x) (hy : y.kill d = y) (hb : b.kill e = b) (hc : c.kill d = c) :
    (s.apply (some d) x [.new d b]).apply (some e) y [.new e c] = (s.apply (some e) y [.new e c]).apply (some d) x [.new d b] := by
  refine FS.ext' (fun n => ?_) (fun n => ?_)
  · simp only [FS.apply, FS.hup, FS.set, FS.seth, FS.kill]
    by_cases h1 : n = d
    · subst h1; simp [hde, hx]
    · by_cases h2 : n = e
      · subst h2; simp [h1, hy]
      · simp [h1, h2, kill_comm]
  · simp only [FS.apply, FS.hup, FS.set, FS.seth, FS.kill]
    by_cases h1 : n = d
    · subst h1; simp [hde, hb]
    · by_cases h2 : n = e
      · subst h2; simp [h1, hc]
      · simp only [h1, h2, if_false, Option.map_map]
        cases s.h n <;> simp [bkill_comm d e]

theorem noD_of {d e : Nat} {x : SV} : ∀ {D : List Nat}, noD d x D → e ∈ D → e ≠ d → x.kill e = x
  | f :: D, h, he, hne => by
    simp only [noD] at h
    rcases List.mem_cons.1 he with rfl | he
    · simpa [hne] using h.1
    · exact noD_of h.2 he hne
theorem noDB_of {d e : Nat} {x : Blk} : ∀ {D : List Nat}, noDB d x D → e ∈ D → e ≠ d → x.kill e = x
  | f :: D, h, he, hne => by
    simp only [noDB] at h
    rcases List.mem_cons.1 he with rfl | he
    · simpa [hne] using h.1
    · exact noDB_of h.2 he hne
theorem noDU_blk {d e : Nat} (he : e ∈ D) (hne : e ≠ d) : ∀ {u : List HU}, noDU D d u → ∀ c ∈ u, ∀ b, c.blk? = some b → b.kill e = b
  | .new n b :: u, h, c, hc, b', hb => by
    simp only [noDU] at h
    rcases List.mem_cons.1 hc with rfl | hc
    · cases hb; exact noDB_of h.2.2.1 he hne
    · exact noDU_blk he hne h.2.2.2 c hc b' hb
  | .upd n b :: u, h, c, hc, b', hb => by
    simp only [noDU] at h
    rcases List.mem_cons.1 hc with rfl | hc
    · cases hb; exact noDB_of h.1 he hne
    · exact noDU_blk he hne h.2 c hc b' hb
  | .del n :: u, h, c, hc, b', hb => by
    simp only [noDU] at h
    rcases List.mem_cons.1 hc with rfl | hc
    · cases hb
    · exact noDU_blk he hne h c hc b' hb
theorem noDU_news {d : Nat} : ∀ {u : List HU}, noDU D d u → ∀ m b, HU.new m b ∈ u → m = d ∧ m ∈ D
  | .new n b :: u, h, m, b', hm => by
    simp only [noDU] at h
    rcases List.mem_cons.1 hm with e | hm
    · cases e; exact ⟨h.1, h.2.1⟩
    · exact noDU_news h.2.2.2 m b' hm
  | .upd n b :: u, h, m, b', hm => by
    simp only [noDU] at h
    rcases List.mem_cons.1 hm with e | hm
    · cases e
    · exact noDU_news h.2 m b' hm
  | .del n :: u, h, m, b', hm => by
    simp only [noDU] at h
    rcases List.mem_cons.1 hm with e | hm
    · cases e
    · exact noDU_news h m b' hm
theorem noDU_frz {d : Nat} : ∀ {u : List HU}, noDU D d u → noFrz u
  | [], _ => fun _ _ h => by cases h
  | .new n b :: u, h => fun m v hm => by
    simp only [noDU] at h
    rcases List.mem_cons.1 hm with e | hm
    · cases e
    · exact noDU_frz h.2.2.2 m v hm
  | .upd n b :: u, h => fun m v hm => by
    simp only [noDU] at h
    rcases List.mem_cons.1 hm with e | hm
    · cases e
    · exact noDU_frz h.2 m v hm
  | .del n :: u, h => fun m v hm => by
    simp only [noDU] at h
    rcases List.mem_cons.1 hm with e | hm
    · cases e
    · exact noDU_frz h m v hm
  | .frz n v :: u, h => by simp only [noDU] at h
theorem okA_noDU {c d : Nat} {x : SV} {u : List HU} (h : okA D c d x u) : noDU D d u := by
  unfold okA at h
  obtain ⟨_, h⟩ := h
  split at h
  · subst h; simp [noDU]
  · unfold quietU at h
    split at h
    · simp [noDU]
    · exact ⟨h.1, h.2.1, h.2.2, trivial⟩
    · exact h.elim
  · exact h
end Go.Proofs.Ytmeecblciegkkaa.Fw
namespace Go.Proofs.Ytmeecblciegkkaa.Fw
open Go.RowKit
variable {P : Program} {E : Env} {D : List Nat} {ops : Array Oper} {l : List I} {K : FS → Prop} {s : FS}

/-! Every order of a region's operations brings what the text's order brings. -/
theorem opS_out (hE : EnvOk E) {i : I} {K : KK} (hnd : nd i.k = false) (h : opS E i s K) :
    ∃ x u, K x u ∧ ∀ s' K', (∀ n ∈ looksI i, s'.t n = s.t n) → (cls i.k = 0 ∨ ∀ n ∈ tops (evL s i.x), s'.h n = s.h n) → K' x u → opS E i s' K' := by
  have hev : ∀ s' : FS, (∀ n ∈ looksI i, s'.t n = s.t n) → evL s' i.x = evL s i.x := fun s' hs => by
    have : ∀ l : List Opd, (∀ n, Opd.t n ∈ l → s'.t n = s.t n) → evL s' l = evL s l := by
      intro l
      induction l with
      | nil => intro _; rfl
      | cons o l ih =>
        intro hl
        simp only [evL]
        rw [ih fun n hn => hl n (by simp [hn])]
        cases o with
        | t n => simp only [FS.ev]; rw [hl n (by simp)]
        | c x => rfl
    refine this i.x fun n hn => hs n ?_
    simp only [looksI, List.mem_append, List.mem_filterMap]
    exact .inl ⟨.t n, hn, rfl⟩
  unfold opS at h ⊢
  split at h
  · rename_i hg
    obtain ⟨x, u, h1, h2⟩ := body_out hE hnd h
    exact ⟨x, u, h1, fun s' K' ht hh hk => h2 s' K' (hev s' ht) hh hk⟩
  · rename_i j w hg
    unfold guardP at h
    split at h
    · rename_i p hp
      have hgt : ∀ s' : FS, (∀ n ∈ looksI i, s'.t n = s.t n) → s'.t j = .pv (.b p) := fun s' hs => by
        rw [hs j (by simp [looksI, hg])]; exact hp
      by_cases hpw : p = w
      · rw [if_pos hpw] at h
        obtain ⟨x, u, h1, h2⟩ := body_out hE hnd h
        refine ⟨x, u, h1, fun s' K' ht hh hk => ?_⟩
        rw [hgt s' ht]
        simp only [guardP, hpw, if_true]
        exact h2 s' K' (hev s' ht) hh hk
      · rw [if_neg hpw] at h
        refine ⟨.tup [], [], h, fun s' K' ht hh hk => ?_⟩
        rw [hgt s' ht]
        simp only [guardP, hpw, if_false]
        exact hk
    · rename_i hp
      refine ⟨.tup [], [], h, fun s' K' ht hh hk => ?_⟩
      rw [ht j (by simp [looksI, hg]), hp]
      simp only [guardP]
      exact hk
    · exact h.elim

def OutA (E : Env) (D : List Nat) (i : I) (s : FS) (x : SV) (u : List HU) : Prop := (opS E i s (fun x' u' => x' = x ∧ u' = u) ∧ nd i.k = false) ∧ okA D (cls i.k) (i.d.getD 1000000000) x u
theorem OutA.of (hE : EnvOk E) {i : I} {K : KK} (hnd : nd i.k = false) (h : opS E i s fun x u => okA D (cls i.k) (i.d.getD 1000000000) x u ∧ K x u) : ∃ x u, OutA E D i s x u ∧ K x u := by
  obtain ⟨x, u, h1, h2⟩ := opS_out hE hnd h
  exact ⟨x, u, ⟨⟨h2 s _ (fun _ _ => rfl) (.inr fun _ _ => rfl) ⟨rfl, rfl⟩, hnd⟩, h1.1⟩, h1.2⟩
theorem OutA.congr (hE : EnvOk E) {i : I} {x u} {s s' : FS} (h : OutA E D i s x u) (ht : ∀ n ∈ looksI i, s'.t n = s.t n) (hh : cls i.k = 0 ∨ ∀ n ∈ tops (evL s i.x), s'.h n = s.h n) : OutA E D i s' x u := by
  obtain ⟨x', u', ⟨rfl, rfl⟩, h2⟩ := opS_out hE h.1.2 h.1.1
  exact ⟨⟨h2 s' _ ht hh ⟨rfl, rfl⟩, h.1.2⟩, h.2⟩
theorem OutA.run (hE : EnvOk E) {i : I} {x u} {K : KK} (h : OutA E D i s x u) (hk : K x u) : opS E i s K := by
  obtain ⟨x', u', ⟨rfl, rfl⟩, h2⟩ := opS_out hE h.1.2 h.1.1
  exact h2 s K (fun _ _ => rfl) (.inr fun _ _ => rfl) hk

/-- two operations that may change places -/
structure Swap (D : List Nat) (y z : I) : Prop where
  yz : ∀ d, y.d = some d → d ∉ looksI z
  zy : ∀ d, z.d = some d → d ∉ looksI y
  ne : ∀ d, y.d = some d → z.d ≠ some d
  sum : cls y.k + cls z.k ≤ 2
  wy : cls y.k = 2 → cls z.k = 0
  wz : cls z.k = 2 → cls y.k = 0
theorem Swap.any {D' : List Nat} {y z : I} (h : Swap D y z) : Swap D' y z := ⟨h.yz, h.zy, h.ne, h.sum, h.wy, h.wz⟩
theorem Swap.symm {y z : I} (h : Swap D y z) : Swap D z y := ⟨h.zy, h.yz, fun d h1 h2 => h.ne d h2 h1, by have := h.sum; omega, h.wz, h.wy⟩
theorem apartI_ok {y z : I} (h : apartI y z = true) : Swap D y z := by
  simp only [apartI, Bool.and_eq_true, decide_eq_true_eq, Bool.or_eq_true, bne_iff_ne, ne_eq, beq_iff_eq] at h
  obtain ⟨⟨⟨⟨h1, h2⟩, h3⟩, h4⟩, h5⟩ := h
  refine ⟨fun d hd => ?_, fun d hd => ?_, fun d hd => ?_, h3, fun e => h4.resolve_left (by simp [e]), fun e => h5.resolve_left (by simp [e])⟩
  · rw [hd] at h1; simp at h1; exact h1.1
  · rw [hd] at h2; simp at h2; exact h2
  · rw [hd] at h1; simp at h1; exact h1.2

/-- what an operation has made is of its own name -/
theorem OutA.news (hD : ∀ d ∈ D, d < 1000000000) {i : I} {x u} (h : OutA E D i s x u) : ∀ m b, HU.new m b ∈ u → i.d = some m ∧ m ∈ D := fun m b hm => by
  obtain ⟨h1, h2⟩ := noDU_news (okA_noDU h.2) m b hm
  have := hD m h2
  cases hd : i.d with
  | none => rw [hd] at h1; simp at h1; omega
  | some d => rw [hd] at h1; simp at h1; exact ⟨by rw [h1], h2⟩
/-- the other operation does not notice -/
theorem OutA.frame (hD : ∀ d ∈ D, d < 1000000000) {y z : I} {x u} (h : OutA E D y s x u) (hs : Swap D y z) (hz : ∀ o ∈ z.x, plainOpd o = true) (hno : ∀ d, y.d = some d → d ∈ D → s.kill d = s) :
    (∀ n ∈ looksI z, (s.apply y.d x u).t n = s.t n) ∧ (cls z.k = 0 ∨ ∀ n ∈ tops (evL s z.x), (s.apply y.d x u).h n = s.h n) := by
  have hnew := h.news hD
  have hkill : ∀ m b, HU.new m b ∈ u → s.kill m = s := fun m b hm => hno m (hnew m b hm).1 (hnew m b hm).2
  refine ⟨fun n hn => ?_, ?_⟩
  · have h1 : (s.hup u).t n = s.t n := hup_t (noDU_frz (okA_noDU h.2)) fun m b hm => congrArg (fun q : FS => q.t n) (hkill m b hm)
    cases hd : y.d with
    | none => exact h1
    | some d =>
      have : n ≠ d := fun e => hs.yz d hd (e ▸ hn)
      simp only [FS.apply, FS.set, this, if_false]; exact h1
  · by_cases hc : cls z.k = 0
    · exact .inl hc
    · right
      intro n hn
      have hcy : cls y.k ≤ 1 := by
        by_cases e : cls y.k = 2
        · exact absurd (hs.wy e) hc
        · have := hs.sum; omega
      have hu := h.2.2
      have happ : ∀ q : FS, (q.apply y.d x u).h n = (q.hup u).h n := fun q => by cases y.d <;> rfl
      rw [happ]
      have : cls y.k = 0 ∨ cls y.k = 1 := by omega
      rcases this with e | e
      · rw [e] at hu; simp only at hu; subst hu; rfl
      · rw [e] at hu
        simp only [quietU] at hu
        split at hu
        · rfl
        · rename_i m b
          have hk := hkill m b (by simp)
          have hne : n ≠ m := by
            intro e; subst e
            have : ∀ l : List Opd, (∀ o ∈ l, plainOpd o = true) → n ∉ tops (evL s l) := by
              intro l
              induction l with
              | nil => intro _; simp [evL, tops]
              | cons o l ih =>
                intro hl
                simp only [evL, tops, List.mem_append, not_or]
                refine ⟨?_, ih fun o ho => hl o (by simp [ho])⟩
                cases o with
                | t j => exact tn_kill (congrArg (fun q : FS => q.t j) hk)
                | c v =>
                  have := hl (.c v) (by simp)
                  unfold plainOpd at this
                  split at this <;> first | cases this | skip
                  all_goals (rename_i e; cases e <;> simp [FS.ev, tn, tops])
            exact this z.x hz hn
          simp only [FS.hup, FS.seth, hne, if_false]
          exact congrArg (fun q : FS => q.h n) hk
        · exact hu.elim
theorem OutA.comm {Dy Dz : List Nat} (hD : ∀ d ∈ Dy, d < 1000000000) (hD' : ∀ d ∈ Dz, d < 1000000000) {y z : I} {x u x' u'} {s s' : FS} (h : OutA E Dy y s x u) (k : OutA E Dz z s' x' u') (hs : Swap D y z) (hy : ∀ m, z.d = some m → m ∈ Dz → m ∈ Dy) (hz : ∀ m, y.d = some m → m ∈ Dy → m ∈ Dz) {q : FS} :
    (q.apply y.d x u).apply z.d x' u' = (q.apply z.d x' u').apply y.d x u := by
  have hnew := h.news hD
  have knew := k.news hD'
  have hx : ∀ m b, HU.new m b ∈ u' → x.kill m = x := fun m b hm => noD_of h.2.1 (hy m (knew m b hm).1 (knew m b hm).2) fun e => by
    have hzz := (knew m b hm).1
    have hb := hD' m (knew m b hm).2
    cases hd : y.d with
    | none => rw [hd] at e; simp only [Option.getD_none] at e; omega
    | some d => rw [hd] at e; simp only [Option.getD_some] at e; subst e; exact hs.ne _ hd hzz
  have kx : ∀ m b, HU.new m b ∈ u → x'.kill m = x' := fun m b hm => noD_of k.2.1 (hz m (hnew m b hm).1 (hnew m b hm).2) fun e => by
    have hzz := (hnew m b hm).1
    have hb := hD m (hnew m b hm).2
    cases hd : z.d with
    | none => rw [hd] at e; simp only [Option.getD_none] at e; omega
    | some d => rw [hd] at e; simp only [Option.getD_some] at e; subst e; exact hs.ne _ hzz hd
  by_cases e1 : cls z.k = 0
  · have := k.2.2
    rw [e1] at this; simp only at this; subst this
    exact apply_comm0 (noDU_frz (okA_noDU h.2)) hs.ne fun _ => kx
  · by_cases e2 : cls y.k = 0
    · have := h.2.2
      rw [e2] at this; simp only at this; subst this
      exact (apply_comm0 (noDU_frz (okA_noDU k.2)) (fun d h1 h2 => hs.ne d h2 h1) fun _ => hx).symm
    · have f1 : cls z.k = 1 := by
        by_cases e : cls z.k = 2
        · exact absurd (hs.wz e) e2
        · have := hs.sum; omega
      have f2 : cls y.k = 1 := by have := hs.sum; omega
      have hu := h.2.2
      have ku := k.2.2
      rw [f2] at hu; rw [f1] at ku
      simp only at hu ku
      unfold quietU at hu ku
      split at hu
      · exact (apply_comm0 (noDU_frz (okA_noDU k.2)) (fun d h1 h2 => hs.ne d h2 h1) fun _ => hx).symm
      · rename_i d b
        split at ku
        · exact apply_comm0 (noDU_frz (okA_noDU h.2)) hs.ne fun _ => kx
        · rename_i e c
          have hyy := (hnew d b (by simp)).1
          have hzz := (knew e c (by simp)).1
          have hde : d ≠ e := fun q => hs.ne d hyy (q ▸ hzz)
          have m1 := hy e hzz ku.2.1
          have m2 := hz d hyy hu.2.1
          rw [hyy, hzz]
          rw [hyy] at hu; rw [hzz] at ku
          exact apply_comm1 hde (hx e c (by simp)) (kx d b (by simp)) (noDB_of hu.2.2 m1 (by simpa using Ne.symm hde)) (noDB_of ku.2.2 m2 (by simpa using hde))
        · exact ku.elim
      · exact hu.elim
end Go.Proofs.Ytmeecblciegkkaa.Fw
namespace Go.Proofs.Ytmeecblciegkkaa.Fw
open Go.RowKit
variable {P : Program} {E : Env} {D : List Nat} {ops : Array Oper} {l : List I} {K : FS → Prop} {s : FS} {N : Nat}

def sxAny (E : Env) (D : List Nat) (ops : Array Oper) (l : List I) (K : FS → Prop) : Nat → Array Bool → FS → Prop
  | 0, listed, s => Region.ready .any ops listed = [] ∧ K s
  | n + 1, listed, s => (Region.ready .any ops listed = [] → K s) ∧ ∀ j ∈ Region.ready .any ops listed, ∃ i x u, l[j]? = some i ∧ OutA E (dAt ops l D j) i s x u ∧
      sxAny E D ops l K n (listed.setIfInBounds j true) (s.apply i.d x u)

structure Reg (P : Program) (N : Nat) (ops : Array Oper) (l : List I) (D : List Nat) : Prop where
  len : l.length = ops.size
  ins : ∀ (j : Nat) (o : Oper), ops[j]? = some o → ∃ i : I, l[j]? = some i ∧ insOf P N ops o = some i
  bound : ∀ d ∈ D, d < 1000000000
  sure : ∀ (j : Nat) (y : I), l[j]? = some y → nd y.k = false
  nd : ∀ (i j : Nat) (y z : I) (d : Nat), l[i]? = some y → l[j]? = some z → y.d = some d → z.d = some d → i = j
  topo : ∀ (j : Nat) (o : Oper), ops[j]? = some o → ∀ e ∈ dirs o, e < j
  plain : ∀ (j : Nat) (y : I), l[j]? = some y → ∀ o ∈ y.x, plainOpd o = true
  pair : ∀ (i j : Nat) (y z : I), i < j → l[i]? = some y → l[j]? = some z → Swap D y z ∨ i ∈ anc ops 4 j

def Closed (ops : Array Oper) (listed : Array Bool) : Prop := ∀ j, listed.getD j false = true → ∀ o, ops[j]? = some o → ∀ e ∈ dirs o, listed.getD e false = true
theorem mem_dirs {o : Oper} {e : Nat} : e ∈ dirs o ↔ ∃ x ∈ o.after, Region.binds .any x = true ∧ x.on = e := by
  simp [dirs, List.mem_map, List.mem_filter, and_assoc]
theorem ready_iff {j : Nat} {listed : Array Bool} : j ∈ Region.ready .any ops listed ↔ listed.getD j true = false ∧ ∃ o, ops[j]? = some o ∧ ∀ e ∈ dirs o, listed.getD e false = true := by
  rw [mem_ready]
  constructor
  · rintro ⟨h1, o, h2, h3⟩
    refine ⟨h1, o, h2, fun e he => ?_⟩
    obtain ⟨x, h4, h5, rfl⟩ := mem_dirs.1 he
    exact h3 x h4 h5
  · rintro ⟨h1, o, h2, h3⟩
    exact ⟨h1, o, h2, fun e he hb => h3 e.on (mem_dirs.2 ⟨e, he, hb, rfl⟩)⟩
theorem anc_listed {listed : Array Bool} (hc : Closed ops listed) : ∀ n j, (∀ o, ops[j]? = some o → ∀ e ∈ dirs o, listed.getD e false = true) → ∀ k ∈ anc ops n j, listed.getD k false = true
  | 0, j, _, k, hk => by simp [anc] at hk
  | n + 1, j, h, k, hk => by
    unfold anc at hk
    split at hk
    · rename_i o ho
      rcases List.mem_append.1 hk with hk | hk
      · exact h o ho k hk
      · obtain ⟨q, hq, hk⟩ := List.mem_flatten.1 hk
        obtain ⟨e, he, rfl⟩ := List.mem_map.1 hq
        exact anc_listed hc n e (fun o' ho' e' he' => hc e (h o ho e he) o' ho' e' he') k hk
    · cases hk
theorem getD_flip {listed : Array Bool} {j : Nat} (h : listed.getD j true = false) : listed.getD j false = false ∧ j < listed.size := by
  rcases Nat.lt_or_ge j listed.size with h' | h'
  · simp [h'] at h ⊢; exact h
  · simp [Array.getElem?_eq_none h'] at h
theorem getD_set {listed : Array Bool} {i j : Nat} (hi : i < listed.size) : (listed.setIfInBounds i true).getD j false = (if j = i then true else listed.getD j false) := by
  by_cases h : j = i
  · subst h; simp [hi]
  · rw [if_neg h, getD_set_ne false (Ne.symm h)]
theorem Closed.set {listed : Array Bool} {i : Nat} (hc : Closed ops listed) (hr : i ∈ Region.ready .any ops listed) : Closed ops (listed.setIfInBounds i true) := by
  intro j hj o ho e he
  obtain ⟨h1, o', ho', h2⟩ := ready_iff.1 hr
  have hlt := (getD_flip h1).2
  rw [getD_set hlt] at hj ⊢
  split
  · rfl
  · by_cases hji : j = i
    · subst hji; rw [ho] at ho'; cases ho'; exact h2 e he
    · rw [if_neg hji] at hj; exact hc j hj o ho e he
/-- nothing names what the operations that are still to come will make -/
def NoM (l : List I) (D : List Nat) (listed : Array Bool) (s : FS) : Prop := ∀ k y d, l[k]? = some y → listed.getD k false = false → y.d = some d → d ∈ D → s.kill d = s
theorem dAt_sub {j d : Nat} (h : d ∈ dAt ops l D j) : d ∈ D := by
  unfold dAt at h
  split at h
  · exact (List.mem_filter.1 h).1
  · exact h
theorem dAt_mem (hr : Reg P N ops l D) {listed : Array Bool} {j k : Nat} {y : I} {d : Nat} (hrd : j ∈ Region.ready .any ops listed) (hk : l[k]? = some y) (hun : listed.getD k false = false) (hd : y.d = some d) (hm : d ∈ D) : d ∈ dAt ops l D j := by
  obtain ⟨_, o, ho, hl⟩ := ready_iff.1 hrd
  unfold dAt
  rw [ho]
  refine List.mem_filter.2 ⟨hm, ?_⟩
  simp only [Bool.not_eq_true', List.any_eq_false]
  intro e he
  cases hi : l[e]? with
  | none => simp
  | some i =>
    simp only [decide_eq_true_eq]
    intro hd'
    have := hr.nd e k i y d hi hk hd' hd
    subst this
    rw [hl e he] at hun; cases hun
theorem NoM.set (hr : Reg P N ops l D) {listed : Array Bool} {j : Nat} {z : I} {x u} (hno : NoM l D listed s) (hj : l[j]? = some z) (hlt : j < listed.size) (hrd : j ∈ Region.ready .any ops listed) (ho : OutA E (dAt ops l D j) z s x u) : NoM l D (listed.setIfInBounds j true) (s.apply z.d x u) := by
  intro k y d hk hun hd hm
  rw [getD_set hlt] at hun
  by_cases hkj : k = j
  · rw [if_pos hkj] at hun; cases hun
  · rw [if_neg hkj] at hun
    have hne : d ≠ z.d.getD 1000000000 := fun e => by
      have := hr.bound d hm
      cases hz : z.d with
      | none => rw [hz] at e; simp only [Option.getD_none] at e; omega
      | some d' => rw [hz] at e; simp only [Option.getD_some] at e; subst e; exact hkj (hr.nd k j y z d hk hj hd hz)
    exact apply_kill (noDU_frz (okA_noDU ho.2)) (hno k y d hk hun hd hm) (fun _ => noD_of ho.2.1 (dAt_mem hr hrd hk hun hd hm) hne) (noDU_blk (dAt_mem hr hrd hk hun hd hm) hne (okA_noDU ho.2))

theorem sxAny_first (hE : EnvOk E) (hr : Reg P N ops l D) {i : Nat} {y : I} {x u} (hy : l[i]? = some y) :
    ∀ (fuel : Nat) (listed : Array Bool) (s : FS), Closed ops listed → NoM l D listed s → (∀ j z, l[j]? = some z → listed.getD j false = false → j ≠ i → Swap D y z ∨ i ∈ anc ops 4 j) →
      i ∈ Region.ready .any ops listed → OutA E (dAt ops l D i) y s x u → sxAny E D ops l K fuel (listed.setIfInBounds i true) (s.apply y.d x u) → sxAny E D ops l K (fuel + 1) listed s := by
  intro fuel
  induction fuel with
  | zero =>
    intro listed s hc hno hpair hrd ho H
    refine ⟨fun h => (by rw [h] at hrd; cases hrd), fun j hj => ?_⟩
    by_cases hji : j = i
    · subst hji; exact ⟨y, x, u, hy, ho, H⟩
    · have := ready_mono hj hji
      rw [H.1] at this; cases this
  | succ fuel ih =>
    intro listed s hc hno hpair hrd ho H
    refine ⟨fun h => (by rw [h] at hrd; cases hrd), fun j hj => ?_⟩
    by_cases hji : j = i
    · subst hji; exact ⟨y, x, u, hy, ho, H⟩
    · obtain ⟨z, x', u', hz, hoz, H'⟩ := H.2 j (ready_mono hj hji)
      obtain ⟨hj1, o, hj2, hj3⟩ := ready_iff.1 hj
      obtain ⟨hi1, oi, hi2, hi3⟩ := ready_iff.1 hrd
      obtain ⟨hjf, hjlt⟩ := getD_flip hj1
      obtain ⟨hif, hilt⟩ := getD_flip hi1
      have hsw : Swap D y z := by
        refine (hpair j z hz hjf hji).resolve_right fun ha => ?_
        have := anc_listed hc 4 j (fun o' ho' e he => by rw [hj2] at ho'; cases ho'; exact hj3 e he) i ha
        rw [hif] at this; cases this
      have fr1 := ho.frame (fun d hd => hr.bound d (dAt_sub hd)) hsw.any (hr.plain j z hz) (fun d hd hm => hno i y d hy hif hd (dAt_sub hm))
      have hoz' : OutA E (dAt ops l D j) z s x' u' := hoz.congr hE (fun n hn => (fr1.1 n hn).symm) (by
        have he : evL (s.apply y.d x u) z.x = evL s z.x := by
          have : ∀ l : List Opd, (∀ n, Opd.t n ∈ l → (s.apply y.d x u).t n = s.t n) → evL (s.apply y.d x u) l = evL s l := by
            intro l
            induction l with
            | nil => intro _; rfl
            | cons o l ih =>
              intro hl
              simp only [evL]
              rw [ih fun n hn => hl n (by simp [hn])]
              cases o with
              | t n => simp only [FS.ev]; rw [hl n (by simp)]
              | c x => rfl
          refine this z.x fun n hn => fr1.1 n ?_
          simp only [looksI, List.mem_append, List.mem_filterMap]
          exact .inl ⟨.t n, hn, rfl⟩
        rw [he]
        exact fr1.2.imp id fun h n hn => (h n hn).symm)
      refine ⟨z, x', u', hz, hoz', ?_⟩
      have fr2 := hoz'.frame (fun d hd => hr.bound d (dAt_sub hd)) hsw.symm.any (hr.plain i y hy) (fun d hd hm => hno j z d hz hjf hd (dAt_sub hm))
      have hoy : OutA E (dAt ops l D i) y (s.apply z.d x' u') x u := ho.congr hE fr2.1 fr2.2
      refine ih (listed.setIfInBounds j true) _ (hc.set hj) (hno.set hr hz hjlt hj hoz') (fun k w hk hun hne => ?_) (ready_mono hrd (Ne.symm hji)) hoy ?_
      · refine hpair k w hk ?_ hne
        rw [getD_set hjlt] at hun
        split at hun
        · cases hun
        · exact hun
      · rw [Array.setIfInBounds_comm _ _ hji, OutA.comm (fun d hd => hr.bound d (dAt_sub hd)) (fun d hd => hr.bound d (dAt_sub hd)) hoz' hoy hsw.symm (fun m h1 h2 => dAt_mem hr hj hy hif h1 (dAt_sub h2)) (fun m h1 h2 => dAt_mem hr hrd hz hjf h1 (dAt_sub h2))]
        exact H'
/-- what is listed when the first 'k' have been taken -/
theorem text_order (hE : EnvOk E) (hr : Reg P N ops l D) {Q : Post} : ∀ (fuel k : Nat) (listed : Array Bool) (s : FS), ops.size = k + fuel → listed.size = ops.size → (∀ j, listed.getD j false = decide (j < k)) → NoM l D listed s →
    sxA E (annFrom ops l D k (l.drop k)) Q s → sxAny E D ops l (Q .normal) fuel listed s
  | 0, k, listed, s, hk, hsz, hl, hno, h => by
    have : l.drop k = [] := List.drop_eq_nil_of_le (by rw [hr.len]; omega)
    rw [this] at h
    refine ⟨?_, h⟩
    apply List.eq_nil_iff_forall_not_mem.2
    intro j hj
    obtain ⟨h1, o, h2, _⟩ := ready_iff.1 hj
    obtain ⟨h3, h4⟩ := getD_flip h1
    rw [hl j] at h3
    simp at h3; omega
  | fuel + 1, k, listed, s, hk, hsz, hl, hno, h => by
    have hlt : k < l.length := by rw [hr.len]; omega
    have hop : ∃ o, ops[k]? = some o := ⟨ops[k]'(by omega), by simp⟩
    obtain ⟨o, ho⟩ := hop
    obtain ⟨y, hy, _⟩ := hr.ins k o ho
    have hdrop : l.drop k = y :: l.drop (k + 1) := by
      rw [List.drop_eq_getElem_cons hlt]
      congr 1
      rw [List.getElem?_eq_getElem hlt] at hy; cases hy; rfl
    rw [hdrop] at h
    simp only [annFrom, sxA] at h
    obtain ⟨x, u, hout, hrest⟩ := OutA.of hE (hr.sure k y hy) h
    have hc : Closed ops listed := fun j hj o' ho' e he => by
      rw [hl] at hj ⊢
      simp only [decide_eq_true_eq] at hj ⊢
      have := hr.topo j o' ho' e he
      omega
    have hkl : k < listed.size := by omega
    have hrd : k ∈ Region.ready .any ops listed := ready_iff.2 ⟨by
      have := hl k; simp [hkl] at this ⊢; exact this, o, ho, fun e he => by
      rw [hl]; simp only [decide_eq_true_eq]; exact hr.topo k o ho e he⟩
    refine sxAny_first hE hr hy fuel listed s hc hno (fun j z hz hun hne => ?_) hrd hout ?_
    · rw [hl] at hun
      simp only [decide_eq_false_iff_not] at hun
      exact hr.pair k j y z (by omega) hy hz
    · refine text_order hE hr fuel (k + 1) _ _ (by omega) (by simp [hsz]) (fun j => ?_) (hno.set hr hy hkl hrd hout) hrest
      rw [getD_set hkl, hl]
      by_cases hj : j = k
      · subst hj; simp
      · rw [if_neg hj]; by_cases h' : j < k <;> simp <;> omega
end Go.Proofs.Ytmeecblciegkkaa.Fw
namespace Go.Proofs.Ytmeecblciegkkaa.Fw
open Go.RowKit
variable {P : Program} {F : Fr} {N : Nat} {ρ : Nat → Value} {s : FS} {a : Act} {w w' : World} {V : View}

theorem ins_all {ops : Array Oper} {l : List I} (h : allSome (ops.toList.map (insOf P N ops)) = some l) : l.length = ops.size ∧ ∀ (j : Nat) (o : Oper), ops[j]? = some o → ∃ i : I, l[j]? = some i ∧ insOf P N ops o = some i := by
  obtain ⟨h1, h2⟩ := allSome_get h
  refine ⟨by simpa using h1.symm, fun j o ho => ?_⟩
  have := h2 j
  rw [List.getElem?_map, Array.getElem?_toList, ho] at this
  simp only [Option.map_some] at this
  cases hl : l[j]? with
  | none => rw [hl] at this; cases this
  | some i => rw [hl] at this; simp only [Option.map_some, Option.some.injEq] at this; exact ⟨i, rfl, this⟩
theorem nodup_filterMap {l : List I} (h : (l.filterMap (·.d)).Nodup) : ∀ (i j : Nat) (y z : I) (d : Nat), l[i]? = some y → l[j]? = some z → y.d = some d → z.d = some d → i = j := by
  induction l with
  | nil => intro i j y z d h1; simp at h1
  | cons x l ih =>
    have hl : (l.filterMap (·.d)).Nodup := by
      cases hx : x.d with
      | none => simpa [List.filterMap_cons, hx] using h
      | some e => simp only [List.filterMap_cons, hx, List.nodup_cons] at h; exact h.2
    have hin : ∀ (k : Nat) (y : I) (d : Nat), l[k]? = some y → y.d = some d → x.d ≠ some d := fun k y d hk hd hx => by
      simp only [List.filterMap_cons, hx, List.nodup_cons] at h
      exact h.1 (List.mem_filterMap.2 ⟨y, List.mem_of_getElem? hk, hd⟩)
    intro i j y z d h1 h2 h3 h4
    cases i with
    | zero =>
      simp at h1; subst h1
      cases j with
      | zero => rfl
      | succ j => exact absurd h3 (hin j z d (by simpa using h2) h4)
    | succ i =>
      cases j with
      | zero => simp at h2; subst h2; exact absurd h4 (hin i y d (by simpa using h1) h3)
      | succ j => exact congrArg (· + 1) (ih hl i j y z d (by simpa using h1) (by simpa using h2) h3 h4)
theorem reg_of {ops : Array Oper} {l : List I} (h : allSome (ops.toList.map (insOf P N ops)) = some l) (ha : anyOk ops l = true) : Reg P N ops l (news l) := by
  obtain ⟨h1, h2⟩ := ins_all h
  simp only [anyOk, Bool.and_eq_true, List.all_eq_true, List.mem_range, decide_eq_true_eq] at ha
  obtain ⟨⟨⟨hnd, hsure⟩, hb⟩, hall⟩ := ha
  have get : ∀ (j : Nat) (y : I), l[j]? = some y → ∃ o, ops[j]? = some o := fun j y hj => by
    have := (List.getElem?_eq_some_iff.1 hj).1
    exact ⟨ops[j]'(by omega), by simp⟩
  refine ⟨h1, h2, hb, fun j y hj => by simpa using hsure y (List.mem_of_getElem? hj), nodup_filterMap (nodupB_ok hnd), fun j o ho e he => ?_, fun j y hy o ho => ?_, fun i j y z hij hy hz => ?_⟩
  · obtain ⟨y, hy, _⟩ := h2 j o ho
    have := hall j (List.getElem?_eq_some_iff.1 hy).1
    rw [ho, hy] at this
    simp only [Bool.and_eq_true, List.all_eq_true, decide_eq_true_eq] at this
    exact this.1.1 e he
  · obtain ⟨o', ho'⟩ := get j y hy
    have := hall j (List.getElem?_eq_some_iff.1 hy).1
    rw [ho', hy] at this
    simp only [Bool.and_eq_true, List.all_eq_true, decide_eq_true_eq] at this
    exact this.1.2 o ho
  · obtain ⟨o', ho'⟩ := get j z hz
    have := hall j (List.getElem?_eq_some_iff.1 hz).1
    rw [ho', hz] at this
    simp only [Bool.and_eq_true, List.all_eq_true, decide_eq_true_eq, List.mem_range] at this
    have h3 := this.2 i hij
    rw [hy] at h3
    simp only [Bool.or_eq_true, List.contains_iff_mem] at h3
    rcases h3 with (h3 | h3) | h3
    · right
      unfold anc
      rw [ho']
      exact List.mem_append_left _ h3
    · exact .inl (apartI_ok h3)
    · exact .inr h3

/-- less is known -/
theorem RelR.kill (h : RelR F N ρ s a w) (d : Nat) : RelR F N ρ (s.kill d) a w := by
  have hh : ∀ n x, (s.kill d).h n = some x → ∃ y, s.h n = some y ∧ x = y.kill d := fun n x hx => by
    simp only [FS.kill] at hx
    obtain ⟨y, h1, h2⟩ := Option.map_eq_some_iff.1 hx
    exact ⟨y, h1, h2.symm⟩
  have how : ∀ b, owned ρ (s.kill d).h b ↔ owned ρ s.h b := fun b => by
    constructor
    · rintro ⟨n, x, h1, h2⟩
      obtain ⟨y, h3, _⟩ := hh n x h1
      exact ⟨n, y, h3, h2⟩
    · rintro ⟨n, x, h1, h2⟩
      exact ⟨n, x.kill d, by simp [FS.kill, h1], h2⟩
  have hV : viewOf w (F.out ρ (s.kill d).h) = viewOf w (F.out ρ s.h) := by
    congr 1
    funext b
    exact propext (or_congr_left (how b))
  have hu : Fw.upd ρ d (ρ d) = ρ := by funext m; unfold Fw.upd; split <;> simp_all
  refine ⟨h.fr, fun b hb => h.may b ((how b).1 hb), fun n x hx => ?_, fun n m x y b hn hm => ?_, fun n => ?_, h.size, h.defers⟩
  · obtain ⟨y, h1, rfl⟩ := hh n x hx
    rw [hV]
    have ho := h.own n y h1
    cases y with
    | var x =>
      obtain ⟨b, vs, ty, fr, u, g1, g2, g3, g4, g5, g6, g7⟩ := ho
      have := g4.kill (n := d) (p := ρ d) (fun _ _ q => q)
      rw [hu] at this
      exact ⟨b, vs, ty, fr, u, g1, g2, g3, this, g5, by rw [width_kill]; exact g6, g7⟩
    | row sz es => exact ho
    | rowc sz es c => exact ho
  · obtain ⟨x', h1, _⟩ := hh n x hn
    obtain ⟨y', h2, _⟩ := hh m y hm
    exact h.inj n m x' y' b h1 h2
  · rw [hV]
    have := (h.tmps n).kill (n := d) (p := ρ d) (fun _ _ q => q)
    rw [hu] at this
    exact this
theorem RelR.killD (h : RelR F N ρ s a w) : ∀ D : List Nat, RelR F N ρ (Fw.killD D s) a w := fun D => by
  induction D generalizing s with
  | nil => exact h
  | cons d D ih => exact ih (h.kill d)

variable {ops : Array Oper} {l : List I} {D : List Nat}
theorem ops_sound {Q : Post} (hins : ∀ (j : Nat) (o : Oper), ops[j]? = some o → ∃ i : I, l[j]? = some i ∧ insOf P N ops o = some i) (hlen : l.length = ops.size) : ∀ (n k : Nat) {s a w}, ops.size = k + n → Rel F N s a w → sxL (env P F N) (l.drop k) Q s →
    wpOps P ops (PostW F N Q) ((List.range ops.size).drop k) a w
  | 0, k, s, a, w, hk, hR, h => by
    have : l.drop k = [] := List.drop_eq_nil_of_le (by omega)
    rw [this] at h
    rw [List.drop_eq_nil_of_le (by simp; omega)]
    exact ⟨s, hR, h⟩
  | n + 1, k, s, a, w, hk, hR, h => by
    have hlt : k < l.length := by omega
    obtain ⟨o, ho⟩ : ∃ o, ops[k]? = some o := ⟨ops[k]'(by omega), by simp⟩
    obtain ⟨y, hy, hi⟩ := hins k o ho
    have hdrop : l.drop k = y :: l.drop (k + 1) := by
      rw [List.drop_eq_getElem_cons hlt]
      congr 1
      rw [List.getElem?_eq_getElem hlt] at hy; cases hy; rfl
    have hr : (List.range ops.size).drop k = k :: (List.range ops.size).drop (k + 1) := by
      rw [List.drop_eq_getElem_cons (by simp; omega)]; simp
    rw [hdrop] at h
    rw [hr, wpOps_cons]
    obtain ⟨ρ, hR⟩ := hR
    exact opS_sound ho hi hR h fun x u a' w' hk' hR' => ops_sound hins hlen n (k + 1) (by omega) hR' hk'
theorem any_sound {Q : Post} (hr : Reg P N ops l D) : ∀ (n : Nat) (listed : Array Bool) {s a w}, Rel F N s a w → sxAny (env P F N) D ops l (Q .normal) n listed s → wpAny P .any ops (PostW F N Q) n listed a w
  | 0, listed, s, a, w, hR, h => ⟨h.1, s, hR, h.2⟩
  | n + 1, listed, s, a, w, hR, h => by
    refine ⟨fun h0 => ⟨s, hR, h.1 h0⟩, fun j hj => ?_⟩
    obtain ⟨i, x, u, hi, ho, hrest⟩ := h.2 j hj
    obtain ⟨_, o, hoj, _⟩ := ready_iff.1 hj
    obtain ⟨i', hi', hins⟩ := hr.ins j o hoj
    rw [hi] at hi'; cases hi'
    obtain ⟨ρ, hR⟩ := hR
    exact opS_sound hoj hins hR (ho.run env_ok (K := fun x' u' => x' = x ∧ u' = u) ⟨rfl, rfl⟩) fun x' u' a' w' hk hR' => by
      obtain ⟨rfl, rfl⟩ := hk
      exact any_sound hr n _ hR' hrest
theorem region_sound {id : Nat} {Q : Post} (hm : P.follows .mixedOrders = true) (hr : Reg P N ops l D) (hR : Rel F N s a w) (h : sxA (env P F N) (annFrom ops l D 0 l) Q (killD D s)) :
    (Code.region id ops true).wp P (PostW F N Q) a w := by
  obtain ⟨ρ, hR⟩ := hR
  have hR' := (hR.killD D).grew (Grew.drawn w (w.drawn + 1))
  refine wp_region_any hm (any_sound hr _ _ ⟨ρ, hR'⟩ ?_)
  refine text_order env_ok hr ops.size 0 _ _ (by omega) (by simp) (fun j => ?_) (fun k y d hk hun hd hmem => ?_) h
  · rw [Array.getD_eq_getD_getElem?]
    by_cases hj : j < ops.size <;> simp [hj]
  · exact killD_mem (.inl hmem)
end Go.Proofs.Ytmeecblciegkkaa.Fw
namespace Go.Proofs.Ytmeecblciegkkaa.Fw
open Go.RowKit
variable {P : Program} {F : Fr} {N : Nat} {ρ : Nat → Value} {s : FS} {a : Act} {w w' : World} {V : View}

theorem RelR.frzs {s' : FS} (hf : Frzs s s') : ∀ {a : Act} {w : World}, RelR F N ρ s a w → RelR F N ρ s' a w := by
  induction hf with
  | refl s => exact fun h => h
  | step n sz es hn _ ih => exact fun h => ih (h.frz hn).1
theorem any_now {E : Env} {D : List Nat} {l : List (I × Nat × List Nat)} {Q : Post} {s : FS} (h : sxA E l Q (killD D s)) : anyK E D l Q s := ⟨s, .refl s, h⟩
theorem any_frz {E : Env} {D : List Nat} {l : List (I × Nat × List Nat)} {Q : Post} {s : FS} {n sz : Nat} {es : List (List PV)} (hn : s.h n = some (.row sz es)) (h : anyK E D l Q (s.frz n (.sl false sz es))) : anyK E D l Q s :=
  let ⟨s', h1, h2⟩ := h
  ⟨s', .step n sz es hn h1, h2⟩
theorem sx_ok (hm : P.follows .mixedOrders = true) : ∀ {code : Code} {c : C}, compile P N code = some c → ∀ {Q : Post} {s : FS} {a : Act} {w : World}, sx (env P F N) c Q s → Rel F N s a w → code.wp P (PostW F N Q) a w
  | .skip, c, hc, Q, s, a, w, h, hR => by
    simp only [compile, Option.some.injEq] at hc; subst hc
    exact wp_skip ⟨s, hR, h⟩
  | .region id ops dr, c, hc, Q, s, a, w, h, hR => by
    simp only [compile] at hc
    split at hc
    · rename_i l hl
      obtain ⟨h1, h2⟩ := ins_all hl
      split at hc
      · rename_i hdr
        split at hc
        · rename_i hok
          simp only [Option.some.injEq] at hc; subst hc
          simp only [hdr]
          split at h
          · obtain ⟨s', h1, h2⟩ := h
            obtain ⟨ρ, hR'⟩ := hR
            exact region_sound hm (reg_of hl hok) ⟨ρ, hR'.frzs h1⟩ h2
          · exact region_sound hm (reg_of hl hok) hR h
        · cases hc; exact (show False from h).elim
      · rename_i hdr
        simp only [Option.some.injEq] at hc; subst hc
        have : dr = false := by cases dr <;> simp_all
        subst this
        exact wp_region (ops_sound h2 h1 ops.size 0 (by omega) hR h)
    · cases hc; exact (show False from h).elim
  | .seq x y, c, hc, Q, s, a, w, h, hR => by
    simp only [compile] at hc
    split at hc
    · rename_i c1 c2 h1 h2
      simp only [Option.some.injEq] at hc; subst hc
      refine wp_seq (wp_mono (sx_ok hm h1 h hR) fun e a' w' he => ?_)
      cases e with
      | normal => obtain ⟨s', hR', h'⟩ := he; exact sx_ok hm h2 h' hR'
      | exit id => exact he
      | ret => exact he
      | goto _ => exact he
      | panic _ => exact he
      | outgrown => exact he
    · cases hc
  | .cond q x y, c, hc, Q, s, a, w, h, hR => by
    simp only [compile] at hc
    split at hc
    · rename_i o c1 c2 h0 h1 h2
      simp only [Option.some.injEq] at hc; subst hc
      obtain ⟨ρ, hR'⟩ := id hR
      have hcv := conc_opd (s := s) (a := a) h0 hR'.tmps
      simp only [sx] at h
      split at h
      · rename_i p hp
        rw [hp] at hcv
        cases p with
        | true => exact wp_cond (inv_b hcv) (sx_ok hm h1 (by simpa using h) hR)
        | false => exact wp_cond (inv_b hcv) (sx_ok hm h2 (by simpa using h) hR)
      · exact h.elim
    · cases hc
  | .block id x, c, hc, Q, s, a, w, h, hR => by
    simp only [compile] at hc
    obtain ⟨c1, h1, rfl⟩ := Option.map_eq_some_iff.1 hc
    refine wp_block (wp_mono (sx_ok hm h1 h hR) fun e a' w' he => ?_)
    cases e with
    | normal => exact he
    | exit id' =>
      obtain ⟨s', hR', h'⟩ := he
      simp only [inBlk] at h'
      simp only [Exit.inBlock]
      split
      · rename_i e; rw [if_pos e] at h'; exact ⟨s', hR', h'⟩
      · rename_i e; rw [if_neg e] at h'; exact ⟨s', hR', h'⟩
    | ret => exact he
    | goto _ => exact he
    | panic _ => exact he
    | outgrown => exact he
  | .loop x, c, hc, Q, s, a, w, h, hR => by
    simp only [compile] at hc
    obtain ⟨c1, h1, rfl⟩ := Option.map_eq_some_iff.1 hc
    exact h x h1 a w hR
  | .exit id, c, hc, Q, s, a, w, h, hR => by
    simp only [compile, Option.some.injEq] at hc; subst hc
    exact wp_exit ⟨s, hR, h⟩
  | .ret, c, hc, Q, s, a, w, h, hR => by
    simp only [compile, Option.some.injEq] at hc; subst hc
    exact wp_ret ⟨s, hR, h⟩
  | .label _, c, hc, Q, s, a, w, h, hR => by
    simp only [compile, Option.some.injEq] at hc; subst hc
    exact wp_label ⟨s, hR, h⟩
  | .goto _, c, hc, Q, s, a, w, h, hR => by
    simp only [compile, Option.some.injEq] at hc; subst hc
    exact (show False from h).elim
  | .rangeFunc .., c, hc, Q, s, a, w, h, hR => by
    simp only [compile, Option.some.injEq] at hc; subst hc
    exact (show False from h).elim
  | .refuse _, c, hc, Q, s, a, w, h, hR => by
    simp only [compile, Option.some.injEq] at hc; subst hc
    exact (show False from h).elim
  | .scope x, c, hc, Q, s, a, w, h, hR => by
    simp only [compile] at hc
    refine wp_scope_straight (wp_mono (sx_ok hm hc h hR) fun e a' w' he => ?_)
    cases e with
    | normal => exact he
    | exit id => exact he
    | ret => exact he
    | goto _ => exact he
    | panic _ => exact he
    | outgrown => exact he

/-! Less is known: some of what was known may be forgotten, or be told otherwise. -/
def Imp (x y : SV) : Prop := ∀ (V : View) (ρ : Nat → Value) (v : Value), Conc V ρ x v → Conc V ρ y v
theorem Imp.refl (x : SV) : Imp x x := fun _ _ _ h => h
theorem Imp.dead (x : SV) : Imp x .dead := fun _ _ _ _ => by simp only [Conc]
def ImpB : Blk → Blk → Prop
  | .var x, .var y => Imp x y ∧ x.width = y.width
  | .row sz es, .row sz' es' => sz = sz' ∧ es = es'
  | .rowc sz es c, .rowc sz' es' c' => sz = sz' ∧ es = es' ∧ c = c'
  | .rowc sz es _, .row sz' es' => sz = sz' ∧ es = es'
  | _, _ => False
def impB (o : Option Blk) (b : Blk) : Prop := match o with
  | some b' => ImpB b' b
  | none => False
structure Weak (s s' : FS) : Prop where
  t : ∀ n, Imp (s.t n) (s'.t n)
  h : ∀ n b', s'.h n = some b' → impB (s.h n) b'
theorem RelR.weak (h : RelR F N ρ s a w) {s' : FS} (hw : Weak s s') : RelR F N ρ s' a w := by
  have hs : ∀ n b', s'.h n = some b' → ∃ b, s.h n = some b ∧ ImpB b b' := fun n b' hb => by
    have := hw.h n b' hb
    cases hx : s.h n with
    | none => rw [hx] at this; exact this.elim
    | some b => rw [hx] at this; exact ⟨b, rfl, this⟩
  have how : ∀ b, owned ρ s'.h b → owned ρ s.h b := fun b ⟨n, x, h1, h2⟩ => by
    obtain ⟨y, h3, _⟩ := hs n x h1
    exact ⟨n, y, h3, h2⟩
  have hV : (viewOf w (F.out ρ s.h)).le (viewOf w (F.out ρ s'.h)) := viewOf_le fun b c ho hc => ⟨fun hb => ho (hb.imp_left (how b)), hc⟩
  refine ⟨h.fr, fun b hb => h.may b (how b hb), fun n b' hb' => ?_, fun n m x y b hn hm => ?_, fun n => (hw.t n _ _ _ (h.tmps n)).mono hV, h.size, h.defers⟩
  · obtain ⟨b, h1, h2⟩ := hs n b' hb'
    have ho := (h.own n b h1).congr hV (fun _ _ => rfl)
    cases b with
    | var x =>
      cases b' with
      | var y =>
        obtain ⟨b, vs, ty, fr, u, g1, g2, g3, g4, g5, g6, g7⟩ := ho
        exact ⟨b, vs, ty, fr, u, g1, g2, g3, h2.1 _ _ _ g4, g5, g6.trans h2.2, g7⟩
      | row _ _ => exact h2.elim
      | rowc _ _ _ => exact h2.elim
    | row sz es =>
      cases b' with
      | var y => exact h2.elim
      | row sz' es' => obtain ⟨rfl, rfl⟩ := h2; exact ho
      | rowc _ _ _ => exact h2.elim
    | rowc sz es c =>
      cases b' with
      | var y => exact h2.elim
      | row sz' es' => obtain ⟨rfl, rfl⟩ := h2; obtain ⟨base, g⟩ := ho; exact ⟨base, c, g⟩
      | rowc sz' es' c' => obtain ⟨rfl, rfl, rfl⟩ := h2; exact ho
  · obtain ⟨x', h1, _⟩ := hs n x hn
    obtain ⟨y', h2, _⟩ := hs m y hm
    exact h.inj n m x' y' b h1 h2
/-- checked slot by slot -/
def impT (s : FS) : List (Nat × SV) → Prop
  | [] => True
  | (n, x) :: l => Imp (s.t n) x ∧ impT s l
def impH (s : FS) : List (Nat × Option Blk) → Prop
  | [] => True
  | (n, some b) :: l => impB (s.h n) b ∧ impH s l
  | (n, none) :: l => impH s l
theorem weak_mk0 {T : List (Nat × SV)} {H : List (Nat × Option Blk)} (h1 : impT s T) (h2 : impH s H) : Weak s (mk T H) := by
  refine ⟨fun n => ?_, fun n b' hb => ?_⟩
  · simp only [mk]
    induction T with
    | nil => exact Imp.dead _
    | cons p l ih =>
      obtain ⟨j, x⟩ := p
      simp only [impT] at h1
      simp only [lk]
      split
      · rename_i e; subst e; exact h1.1
      · exact ih h1.2
  · simp only [mk] at hb
    induction H with
    | nil => simp [lk] at hb
    | cons p l ih =>
      obtain ⟨j, x⟩ := p
      cases x with
      | none =>
        simp only [impH] at h2
        simp only [lk] at hb
        split at hb
        · cases hb
        · exact ih h2 hb
      | some c =>
        simp only [impH] at h2
        simp only [lk] at hb
        split at hb
        · rename_i e; subst e; cases hb; exact h2.1
        · exact ih h2.2 hb

mutual
/-- another name for what was n -/
def SV.ren (n m : Nat) : SV → SV
  | .p k o => if k = n then .p m o else if k = m then .dead else .p k o
  | .ps k o => if k = n then .ps m o else if k = m then .dead else .ps k o
  | .pr k z i o => if k = n then .pr m z i o else if k = m then .dead else .pr k z i o
  | .os k => if k = n then .os m else if k = m then .dead else .os k
  | .ov k z a b => if k = n then .ov m z a b else if k = m then .dead else .ov k z a b
  | .agg l => .agg (SV.renL n m l)
  | .tup l => .tup (SV.renL n m l)
  | .fn f l => .fn f (SV.renL n m l)
  | x => x
def SV.renL (n m : Nat) : List SV → List SV
  | [] => []
  | x :: l => SV.ren n m x :: SV.renL n m l
end
def Blk.ren (n m : Nat) : Blk → Blk
  | .var x => .var (x.ren n m)
  | b => b
mutual
theorem width_ren (n m : Nat) : ∀ x : SV, (x.ren n m).width = x.width
  | .pv x => by simp only [SV.ren]
  | .vec k cs => by simp only [SV.ren]
  | .agg l => by simp only [SV.ren, SV.width]; exact widthL_ren n m l
  | .tup l => by simp only [SV.ren, SV.width]
  | .p k off => by simp only [SV.ren]; split <;> (try split) <;> simp only [SV.width]
  | .ps k off => by simp only [SV.ren]; split <;> (try split) <;> simp only [SV.width]
  | .pr k sz i off => by simp only [SV.ren]; split <;> (try split) <;> simp only [SV.width]
  | .pi sz es i off => by simp only [SV.ren]
  | .os k => by simp only [SV.ren]; split <;> (try split) <;> simp only [SV.width]
  | .ov k z a b => by simp only [SV.ren]; split <;> (try split) <;> simp only [SV.width]
  | .fn f cap => by simp only [SV.ren, SV.width]
  | .dead => by simp only [SV.ren]
theorem widthL_ren (n m : Nat) : ∀ l : List SV, SV.widthL (SV.renL n m l) = SV.widthL l
  | [] => by simp only [SV.renL]
  | x :: l => by simp only [SV.renL, SV.widthL, width_ren n m x, widthL_ren n m l]
end
mutual
theorem Conc.ren {ρ : Nat → Value} {n m : Nat} : ∀ {x : SV} {v}, Conc V ρ x v → Conc V (upd ρ m (ρ n)) (x.ren n m) v
  | .pv x, v, h => by simp only [SV.ren, Conc] at *; exact h
  | .vec k cs, v, h => by simp only [SV.ren, Conc] at *; exact h
  | .agg l, v, h => by simp only [SV.ren, Conc] at *; obtain ⟨vs, a, b⟩ := h; exact ⟨vs, a, Cells.ren b⟩
  | .tup l, v, h => by simp only [SV.ren, Conc] at *; obtain ⟨vs, a, b⟩ := h; exact ⟨vs, a, ConcL.ren b⟩
  | .p k off, v, h => by
    simp only [SV.ren]; split
    · rename_i e; subst e; simp only [Conc, upd_self] at *; exact h
    · split
      · simp only [Conc]
      · rename_i hn; simp only [Conc] at *; rw [upd_ne hn]; exact h
  | .ps k off, v, h => by
    simp only [SV.ren]; split
    · rename_i e; subst e; simp only [Conc, upd_self] at *; exact h
    · split
      · simp only [Conc]
      · rename_i hn; simp only [Conc] at *; rw [upd_ne hn]; exact h
  | .pr k sz i off, v, h => by
    simp only [SV.ren]; split
    · rename_i e; subst e; simp only [Conc, upd_self] at *; exact h
    · split
      · simp only [Conc]
      · rename_i hn; simp only [Conc] at *; rw [upd_ne hn]; exact h
  | .pi sz es i off, v, h => by simp only [SV.ren, Conc] at *; exact h
  | .os k, v, h => by
    simp only [SV.ren]; split
    · rename_i e; subst e; simp only [Conc, upd_self] at *; exact h
    · split
      · simp only [Conc]
      · rename_i hn; simp only [Conc] at *; rw [upd_ne hn]; exact h
  | .ov k z lo hi, v, h => by
    simp only [SV.ren]; split
    · rename_i e; subst e; simp only [Conc, upd_self] at *; exact h
    · split
      · simp only [Conc]
      · rename_i hn; simp only [Conc] at *; rw [upd_ne hn]; exact h
  | .fn f cap, v, h => by simp only [SV.ren, Conc] at *; obtain ⟨vs, a, b⟩ := h; exact ⟨vs, a, ConcL.ren b⟩
  | .dead, v, h => by simp only [SV.ren, Conc]
theorem ConcL.ren {ρ : Nat → Value} {n m : Nat} : ∀ {l : List SV} {vs}, ConcL V ρ l vs → ConcL V (upd ρ m (ρ n)) (SV.renL n m l) vs
  | [], vs, h => by simp only [SV.renL, ConcL] at *; exact h
  | x :: l, vs, h => by simp only [SV.renL, ConcL] at *; obtain ⟨u, us, a, b, c⟩ := h; exact ⟨u, us, a, Conc.ren b, ConcL.ren c⟩
theorem Cells.ren {ρ : Nat → Value} {n m : Nat} : ∀ {l : List SV} {vs}, Cells V ρ l vs → Cells V (upd ρ m (ρ n)) (SV.renL n m l) vs
  | [], vs, h => by simp only [SV.renL, Cells] at *; exact h
  | x :: l, vs, h => by
    simp only [SV.renL, Cells] at *
    obtain ⟨u, us, a, b, c, d, e⟩ := h
    exact ⟨u, us, a, Conc.ren b, by rw [width_ren]; exact c, d, Cells.ren e⟩
end
/-- the block n is called m from now on -/
def FS.ren (s : FS) (n m : Nat) : FS := ⟨fun k => (s.t k).ren n m, fun k => if k = m then (s.h n).map (Blk.ren n m) else if k = n then none else (s.h k).map (Blk.ren n m)⟩
theorem RelR.ren (h : RelR F N ρ s a w) {n m : Nat} (hne : n ≠ m) (hm : s.h m = none) : RelR F N (Fw.upd ρ m (ρ n)) (s.ren n m) a w := by
  have hh : ∀ k x, (s.ren n m).h k = some x → ∃ k' y, s.h k' = some y ∧ x = y.ren n m ∧ Fw.upd ρ m (ρ n) k = ρ k' ∧ k' = (if k = m then n else k) ∧ (k ≠ m → k ≠ n) := fun k x hx => by
    simp only [FS.ren] at hx
    split at hx
    · rename_i e
      obtain ⟨y, h1, h2⟩ := Option.map_eq_some_iff.1 hx
      exact ⟨n, y, h1, h2.symm, by rw [e, upd_self], by rw [if_pos e], fun h => absurd e h⟩
    · rename_i e
      split at hx
      · cases hx
      · rename_i e2
        obtain ⟨y, h1, h2⟩ := Option.map_eq_some_iff.1 hx
        exact ⟨k, y, h1, h2.symm, upd_ne e, by rw [if_neg e], fun _ => e2⟩
  have how : ∀ b, owned (Fw.upd ρ m (ρ n)) (s.ren n m).h b ↔ owned ρ s.h b := fun b => by
    constructor
    · rintro ⟨k, x, h1, h2⟩
      obtain ⟨k', y, h3, _, h4, _⟩ := hh k x h1
      exact ⟨k', y, h3, by rw [← h4]; exact h2⟩
    · rintro ⟨k, x, h1, h2⟩
      by_cases e : k = n
      · subst e; exact ⟨m, x.ren k m, by simp [FS.ren, h1], by rw [upd_self]; exact h2⟩
      · have e2 : k ≠ m := fun e2 => by subst e2; rw [hm] at h1; cases h1
        exact ⟨k, x.ren n m, by simp [FS.ren, e, e2, h1], by rw [upd_ne e2]; exact h2⟩
  have hV : viewOf w (F.out (Fw.upd ρ m (ρ n)) (s.ren n m).h) = viewOf w (F.out ρ s.h) := by
    congr 1
    funext b
    exact propext (or_congr_left (how b))
  refine ⟨h.fr, fun b hb => h.may b ((how b).1 hb), fun k x hx => ?_, fun k l x y b hk hl hbk hbl => ?_, fun k => by rw [hV]; exact (h.tmps k).ren, h.size, h.defers⟩
  · obtain ⟨k', y, h1, rfl, h2, _⟩ := hh k x hx
    rw [hV]
    have ho := h.own k' y h1
    cases y with
    | var x =>
      obtain ⟨b, vs, ty, fr, u, g1, g2, g3, g4, g5, g6, g7⟩ := ho
      exact ⟨b, vs, ty, fr, u, by rw [h2]; exact g1, g2, g3, g4.ren, g5, by rw [width_ren]; exact g6, g7⟩
    | row sz es =>
      obtain ⟨base, cap, g1, g2⟩ := ho
      exact ⟨base, cap, by rw [h2]; exact g1, g2⟩
    | rowc sz es c =>
      obtain ⟨base, g1, g2⟩ := ho
      exact ⟨base, by rw [h2]; exact g1, g2⟩
  · obtain ⟨k', y1, h1, _, h2, h3, h4⟩ := hh k x hk
    obtain ⟨l', y2, g1, _, g2, g3, g4⟩ := hh l y hl
    have := h.inj k' l' y1 y2 b h1 g1 (by rw [← h2]; exact hbk) (by rw [← g2]; exact hbl)
    rw [h3, g3] at this
    by_cases e1 : k = m <;> by_cases e2 : l = m
    · rw [e1, e2]
    · rw [if_pos e1, if_neg e2] at this; exact absurd this.symm (g4 e2)
    · rw [if_neg e1, if_pos e2] at this; exact absurd this (h4 e1)
    · rw [if_neg e1, if_neg e2] at this; exact this
/-- the nil slice is a row of one's own, with nothing in it -/
theorem RelR.nilrow (h : RelR F N ρ s a w) {t n z sz : Nat} (ht : s.t t = .pv (.sl true z [])) (hs : 0 < sz) : ∃ ρ', RelR F N ρ' (((s.kill n).seth n (some (.row sz []))).set t (.os n)) a w := by
  have hc := h.tmps t
  rw [ht] at hc
  simp only [Conc] at hc
  have hv : ∃ base, a.tmps.getD t undef = .slice base 0 0 := by
    generalize a.tmps.getD t undef = v at hc
    cases hc with
    | sl full sz es b cap cs bl off arr hcap hfull hsz ha hcs hel =>
      have := hfull rfl
      simp at this
      subst this
      exact ⟨b, rfl⟩
  obtain ⟨base, hv⟩ := hv
  obtain ⟨hR, hV⟩ := h.adopt (Grew.refl w) n (.row sz []) (.slice base 0 0) (fun b hb => by cases base <;> simp [idOf] at hb) fun hV => ⟨base, 0, by rw [upd_self]; rfl, Nat.le_refl _, hs, by simp, fun h => absurd rfl h⟩
  refine ⟨_, hR.fr, hR.may, hR.own, hR.inj, fun k => ?_, hR.size, hR.defers⟩
  simp only [FS.set]
  by_cases hk : k = t
  · subst hk
    simp only [if_true, Conc, upd_self]
    exact ⟨hv, by rw [hv]; trivial⟩
  · simp only [hk, if_false]; exact hR.tmps k
/-- less is known, other names -/
inductive Wk : FS → FS → Prop where
  | weak {s s' : FS} (h : Weak s s') : Wk s s'
  | ren {s s' : FS} (n m : Nat) (hne : n ≠ m) (hm : s.h m = none) (h : Wk (s.ren n m) s') : Wk s s'
  | nil {s s' : FS} (t n z sz : Nat) (ht : s.t t = .pv (.sl true z [])) (hs : 0 < sz) (h : Wk (((s.kill n).seth n (some (.row sz []))).set t (.os n)) s') : Wk s s'
theorem Rel.wk {s' : FS} (hw : Wk s s') : ∀ {a : Act} {w : World}, Rel F N s a w → Rel F N s' a w := by
  induction hw with
  | weak h => exact fun ⟨ρ, hR⟩ => ⟨ρ, hR.weak h⟩
  | ren n m hne hm _ ih => exact fun ⟨ρ, hR⟩ => ih ⟨_, hR.ren hne hm⟩
  | nil t n z sz ht hs _ ih => exact fun ⟨ρ, hR⟩ => ih (hR.nilrow ht hs)

theorem least {T : Nat → Prop} (h : ∃ n, T n) : ∃ n, T n ∧ ∀ m, T m → n ≤ m := by
  obtain ⟨n, hn⟩ := h
  induction n using Nat.strongRecOn with
  | _ n ih =>
    by_cases hx : ∃ m, m < n ∧ T m
    · obtain ⟨m, h1, h2⟩ := hx; exact ih m h1 h2
    · refine ⟨n, hn, fun m hm => ?_⟩
      rcases Nat.lt_or_ge m n with h | h
      · exact absurd ⟨m, h, hm⟩ hx
      · exact h
theorem weak_mk {T : List (Nat × SV)} {H : List (Nat × Option Blk)} (h1 : impT s T) (h2 : impH s H) : Wk s (mk T H) := .weak (weak_mk0 h1 h2)
/-- a loop -/
def loopQ {α : Type} (I : α → FS) (J : α → Prop) (m : α → Nat) (x : α) (Q : Post) : Post
  | .normal, s => ∃ y, J y ∧ m y < m x ∧ Wk s (I y)
  | e, s => Q e s
theorem loop_ok (hm : P.follows .mixedOrders = true) {α : Type} (I : α → FS) (J : α → Prop) (m : α → Nat) (x₀ : α) {c : C} {Q : Post} (h0 : J x₀) (hw : Wk s (I x₀))
    (hround : ∀ x, J x → sx (env P F N) c (loopQ I J m x Q) (I x)) : (env P F N).loop c Q s := by
  intro code hc a w hR
  classical
  let T : Act → World → Nat → Prop := fun a w n => ∃ x, J x ∧ Rel F N (I x) a w ∧ m x = n
  let μ : Act → World → Nat := fun a w => if h : ∃ n, T a w n then (least h).choose else 0
  refine wp_loop (fun a w => ∃ x, J x ∧ Rel F N (I x) a w) μ ⟨x₀, h0, hR.wk hw⟩ fun a w ⟨x, hJ, hRx⟩ => ?_
  have hex : ∃ n, T a w n := ⟨m x, x, hJ, hRx, rfl⟩
  obtain ⟨⟨x', hJ', hR', hmx⟩, _⟩ := (least hex).choose_spec
  have hμ : μ a w = m x' := by simp only [μ, dif_pos hex]; exact hmx.symm
  refine wp_mono (sx_ok hm hc (hround x' hJ') hR') fun e a' w' he => ?_
  cases e with
  | normal =>
    obtain ⟨s', hs', y, hJy, hlt, hwk⟩ := he
    have hy : T a' w' (m y) := ⟨y, hJy, hs'.wk hwk, rfl⟩
    refine ⟨⟨y, hJy, hs'.wk hwk⟩, ?_⟩
    have hex' : ∃ n, T a' w' n := ⟨_, hy⟩
    have : μ a' w' ≤ m y := by simp only [μ, dif_pos hex']; exact (least hex').choose_spec.2 _ hy
    omega
  | exit id => exact he
  | ret => exact he
  | goto _ => exact he
  | panic _ => exact he
  | outgrown => exact he
end Go.Proofs.Ytmeecblciegkkaa.Fw
namespace Go.Proofs.Ytmeecblciegkkaa.Fw
open Go.RowKit
variable {P : Program} {F : Fr} {N : Nat} {ρ ρ' : Nat → Value} {s : FS} {a : Act} {w w' : World} {V V' : View}

/-! A function of the program, and what its calls bring. -/
def argT : Nat → List SV → List (Nat × SV)
  | _, [] => []
  | k, x :: l => (k, x) :: argT (k + 1) l
/-- where a result lies: in a temporary, or in a variable that a temporary points to -/
inductive Rv where
  | t (n : Nat)
  | c (a size : Nat) (ag : Bool)
def resK (s : FS) : List Rv → (List SV → Prop) → Prop
  | [], K => K []
  | .t n :: rs, K => resK s rs fun l => K (s.t n :: l)
  | .c a size ag :: rs, K => ldSem s.h size ag (s.t a) fun x u => u = [] ∧ resK s rs fun l => K (x :: l)
def one : List SV → SV
  | [x] => x
  | l => .tup l
def RetQ (rs : List Rv) (R : SV → (Nat → Option Blk) → Prop) : Post
  | .normal, s => resK s rs fun l => R (one l) s.h
  | .ret, s => resK s rs fun l => R (one l) s.h
  | _, _ => False
def rvOf (P : Program) : ResultVar → Option Rv
  | .tmp t => some (.t t)
  | .cell a t => match sizeOfT P t, aggT P t with
    | some sz, some ag => if sz = 0 then none else some (.c a sz ag)
    | _, _ => none
/-- a function as the small language has it: the number of its temporaries, where its results lie, its text -/
def fnOf (P : Program) (f : Nat) : Option (Nat × List Rv × C) := match P.funcs[f]? with
  | some fn => match fn.body, allSome (fn.results.toList.map (rvOf P)) with
    | some code, some rs => if fn.name = "runtime.NumGoroutine" then none else (compile P fn.ntmps code).map fun c => (fn.ntmps, rs, c)
    | _, _ => none
  | none => none
theorem fnOf_ok {f : Nat} {rs : List Rv} {c : C} (h : fnOf P f = some (N, rs, c)) : ∃ fn code, P.funcs[f]? = some fn ∧ fn.name ≠ "runtime.NumGoroutine" ∧ fn.body = some code ∧ fn.ntmps = N ∧ allSome (fn.results.toList.map (rvOf P)) = some rs ∧ compile P N code = some c := by
  unfold fnOf at h
  split at h
  · rename_i fn hf
    split at h
    · rename_i code rs' hb hr
      split at h
      · cases h
      · rename_i hn
        obtain ⟨c', hc, e⟩ := Option.map_eq_some_iff.1 h
        cases e
        exact ⟨fn, code, hf, hn, hb, rfl, hr, hc⟩
    · cases h
  · cases h
theorem asAddr_of {t : TypeId} {x v : Value} (h : (Instr.loadAt t x).run P w = .ok v w) : (do loadVar t (← asAddr x) : Sem Value).run P w = .ok v w := by
  unfold Instr.loadAt at h
  cases x <;> first | exact h | skip
  all_goals first | (rename_i o; cases o <;> first | exact h | (cases h)) | (cases h)
theorem run_res (tmps : Array Value) (g : ResultVar → Sem Value) (hg : ∀ t, g (.tmp t) = pure (tmps.getD t undef)) (hg' : ∀ a t v, (Instr.loadAt t (tmps.getD a undef)).run P w = .ok v w → (g (.cell a t)).run P w = .ok v w) (hR : RelR F N ρ s a w) (ht : a.tmps = tmps) :
    ∀ (vars : List ResultVar) (rs : List Rv) (K : List SV → Prop) (acc : Array Value), allSome (vars.map (rvOf P)) = some rs → resK s rs K →
      ∃ l vs, K l ∧ ConcL (vw F w ρ s) ρ l vs ∧ (List.foldlM (fun (bs : Array Value) r => bs.push <$> g r) acc vars).run P w = .ok (acc ++ (⟨vs⟩ : Array Value)) w
  | [], rs, K, acc, h, hk => by
    simp only [List.map_nil, allSome, Option.some.injEq] at h
    subst h
    exact ⟨[], [], hk, by simp only [ConcL], by simp⟩
  | x :: vars, rs, K, acc, h, hk => by
    obtain ⟨r, rs', rfl, h1, h2⟩ := allSome_cons (show allSome (rvOf P x :: vars.map (rvOf P)) = some rs from h)
    have key : ∀ (v : Value) (y : SV), (g x).run P w = .ok v w → Conc (vw F w ρ s) ρ y v → (resK s rs' fun l => K (y :: l)) →
        ∃ l vs, K l ∧ ConcL (vw F w ρ s) ρ l vs ∧ (List.foldlM (fun (bs : Array Value) r => bs.push <$> g r) acc (x :: vars)).run P w = .ok (acc ++ (⟨vs⟩ : Array Value)) w := fun v y hv hy hk' => by
      obtain ⟨l, vs, k1, k2, k3⟩ := run_res tmps g hg hg' hR ht vars rs' _ (acc.push v) h2 hk'
      refine ⟨y :: l, v :: vs, k1, by simp only [ConcL]; exact ⟨v, vs, rfl, hy, k2⟩, ?_⟩
      rw [List.foldlM_cons]
      have : (acc.push <$> g x : Sem (Array Value)).run P w = .ok (acc.push v) w := by
        rw [← bind_pure_comp]
        rw [run_bind_ok hv]; rfl
      rw [run_bind_ok this, k3]
      congr 1
      exact Array.toList_inj.1 (by simp)
    cases x with
    | tmp t =>
      simp only [rvOf, Option.some.injEq] at h1
      subst h1
      simp only [resK] at hk
      refine key (tmps.getD t undef) (s.t t) (by rw [hg]; rfl) ?_ hk
      rw [← ht]; exact hR.tmps t
    | cell b t =>
      simp only [rvOf] at h1
      split at h1
      · rename_i sz ag hsz hag
        split at h1
        · cases h1
        · rename_i hne
          simp only [Option.some.injEq] at h1
          subst h1
          simp only [resK] at hk
          obtain ⟨v, y, g1, g2, g3⟩ := ld_ok (P := P) hR (hR.tmps b) (by omega) hsz hag hk
          exact key v y (hg' b t v (by rw [← ht]; exact g1)) g3 g2.2
      · cases h1
theorem run_results {fn : Func} {rs : List Rv} (hR : RelR F N ρ s a w) (h : allSome (fn.results.toList.map (rvOf P)) = some rs) {K : List SV → Prop} (hk : resK s rs K) :
    ∃ l v, K l ∧ Conc (vw F w ρ s) ρ (one l) v ∧ (results fn a.tmps).run P w = .ok v w := by
  unfold results
  rw [Array.mapM_eq_foldlM]
  rw [← Array.foldlM_toList]
  obtain ⟨l, vs, h1, h2, h3⟩ := run_res (P := P) a.tmps (fun x => match x with
      | .tmp t => pure (a.tmps.getD t undef)
      | .cell b t => do loadVar t (← asAddr (a.tmps.getD b undef))) (fun _ => rfl) (fun b t v hv => asAddr_of hv) hR rfl fn.results.toList rs K #[] h hk
  refine ⟨l, _, h1, ?_, (run_bind_ok h3).trans rfl⟩
  cases l with
  | nil => simp only [ConcL] at h2; subst h2; simp only [one, Conc]; exact ⟨[], rfl, by simp only [ConcL]⟩
  | cons x l =>
    simp only [ConcL] at h2
    obtain ⟨v, us, rfl, h4, h5⟩ := h2
    cases l with
    | nil => simp only [ConcL] at h5; subst h5; simpa [one] using h4
    | cons y l =>
      have h5' := h5
      simp only [ConcL] at h5
      obtain ⟨v', us', rfl, h6, h7⟩ := h5
      simp only [one, Conc]
      refine ⟨v :: v' :: us', ?_, by simp only [ConcL]; exact ⟨v, _, rfl, h4, v', us', rfl, h6, h7⟩⟩
      simp
theorem argT_conc : ∀ {args : List SV} {vs : List Value} (k : Nat) (n : Nat), ConcL V ρ args vs → Conc V ρ (lk .dead n (argT k args)) (if k ≤ n then (vs[n - k]?).getD undef else undef)
  | [], vs, k, n, h => by simp [argT, lk, Conc]
  | x :: l, vs, k, n, h => by
    simp only [ConcL] at h
    obtain ⟨v, us, rfl, h1, h2⟩ := h
    simp only [argT, lk]
    split
    · rename_i e; subst e; simp; exact h1
    · rename_i e
      have := argT_conc (k + 1) n h2
      by_cases hk : k ≤ n
      · have hk' : k + 1 ≤ n := by omega
        rw [if_pos hk'] at this
        rw [if_pos hk]
        have : n - k = (n - (k + 1)) + 1 := by omega
        rw [this]; simpa using argT_conc (k + 1) n h2 |> fun q => by rw [if_pos hk'] at q; exact q
      · rw [if_neg (by omega)] at this
        rw [if_neg hk]; exact this

theorem call_core (hm : P.follows .mixedOrders = true) {f : Nat} {rs : List Rv} {c : C} (hf : fnOf P f = some (N, rs, c)) {hid : Nat → Prop} (hhid : ∀ b, hid b → b < w.heap.size) {args : List SV} {vs : List Value} (hlen : args.length ≤ N)
    (hc : ConcL (viewOf w hid) ρ args vs) {R : SV → (Nat → Option Blk) → Prop} (hrun : sx (env P ⟨w, fun _ => False, hid⟩ N) c (RetQ rs R) (mk (argT 0 args) [])) :
    Calls P f ⟨vs⟩ w fun e w' => ∃ v ρ' s' a' y, e = .returned v ∧ RelR ⟨w, fun _ => False, hid⟩ N ρ' s' a' w' ∧ Conc (vw ⟨w, fun _ => False, hid⟩ w' ρ' s') ρ' y v ∧ R y s'.h := by
  obtain ⟨fn, code, h1, h2, h3, h4, h5, h6⟩ := fnOf_ok hf
  subst h4
  have hvl : vs.length = args.length := by
    clear hrun hlen
    induction args generalizing vs with
    | nil => simp only [ConcL] at hc; subst hc; rfl
    | cons x l ih =>
      simp only [ConcL] at hc
      obtain ⟨v, us, rfl, _, h⟩ := hc
      simp [ih h]
  have hR : RelR ⟨w, fun _ => False, hid⟩ fn.ntmps ρ (mk (argT 0 args) []) { tmps := (⟨vs⟩ : Array Value) ++ Array.replicate (fn.ntmps - (⟨vs⟩ : Array Value).size) undef, defers := [] } w := by
    have how : ∀ b, ¬ owned ρ (mk (argT 0 args) []).h b := fun b ⟨n, x, h, _⟩ => by simp [mk, lk] at h
    have hV : (viewOf w hid).le (viewOf w ((⟨w, fun _ => False, hid⟩ : Fr).out ρ (mk (argT 0 args) []).h)) :=
      viewOf_le fun b c ho hc => ⟨fun hb => hb.elim (how b) ho, hc⟩
    refine ⟨⟨rfl, rfl, rfl, Nat.le_refl _, fun _ _ _ => rfl, fun b hb => ⟨hhid b hb, id⟩⟩, fun b hb => absurd hb (how b), fun n x hx => by simp [mk, lk] at hx, fun n m x y b hx => by simp [mk, lk] at hx, fun n => ?_, by simp; omega, rfl⟩
    have := (argT_conc 0 n hc).mono hV
    simp only [Nat.zero_le, if_true, Nat.sub_zero] at this
    simp only [mk]
    have he : ((⟨vs⟩ : Array Value) ++ Array.replicate (fn.ntmps - (⟨vs⟩ : Array Value).size) undef).getD n undef = (vs[n]?).getD undef := by
      rw [Array.getD_eq_getD_getElem?]
      by_cases hn : n < vs.length
      · rw [Array.getElem?_append_left (by simpa using hn)]; simp
      · rw [Array.getElem?_append_right (by simpa using hn)]
        rw [List.getElem?_eq_none (by omega)]
        simp only [Array.getElem?_replicate, Option.getD_none]
        split <;> rfl
    rw [he]; exact this
  refine calls_of_wp h1 h3 (wp_mono (sx_ok hm h6 hrun ⟨ρ, hR⟩) fun e a' w' he => ?_)
  have fin : (∃ s, Rel ⟨w, fun _ => False, hid⟩ fn.ntmps s a' w' ∧ resK s rs fun l => R (one l) s.h) → a'.defers = [] ∧ ∃ v, (results fn a'.tmps).run P w' = .ok v w' ∧ ∃ v' ρ' s' a' y, Ending.returned v = .returned v' ∧ RelR ⟨w, fun _ => False, hid⟩ fn.ntmps ρ' s' a' w' ∧ Conc (vw ⟨w, fun _ => False, hid⟩ w' ρ' s') ρ' y v' ∧ R y s'.h := fun ⟨s', ⟨ρ', hR'⟩, hr⟩ => by
    obtain ⟨l, v, k1, k2, k3⟩ := run_results (P := P) hR' h5 hr
    exact ⟨hR'.defers, v, k3, v, ρ', s', a', _, rfl, hR', k2, k1⟩
  cases e with
  | normal => exact fin he
  | ret => exact fin he
  | exit id => obtain ⟨_, _, h⟩ := he; exact h.elim
  | goto _ => exact he.elim
  | panic _ => exact he.elim
  | outgrown => exact he.elim
end Go.Proofs.Ytmeecblciegkkaa.Fw
namespace Go.Proofs.Ytmeecblciegkkaa.Fw
open Go.RowKit
variable {P : Program} {F : Fr} {N : Nat} {ρ ρ' : Nat → Value} {s : FS} {a : Act} {w w' : World} {V V' : View}

mutual
/-- nothing of a value hangs on names -/
def SV.closed : SV → Bool
  | .pv _ => true
  | .vec _ _ => true
  | .agg l => SV.closedL l
  | .tup l => SV.closedL l
  | .pi _ _ _ _ => true
  | .fn _ l => SV.closedL l
  | .dead => true
  | _ => false
def SV.closedL : List SV → Bool
  | [] => true
  | x :: l => x.closed && SV.closedL l
end
mutual
theorem closed_conc (hV : V.le V') : ∀ {x : SV} {v : Value}, x.closed = true → Conc V ρ x v → Conc V' ρ' x v
  | .pv x, v, _, h => by simp only [Conc] at *; exact h.mono hV
  | .vec n cs, v, _, h => by simp only [Conc] at *; obtain ⟨vs, a, b, c⟩ := h; exact ⟨vs, a, b, c.mono hV⟩
  | .agg l, v, hc, h => by simp only [Conc, SV.closed] at *; obtain ⟨vs, a, b⟩ := h; exact ⟨vs, a, closed_cells hV hc b⟩
  | .tup l, v, hc, h => by simp only [Conc, SV.closed] at *; obtain ⟨vs, a, b⟩ := h; exact ⟨vs, a, closed_concL hV hc b⟩
  | .pi sz es i off, v, _, h => by
    have := Conc.mono (ρ := ρ) hV h
    simp only [Conc] at *; exact this
  | .fn f l, v, hc, h => by simp only [Conc, SV.closed] at *; obtain ⟨vs, a, b⟩ := h; exact ⟨vs, a, closed_concL hV hc b⟩
  | .dead, v, _, h => by simp only [Conc]
  | .p _ _, v, hc, h => by simp [SV.closed] at hc
  | .ps _ _, v, hc, h => by simp [SV.closed] at hc
  | .pr _ _ _ _, v, hc, h => by simp [SV.closed] at hc
  | .os _, v, hc, h => by simp [SV.closed] at hc
  | .ov _ _ _ _, v, hc, h => by simp [SV.closed] at hc
theorem closed_concL (hV : V.le V') : ∀ {l : List SV} {vs : List Value}, SV.closedL l = true → ConcL V ρ l vs → ConcL V' ρ' l vs
  | [], vs, _, h => by simp only [ConcL] at *; exact h
  | x :: l, vs, hc, h => by
    simp only [ConcL, SV.closedL, Bool.and_eq_true] at *
    obtain ⟨u, us, a, b, c⟩ := h
    exact ⟨u, us, a, closed_conc hV hc.1 b, closed_concL hV hc.2 c⟩
theorem closed_cells (hV : V.le V') : ∀ {l : List SV} {vs : List Value}, SV.closedL l = true → Cells V ρ l vs → Cells V' ρ' l vs
  | [], vs, _, h => by simp only [Cells] at *; exact h
  | x :: l, vs, hc, h => by
    simp only [Cells, SV.closedL, Bool.and_eq_true] at *
    obtain ⟨u, us, a, b, c, d, e⟩ := h
    exact ⟨u, us, a, closed_conc hV hc.1 b, c, d, closed_cells hV hc.2 e⟩
end
/-- single cells that hang on no block -/
def PV.flat : PV → Bool
  | .sl _ _ es => es.isEmpty
  | _ => true
mutual
def SV.scalar : SV → Bool
  | .pv x => x.flat
  | .vec _ cs => cs.all PV.flat
  | .agg l => SV.scalarL l
  | .tup l => SV.scalarL l
  | _ => false
def SV.scalarL : List SV → Bool
  | [] => true
  | x :: l => x.scalar && SV.scalarL l
end
theorem flat_conc {x : PV} {v : Value} (hf : x.flat = true) (h : PConc V x v) : PConc V' x v := by
  cases h with
  | i k n => exact .i k n
  | b x => exact .b x
  | s l => exact .s l
  | v _ h => exact .v _ h
  | sl full sz es a cap cs bl off arr hcap hfull hsz ha hcs hel =>
    have he : es = [] := by cases es <;> simp_all [PV.flat]
    subst he
    exact .sl full sz [] a cap cs bl off arr hcap hfull hsz (fun h => absurd rfl h) hcs (fun i j c x h => by simp at h)
theorem flat_cells {cs : List PV} {vs : List Value} (hf : cs.all PV.flat = true) (h : PCells V cs vs) : PCells V' cs vs :=
  ⟨h.1, fun j x hx => by
    obtain ⟨v, h1, h2⟩ := h.2 j x hx
    exact ⟨v, h1, flat_conc (List.all_eq_true.1 hf x (List.mem_of_getElem? hx)) h2⟩⟩
mutual
theorem scalar_conc : ∀ {x : SV} {v : Value}, x.scalar = true → Conc V ρ x v → Conc V' ρ' x v
  | .pv x, v, hc, h => by
    simp only [Conc, SV.scalar] at hc h ⊢
    exact flat_conc hc h
  | .vec n cs, v, hc, h => by
    simp only [Conc, SV.scalar] at hc h ⊢
    obtain ⟨vs, a, b, c⟩ := h
    exact ⟨vs, a, b, flat_cells hc c⟩
  | .agg l, v, hc, h => by simp only [Conc, SV.scalar] at *; obtain ⟨vs, a, b⟩ := h; exact ⟨vs, a, scalar_cells hc b⟩
  | .tup l, v, hc, h => by simp only [Conc, SV.scalar] at *; obtain ⟨vs, a, b⟩ := h; exact ⟨vs, a, scalar_concL hc b⟩
  | .pi _ _ _ _, v, hc, h => by simp [SV.scalar] at hc
  | .fn _ _, v, hc, h => by simp [SV.scalar] at hc
  | .dead, v, hc, h => by simp [SV.scalar] at hc
  | .p _ _, v, hc, h => by simp [SV.scalar] at hc
  | .ps _ _, v, hc, h => by simp [SV.scalar] at hc
  | .pr _ _ _ _, v, hc, h => by simp [SV.scalar] at hc
  | .os _, v, hc, h => by simp [SV.scalar] at hc
  | .ov _ _ _ _, v, hc, h => by simp [SV.scalar] at hc
theorem scalar_concL : ∀ {l : List SV} {vs : List Value}, SV.scalarL l = true → ConcL V ρ l vs → ConcL V' ρ' l vs
  | [], vs, _, h => by simp only [ConcL] at *; exact h
  | x :: l, vs, hc, h => by
    simp only [ConcL, SV.scalarL, Bool.and_eq_true] at *
    obtain ⟨u, us, a, b, c⟩ := h
    exact ⟨u, us, a, scalar_conc hc.1 b, scalar_concL hc.2 c⟩
theorem scalar_cells : ∀ {l : List SV} {vs : List Value}, SV.scalarL l = true → Cells V ρ l vs → Cells V' ρ' l vs
  | [], vs, _, h => by simp only [Cells] at *; exact h
  | x :: l, vs, hc, h => by
    simp only [Cells, SV.scalarL, Bool.and_eq_true] at *
    obtain ⟨u, us, a, b, c, d, e⟩ := h
    exact ⟨u, us, a, scalar_conc hc.1 b, c, d, scalar_cells hc.2 e⟩
end

/-- an argument as the callee sees it: a slice that the caller owns is lent, to be read -/
def lent (h : Nat → Option Blk) : SV → SV
  | .os n => match h n with
    | some (.row sz es) => .pv (.sl false sz es)
    | _ => .dead
  | x => x
def lents (h : Nat → Option Blk) : List SV → List SV
  | [] => []
  | x :: l => lent h x :: lents h l
/-- arguments that can be given so -/
def lendable : List SV → Bool
  | [] => true
  | .os _ :: l => lendable l
  | x :: l => x.closed && lendable l
def lentNames : List SV → List Nat
  | [] => []
  | .os n :: l => n :: lentNames l
  | _ :: l => lentNames l
def without (s : FS) (ns : List Nat) : FS := ⟨s.t, fun n => if n ∈ ns then none else s.h n⟩
theorem lents_len (h : Nat → Option Blk) : ∀ l : List SV, (lents h l).length = l.length
  | [] => rfl
  | x :: l => by simp [lents, lents_len h l]
theorem without_weak (s : FS) (ns : List Nat) : Weak s (without s ns) := ⟨fun n => .refl _, fun n b' hb => by
  simp only [without] at hb
  split at hb
  · cases hb
  · rw [hb]; simp only [impB]
    cases b' with
    | var x => exact ⟨.refl _, rfl⟩
    | row sz es => exact ⟨rfl, rfl⟩
    | rowc sz es c => exact ⟨rfl, rfl, rfl⟩⟩
theorem lents_conc (hR : RelR F N ρ s a w) {h : Nat → Option Blk} {ns : List Nat} : ∀ {args : List SV} {vs : List Value}, lendable args = true → (∀ n ∈ tops args, s.h n = h n) → (∀ n ∈ lentNames args, n ∈ ns) →
    ConcL (vw F w ρ s) ρ args vs → ConcL (vw F w ρ (without s ns)) ρ (lents h args) vs
  | [], vs, _, _, _, hc => by simp only [ConcL, lents] at *; exact hc
  | x :: l, vs, hl, hh, hn, hc => by
    have hV : (vw F w ρ s).le (vw F w ρ (without s ns)) := viewOf_le fun b c ho hc => ⟨fun hb => ho (hb.imp_left fun ⟨n, x, h1, h2⟩ => by
      simp only [without] at h1
      split at h1
      · cases h1
      · exact ⟨n, x, h1, h2⟩), hc⟩
    simp only [ConcL, lents] at *
    obtain ⟨u, us, rfl, h1, h2⟩ := hc
    have key : (∀ n, x ≠ .os n) → x.closed = true ∧ lendable l = true ∧ lentNames (x :: l) = lentNames l := fun hne => by
      cases x <;> simp only [lendable, Bool.and_eq_true] at hl <;> first | exact ⟨hl.1, hl.2, rfl⟩ | exact absurd rfl (hne _)
    have hrest : lendable l = true ∧ ∀ n ∈ lentNames l, n ∈ ns := by
      by_cases hx : ∃ n, x = .os n
      · obtain ⟨n, rfl⟩ := hx
        exact ⟨by simpa [lendable] using hl, fun m hm => hn m (by simp [lentNames, hm])⟩
      · have := key fun n e => hx ⟨n, e⟩
        exact ⟨this.2.1, fun m hm => hn m (by rw [this.2.2]; exact hm)⟩
    refine ⟨u, us, rfl, ?_, lents_conc hR hrest.1 (fun n hn => hh n (by simp [tops, hn])) hrest.2 h2⟩
    by_cases hx : ∃ n, x = .os n
    · obtain ⟨n, rfl⟩ := hx
      simp only [lent]
      have hhn := hh n (by simp [tops, tn])
      split
      · rename_i sz es hrow
        rw [← hhn] at hrow
        simp only [Conc] at h1 ⊢
        rw [h1.1]
        have := row_pv hR hrow
        refine this.mono (viewOf_le fun b c ho hc => ⟨fun hb => ho (hb.imp_left fun ⟨m, x, g1, g2⟩ => ?_), hc⟩)
        simp only [without] at g1
        split at g1
        · cases g1
        · rename_i hm
          refine ⟨m, x, ?_, g2⟩
          simp only [FS.seth]
          rw [if_neg fun e => hm (by rw [e]; exact hn n (by simp [lentNames]))]
          exact g1
      · simp only [Conc]
    · have := key fun n e => hx ⟨n, e⟩
      have hl : lent h x = x := by cases x <;> first | rfl | exact absurd ⟨_, rfl⟩ hx
      rw [hl]
      exact closed_conc hV this.1 h1

/-- what stands after a call -/
structure After (F : Fr) (N : Nat) (ρ : Nat → Value) (s : FS) (ns : List Nat) (a : Act) (w : World) (R : SV → (Nat → Option Blk) → Prop) (v : Value) (w' : World) : Prop where
  grew : Grew w w'
  out : ∃ (N' : Nat) (ρ' : Nat → Value) (s' : FS) (a' : Act) (y : SV), RelR ⟨w, fun _ => False, F.out ρ (without s ns).h⟩ N' ρ' s' a' w' ∧ Conc (vw ⟨w, fun _ => False, F.out ρ (without s ns).h⟩ w' ρ' s') ρ' y v ∧ R y s'.h
theorem call_after (hm : P.follows .mixedOrders = true) {f N' : Nat} {rs : List Rv} {c : C} (hf : fnOf P f = some (N', rs, c)) {args : List SV} {h : Nat → Option Blk} (hlen : args.length ≤ N') (hl : lendable args = true)
    {R : SV → (Nat → Option Blk) → Prop} (hrun : ∀ F, sx (env P F N') c (RetQ rs R) (mk (argT 0 (lents h args)) []))
    (hR : RelR F N ρ s a w) (hh : ∀ n ∈ tops args, s.h n = h n) {vs : List Value} (hc : ConcL (vw F w ρ s) ρ args vs) :
    Calls P f ⟨vs⟩ w fun e w' => ∃ v, e = .returned v ∧ After F N ρ s (lentNames args) a w R v w' := by
  have hRb := hR.weak (without_weak s (lentNames args))
  have hcb := lents_conc hR (ns := lentNames args) hl hh (fun _ h => h) hc
  refine Calls.mono (call_core hm hf (hid := F.out ρ (without s (lentNames args)).h) (fun b hb => ?_) (by rw [lents_len]; exact hlen) hcb (hrun _)) fun e w' he => ?_
  · rcases hb with hb | hb
    · exact hRb.lt hb
    · exact Nat.lt_of_lt_of_le (hR.fr.hid b hb).1 hR.fr.size
  · obtain ⟨v, ρ', s', a', y, rfl, h1, h2, h3⟩ := he
    exact ⟨v, rfl, ⟨h1.fr.os, h1.fr.tape, h1.fr.output, h1.fr.size, fun b hb => h1.fr.block b hb id⟩, N', ρ', s', a', y, h1, h2, h3⟩
theorem after_view {N' : Nat} {ρ' : Nat → Value} {s' : FS} {a' : Act} (hR' : RelR ⟨w, fun _ => False, F.out ρ s.h⟩ N' ρ' s' a' w') : (vw ⟨w, fun _ => False, F.out ρ s.h⟩ w' ρ' s').le (vw F w' ρ s) :=
  viewOf_le fun b c ho hc => ⟨fun hb => ho (.inr hb), hc⟩
theorem lentNames_nil : ∀ {args : List SV}, SV.closedL args = true → lentNames args = [] ∧ lendable args = true ∧ ∀ h, lents h args = args
  | [], _ => ⟨rfl, rfl, fun _ => rfl⟩
  | x :: l, hc => by
    simp only [SV.closedL, Bool.and_eq_true] at hc
    obtain ⟨h1, h2, h3⟩ := lentNames_nil hc.2
    cases x <;> first | (simp [SV.closed] at hc; done) | exact ⟨h1, by simp [lendable, hc.1, h2], fun h => by simp [lents, lent, h3 h]⟩
theorem without_nil (s : FS) : without s [] = s := by simp [without]
theorem entered_of {f : Nat} {rs : List Rv} {c : C} (hf : fnOf P f = some (N, rs, c)) : Entered P f := by
  obtain ⟨fn, code, h1, h2, h3, _⟩ := fnOf_ok hf
  exact ⟨fn, h1, h2, by rw [h3]; rfl⟩

/-- a function of data, that brings data -/
theorem fun_pure (hm : P.follows .mixedOrders = true) {f N' : Nat} {rs : List Rv} {c : C} (hf : fnOf P f = some (N', rs, c)) {args : List SV} {h : Nat → Option Blk} {d : Nat} {x : SV} (hlen : args.length ≤ N')
    (hargs : SV.closedL args = true) (hx : x.closed = true) (hrun : ∀ F, sx (env P F N') c (RetQ rs fun y _ => y = x) (mk (argT 0 args) [])) : FunOk P f args h d x [] := by
  obtain ⟨h1, h2, h3⟩ := lentNames_nil hargs
  refine ⟨entered_of hf, fun F N ρ s a w hR hh vs hc => ?_⟩
  refine Calls.mono (call_after hm hf (h := h) hlen h2 (by rw [h3]; exact hrun) hR hh hc) fun e w' he => ?_
  obtain ⟨v, rfl, hg, N'', ρ', s', a', y, hR', hy, rfl⟩ := he
  rw [h1, without_nil] at hR' hy
  exact ⟨v, ρ, rfl, hR.grew hg, closed_conc (after_view hR') hx hy⟩
/-- a function that brings a scalar, whatever it is lent -/
theorem fun_scalar (hm : P.follows .mixedOrders = true) {f N' : Nat} {rs : List Rv} {c : C} (hf : fnOf P f = some (N', rs, c)) {args : List SV} {h : Nat → Option Blk} {d : Nat} {x : SV} (hlen : args.length ≤ N')
    (hargs : lendable args = true) (hx : x.scalar = true) (hrun : ∀ F, sx (env P F N') c (RetQ rs fun y _ => y = x) (mk (argT 0 (lents h args)) [])) : FunOk P f args h d x [] := by
  refine ⟨entered_of hf, fun F N ρ s a w hR hh vs hc => ?_⟩
  refine Calls.mono (call_after hm hf (h := h) hlen hargs hrun hR hh hc) fun e w' he => ?_
  obtain ⟨v, rfl, hg, N'', ρ', s', a', y, hR', hy, rfl⟩ := he
  exact ⟨v, ρ, rfl, hR.grew hg, scalar_conc hx hy⟩
/-- a function that brings a slice of its own making -/
theorem fun_row (hm : P.follows .mixedOrders = true) {f N' : Nat} {rs : List Rv} {c : C} (hf : fnOf P f = some (N', rs, c)) {args : List SV} {h : Nat → Option Blk} {d : Nat} {sz : Nat} {es : List (List PV)} (hlen : args.length ≤ N')
    (hargs : lendable args = true) (hx : SV.closedL args = true ∨ ∀ c ∈ es, c.all PV.flat = true) (hrun : ∀ F, sx (env P F N') c (RetQ rs fun y g => ∃ n, y = .os n ∧ g n = some (.row sz es)) (mk (argT 0 (lents h args)) [])) :
    FunOk P f args h d (.os d) [.new d (.row sz es)] := by
  refine ⟨entered_of hf, fun F N ρ s a w hR hh vs hc => ?_⟩
  refine Calls.mono (call_after hm hf (h := h) hlen hargs hrun hR hh hc) fun e w' he => ?_
  obtain ⟨v, rfl, hg, N'', ρ', s', a', y, hR', hy, n, rfl, hn⟩ := he
  simp only [Conc] at hy
  obtain ⟨base, cap, g1, g2, g3, g4, g5⟩ := hR'.own n _ hn
  have hown : ∀ b, idOf (ρ' n) = some b → w.heap.size ≤ b ∧ b < w'.heap.size := fun b hb => by
    have ho : owned ρ' s'.h b := ⟨n, _, hn, hb⟩
    exact ⟨(hR'.may b ho).resolve_right id, hR'.lt ho⟩
  have hnew := hR.adopt hg d (.row sz es) (ρ' n) hown fun hV => by
    refine ⟨base, cap, by rw [upd_self]; exact g1, g2, g3, g4, fun hcap => ?_⟩
    obtain ⟨b, vs', ty, fr, k1, k2, k3, k4, k5, k6⟩ := g5 hcap
    refine ⟨b, vs', ty, fr, k1, k2, k3, k4, k5, fun i c hi => ?_⟩
    rcases hx with hx | hx
    · obtain ⟨e1, _, _⟩ := lentNames_nil hx
      rw [e1, without_nil] at hR' k6
      refine (k6 i c hi).mono (viewOf_le fun b' c' ho hc' => ⟨fun hb' => ?_, hc'⟩)
      rcases hb' with ⟨m, z, hm1, hm2⟩ | hb'
      · by_cases hmd : m = d
        · subst hmd
          rw [upd_self] at hm2
          exact ho (.inl ⟨n, _, hn, hm2⟩)
        · rw [upd_ne hmd] at hm2
          simp only [FS.seth, FS.kill, hmd, if_false] at hm1
          obtain ⟨z', hz', _⟩ := Option.map_eq_some_iff.1 hm1
          exact ho (.inr (.inl ⟨m, z', hz', hm2⟩))
      · exact ho (.inr (.inr hb'))
    · exact flat_cells (hx c (List.mem_of_getElem? hi)) (k6 i c hi)
  refine ⟨v, _, rfl, hnew.1, ?_⟩
  simp only [Conc]
  exact ⟨by rw [upd_self]; exact hy.1, hy.2⟩
/-- a function that brings a slice of its own making, and a scalar -/
theorem fun_row2 (hm : P.follows .mixedOrders = true) {f N' : Nat} {rs : List Rv} {c : C} (hf : fnOf P f = some (N', rs, c)) {args : List SV} {h : Nat → Option Blk} {d : Nat} {z : SV} {sz : Nat} {es : List (List PV)} (hlen : args.length ≤ N')
    (hargs : lendable args = true) (hx : SV.closedL args = true ∨ ∀ c ∈ es, c.all PV.flat = true) (hzs : z.scalar = true) (hrun : ∀ F, sx (env P F N') c (RetQ rs fun y g => ∃ n, y = .tup [.os n, z] ∧ g n = some (.row sz es)) (mk (argT 0 (lents h args)) [])) :
    FunOk P f args h d (.tup [.os d, z]) [.new d (.row sz es)] := by
  refine ⟨entered_of hf, fun F N ρ s a w hR hh vs hc => ?_⟩
  refine Calls.mono (call_after hm hf (h := h) hlen hargs hrun hR hh hc) fun e w' he => ?_
  obtain ⟨v, rfl, hg, N'', ρ', s', a', y, hR', hy, n, rfl, hn⟩ := he
  simp only [Conc, ConcL] at hy
  obtain ⟨tv, rfl, u1, us1, rfl, hy, u2, us2, rfl, hz2, rfl⟩ := hy
  obtain ⟨base, cap, g1, g2, g3, g4, g5⟩ := hR'.own n _ hn
  have hown : ∀ b, idOf (ρ' n) = some b → w.heap.size ≤ b ∧ b < w'.heap.size := fun b hb => by
    have ho : owned ρ' s'.h b := ⟨n, _, hn, hb⟩
    exact ⟨(hR'.may b ho).resolve_right id, hR'.lt ho⟩
  have hnew := hR.adopt hg d (.row sz es) (ρ' n) hown fun hV => by
    refine ⟨base, cap, by rw [upd_self]; exact g1, g2, g3, g4, fun hcap => ?_⟩
    obtain ⟨b, vs', ty, fr, k1, k2, k3, k4, k5, k6⟩ := g5 hcap
    refine ⟨b, vs', ty, fr, k1, k2, k3, k4, k5, fun i c hi => ?_⟩
    rcases hx with hx | hx
    · obtain ⟨e1, _, _⟩ := lentNames_nil hx
      rw [e1, without_nil] at hR' k6
      refine (k6 i c hi).mono (viewOf_le fun b' c' ho hc' => ⟨fun hb' => ?_, hc'⟩)
      rcases hb' with ⟨m, z, hm1, hm2⟩ | hb'
      · by_cases hmd : m = d
        · subst hmd
          rw [upd_self] at hm2
          exact ho (.inl ⟨n, _, hn, hm2⟩)
        · rw [upd_ne hmd] at hm2
          simp only [FS.seth, FS.kill, hmd, if_false] at hm1
          obtain ⟨z', hz', _⟩ := Option.map_eq_some_iff.1 hm1
          exact ho (.inr (.inl ⟨m, z', hz', hm2⟩))
      · exact ho (.inr (.inr hb'))
    · exact flat_cells (hx c (List.mem_of_getElem? hi)) (k6 i c hi)
  refine ⟨_, _, rfl, hnew.1, ?_⟩
  simp only [Conc, ConcL]
  exact ⟨_, rfl, u1, _, rfl, ⟨by rw [upd_self]; exact hy.1, hy.2⟩, u2, _, rfl, scalar_conc hzs hz2, rfl⟩
end Go.Proofs.Ytmeecblciegkkaa.Fw
namespace Go.Proofs.Ytmeecblciegkkaa.Fw
open Go.RowKit
/-! Small things for the walks. -/
theorem loopQ_n {α : Type} (I : α → FS) (J : α → Prop) (m : α → Nat) (x : α) (Q : Post) (s) : loopQ I J m x Q .normal s = ∃ y, J y ∧ m y < m x ∧ Wk s (I y) := (rfl)
theorem loopQ_e {α : Type} (I : α → FS) (J : α → Prop) (m : α → Nat) (x : α) (Q : Post) (s i) : loopQ I J m x Q (.exit i) s = Q (.exit i) s := (rfl)
theorem loopQ_r {α : Type} (I : α → FS) (J : α → Prop) (m : α → Nat) (x : α) (Q : Post) (s) : loopQ I J m x Q .ret s = Q .ret s := (rfl)
theorem retQ_n (rs R s) : RetQ rs R .normal s = resK s rs fun l => R (one l) s.h := (rfl)
theorem retQ_r (rs R s) : RetQ rs R .ret s = resK s rs fun l => R (one l) s.h := (rfl)
theorem resK_nil (s K) : resK s [] K = K [] := (rfl)
theorem resK_t (s n rs K) : resK s (.t n :: rs) K = resK s rs fun l => K (s.t n :: l) := (rfl)
def resCont (s : FS) (rs : List Rv) (K : List SV → Prop) : KK := fun x u => u = [] ∧ resK s rs fun l => K (x :: l)
theorem resK_c (s a size ag rs K) : resK s (.c a size ag :: rs) K = ldSem s.h size ag (s.t a) (resCont s rs K) := (rfl)
theorem resCont_ap (s rs K x u) : resCont s rs K x u = (u = [] ∧ resK s rs fun l => K (x :: l)) := (rfl)
theorem one_1 (x) : one [x] = x := (rfl)
theorem one_2 (x y l) : one (x :: y :: l) = .tup (x :: y :: l) := (rfl)
theorem argT_nil (k) : argT k [] = [] := (rfl)
theorem argT_cons (k x l) : argT k (x :: l) = (k, x) :: argT (k + 1) l := (rfl)
theorem lents_nil (h) : lents h [] = [] := (rfl)
theorem lents_cons (h x l) : lents h (x :: l) = lent h x :: lents h l := (rfl)
theorem lent_pv (h x) : lent h (.pv x) = .pv x := (rfl)
theorem lent_vec (h n x) : lent h (.vec n x) = .vec n x := (rfl)
theorem lent_agg (h x) : lent h (.agg x) = .agg x := (rfl)
theorem lent_os (h : Nat → Option Blk) (n sz es) (hn : h n = some (.row sz es)) : lent h (.os n) = .pv (.sl false sz es) := by simp only [lent, hn]
theorem impT_nil (s) : impT s [] = True := (rfl)
theorem impT_cons (s n x l) : impT s ((n, x) :: l) = (Imp (s.t n) x ∧ impT s l) := (rfl)
theorem impH_nil (s) : impH s [] = True := (rfl)
theorem impH_none (s n l) : impH s ((n, none) :: l) = impH s l := (rfl)
theorem impH_some (s n b l) : impH s ((n, some b) :: l) = (impB (s.h n) b ∧ impH s l) := (rfl)
theorem impB_some (x y) : impB (some x) y = ImpB x y := (rfl)
theorem impB_row (a b c d) : ImpB (.row a b) (.row c d) = (a = c ∧ b = d) := (rfl)
theorem impB_var (x y) : ImpB (.var x) (.var y) = (Imp x y ∧ x.width = y.width) := (rfl)
theorem imp_refl (x) : Imp x x = True := eq_true (Imp.refl x)
theorem imp_dead (x) : Imp x .dead = True := eq_true (Imp.dead x)

theorem mem_nat (n m : Nat) (l : List Nat) : (n ∈ m :: l) = (n = m ∨ n ∈ l) := propext List.mem_cons
theorem bytesE_get (l : List UInt8) (k : Nat) (h : k < l.length) : (bytesE l)[k]? = some [.i .u8 (l[k]).toNat] := by
  simp [bytesE, h]
theorem bytesE_length (l : List UInt8) : (bytesE l).length = l.length := by simp [bytesE]
/-- a single cell of a whole -/
theorem load_one {cs : List PV} {off : Nat} {c : PV} {K : KK} (h : cs[off]? = some c) (hk : K (.pv c) []) : LoadK (some cs) off 1 false K := by
  have hlt := (List.getElem?_eq_some_iff.1 h).1
  refine ⟨by omega, .inr rfl, ?_⟩
  simp only [ldX, List.getD_eq_getElem?_getD, h, Option.getD_some]; exact hk
/-- a cell of a row of bytes -/
theorem load_byte {l : List UInt8} {k : Nat} {K : KK} (h : k < l.length) (hk : K (.pv (.i .u8 (l[k]).toNat)) []) : LoadK (bytesE l)[k]? 0 1 false K := by
  rw [bytesE_get l k h]; exact load_one rfl hk
theorem wrap_u8 {n : Int} (h : 0 ≤ n ∧ n < 256) : IntKind.u8.wrap n = n := by
  simp [IntKind.wrap, IntKind.signed, IntKind.bits]; omega
theorem wrap_u32 {n : Int} (h : 0 ≤ n ∧ n < 4294967296) : IntKind.u32.wrap n = n := by
  simp [IntKind.wrap, IntKind.signed, IntKind.bits]; omega
theorem wrap_u64 {n : Int} (h : 0 ≤ n ∧ n < 18446744073709551616) : IntKind.u64.wrap n = n := by
  simp [IntKind.wrap, IntKind.signed, IntKind.bits]; omega
theorem wrap_i64 {n : Int} (h : -9223372036854775808 ≤ n ∧ n < 9223372036854775808) : IntKind.i64.wrap n = n := by
  simp [IntKind.wrap, IntKind.signed, IntKind.bits]; omega
mutual
theorem closed_kill (n : Nat) : ∀ {x : SV}, x.closed = true → x.kill n = x
  | .pv _, _ => by simp only [SV.kill]
  | .vec _ _, _ => by simp only [SV.kill]
  | .agg l, h => by simp only [SV.closed] at h; simp only [SV.kill, closedL_kill n h]
  | .tup l, h => by simp only [SV.closed] at h; simp only [SV.kill, closedL_kill n h]
  | .pi _ _ _ _, _ => by simp only [SV.kill]
  | .fn f l, h => by simp only [SV.closed] at h; simp only [SV.kill, closedL_kill n h]
  | .dead, _ => by simp only [SV.kill]
  | .p _ _, h => by simp [SV.closed] at h
  | .ps _ _, h => by simp [SV.closed] at h
  | .pr _ _ _ _, h => by simp [SV.closed] at h
  | .os _, h => by simp [SV.closed] at h
  | .ov _ _ _ _, h => by simp [SV.closed] at h
theorem closedL_kill (n : Nat) : ∀ {l : List SV}, SV.closedL l = true → SV.killL n l = l
  | [], _ => by simp only [SV.killL]
  | x :: l, h => by
    simp only [SV.closedL, Bool.and_eq_true] at h
    simp only [SV.killL, closed_kill n h.1, closedL_kill n h.2]
end
theorem call_with {P : Program} {F : Fr} {N f : Nat} {args : List SV} {h : Nat → Option Blk} {d : Nat} {x : SV} {u : List HU} {K : KK} (hf : FunOk P f args h d x u) (hk : K x u) : callK (env P F N) f args h d K := ⟨x, u, .inl hf, hk⟩
theorem call_ext {P : Program} {F : Fr} {N f : Nat} {args : List SV} {h : Nat → Option Blk} {d : Nat} {x : SV} {K : KK} (hf : ExtOk P f args h x) (hk : K x []) : callK (env P F N) f args h d K := ⟨x, [], .inr ⟨rfl, hf⟩, hk⟩
theorem load_bytes {l : List UInt8} {es : List (List PV)} {K : KK} (he : es = bytesE l) (hk : K (.pv (.s l)) []) : BytesK es K := ⟨l, he, hk⟩
/-- the state before the first call -/
theorem rel_top (w : World) : RelR ⟨w, fun _ => False, fun _ => False⟩ 0 (fun _ => undef) ⟨fun _ => .dead, fun _ => none⟩ ⟨#[], []⟩ w :=
  ⟨⟨rfl, rfl, rfl, Nat.le_refl _, fun _ _ _ => rfl, fun _ h => h.elim⟩, fun b ⟨n, x, h, _⟩ => by simp at h, fun n x h => by simp at h, fun n m x y b h => by simp at h, fun n => by simp only [Conc], rfl, rfl⟩
/-- a law's function: it answers 'true' and leaves what was there -/
theorem FunOk.law {P : Program} {f : Nat} {args : List SV} {h d} (hf : FunOk P f args h d (.pv (.b true)) []) (hc : SV.closedL args = true) {w : World} {vs : List Value} {ρ : Nat → Value} (hv : ConcL (viewOf w fun _ => False) ρ args vs) :
    Calls P f ⟨vs⟩ w fun e w' => e = .returned (.bool true) ∧ Below w.heap.size w w' := by
  have ht : tops args = [] := by
    cases hx : tops args with
    | nil => rfl
    | cons n l =>
      have : SV.killL n args = args := by
        have key : ∀ (l : List SV), SV.closedL l = true → ∀ n, SV.killL n l = l := fun l hl n => closedL_kill n hl
        exact key args hc n
      exact absurd (by rw [hx]; simp) (tops_kill this)
  have hV : (viewOf w fun _ => False).le (vw ⟨w, fun _ => False, fun _ => False⟩ w (fun _ => undef) ⟨fun _ => .dead, fun _ => none⟩) :=
    viewOf_le fun b c _ hb => ⟨fun hh => hh.elim (fun ⟨n, x, h, _⟩ => by simp at h) id, hb⟩
  refine Calls.mono (hf.2 _ 0 _ _ _ w (rel_top w) (by rw [ht]; simp) vs (closed_concL hV hc hv)) fun e w' he => ?_
  obtain ⟨v, ρ', rfl, hR, hy⟩ := he
  exact ⟨by rw [inv_b hy], hR.fr.os, hR.fr.tape, hR.fr.output, hR.fr.size, fun b hb => hR.fr.block b hb id⟩
end Go.Proofs.Ytmeecblciegkkaa.Fw
namespace Go.Proofs.Ytmeecblciegkkaa.Fw
open Go.RowKit
/-! Undecided conditions: both ways are left open, each with what is known there. -/
variable (E : Env)
/-- held back until the condition is known -/
def brK (a : C) (Q : Post) (s : FS) : Prop := sx E a Q s
def gdK (k : Kd) (x : List Opd) (d : Nat) (l : List I) (Q : Post) (s : FS) : Prop := body E k x d s (contL E (some d) l Q s)
def skK (d : Option Nat) (l : List I) (Q : Post) (s : FS) : Prop := sxL E l Q (s.apply d (.tup []) [])
def gdA (D : List Nat) (c : Nat) (k : Kd) (x : List Opd) (d : Nat) (l : List (I × Nat × List Nat)) (Q : Post) (s : FS) : Prop := body E k x d s (contA E D c (some d) l Q s)
def skA (D : List Nat) (c : Nat) (d : Option Nat) (l : List (I × Nat × List Nat)) (Q : Post) (s : FS) : Prop := contA E D c d l Q s (.tup []) []
def pkK (K : KK) (x : SV) : Prop := K x []
theorem brK_e (a Q s) : brK E a Q s = sx E a Q s := (rfl)
theorem gdK_e (k x d l Q s) : gdK E k x d l Q s = body E k x d s (contL E (some d) l Q s) := (rfl)
theorem skK_e (d l Q s) : skK E d l Q s = sxL E l Q (s.apply d (.tup []) []) := (rfl)
theorem gdA_e (D c k x d l Q s) : gdA E D c k x d l Q s = body E k x d s (contA E D c (some d) l Q s) := (rfl)
theorem skA_e (D c d l Q s) : skA E D c d l Q s = contA E D c d l Q s (.tup []) [] := (rfl)
theorem pkK_e (K x) : pkK K x = K x [] := (rfl)
theorem split_b {b : Bool} {A B : Prop} : (if b = true then A else B) = ((b = true → A) ∧ (¬ b = true → B)) := by
  cases b <;> simp
theorem iteK_p (p : Prop) [Decidable p] (a b Q s) : iteK E (.pv (.b (decide p))) a b Q s = ((p → brK E a Q s) ∧ (¬ p → brK E b Q s)) := by
  by_cases h : p <;> simp [iteK, brK, h]
theorem iteK_n (p : Prop) [Decidable p] (a b Q s) : iteK E (.pv (.b (!decide p))) a b Q s = ((p → brK E b Q s) ∧ (¬ p → brK E a Q s)) := by
  by_cases h : p <;> simp [iteK, brK, h]
theorem guardK_pt (p : Prop) [Decidable p] (k x d l Q s) : guardK E (.pv (.b (decide p))) true k x (some d) l Q s = ((p → gdK E k x d l Q s) ∧ (¬ p → skK E (some d) l Q s)) := by
  by_cases h : p <;> simp [guardK, guardP, gdK, skK, h]
theorem guardK_pf (p : Prop) [Decidable p] (k x d l Q s) : guardK E (.pv (.b (decide p))) false k x (some d) l Q s = ((p → skK E (some d) l Q s) ∧ (¬ p → gdK E k x d l Q s)) := by
  by_cases h : p <;> simp [guardK, guardP, gdK, skK, h]
theorem guardK_nt (p : Prop) [Decidable p] (k x d l Q s) : guardK E (.pv (.b (!decide p))) true k x (some d) l Q s = ((p → skK E (some d) l Q s) ∧ (¬ p → gdK E k x d l Q s)) := by
  by_cases h : p <;> simp [guardK, guardP, gdK, skK, h]
theorem guardK_nf (p : Prop) [Decidable p] (k x d l Q s) : guardK E (.pv (.b (!decide p))) false k x (some d) l Q s = ((p → gdK E k x d l Q s) ∧ (¬ p → skK E (some d) l Q s)) := by
  by_cases h : p <;> simp [guardK, guardP, gdK, skK, h]
theorem guardA_pt (p : Prop) [Decidable p] (D c k x d l Q s) : guardA E D c (.pv (.b (decide p))) true k x (some d) l Q s = ((p → gdA E D c k x d l Q s) ∧ (¬ p → skA E D c (some d) l Q s)) := by
  by_cases h : p <;> simp [guardA, guardP, gdA, skA, h]
theorem guardA_pf (p : Prop) [Decidable p] (D c k x d l Q s) : guardA E D c (.pv (.b (decide p))) false k x (some d) l Q s = ((p → skA E D c (some d) l Q s) ∧ (¬ p → gdA E D c k x d l Q s)) := by
  by_cases h : p <;> simp [guardA, guardP, gdA, skA, h]
theorem guardA_nt (p : Prop) [Decidable p] (D c k x d l Q s) : guardA E D c (.pv (.b (!decide p))) true k x (some d) l Q s = ((p → skA E D c (some d) l Q s) ∧ (¬ p → gdA E D c k x d l Q s)) := by
  by_cases h : p <;> simp [guardA, guardP, gdA, skA, h]
theorem guardA_nf (p : Prop) [Decidable p] (D c k x d l Q s) : guardA E D c (.pv (.b (!decide p))) false k x (some d) l Q s = ((p → gdA E D c k x d l Q s) ∧ (¬ p → skA E D c (some d) l Q s)) := by
  by_cases h : p <;> simp [guardA, guardP, gdA, skA, h]
theorem pick_p (p : Prop) [Decidable p] (x y : SV) (K : KK) : pickSem (.pv (.b (decide p))) x y K = ((p → pkK K x) ∧ (¬ p → pkK K y)) := by
  by_cases h : p <;> simp [pickSem, pkK, h]
theorem pick_n (p : Prop) [Decidable p] (x y : SV) (K : KK) : pickSem (.pv (.b (!decide p))) x y K = ((p → pkK K y) ∧ (¬ p → pkK K x)) := by
  by_cases h : p <;> simp [pickSem, pkK, h]
attribute [go_sem] guardK_u guardA_u contL_ap sxL_nil sxL_cons sxL_cons0 sxL_guard guardK_tt guardK_tf guardK_ft guardK_ff thenC_n thenC_e thenC_r inBlk_n inBlk_r inBlk_e sx_any sx_anyF killD_nil killD_cons contA_ap sxA_nil sxA_cons sxA_cons0 sxA_guard guardA_tt guardA_tf guardA_ft guardA_ff okA_0 okA_1 okA_2 noD_nil noD_cons noDB_nil noDB_cons quietU_nil quietU_new noDU_nil noDU_new noDU_upd noDU_del sx_seq sx_ops sx_block sx_exit sx_ret sx_skip sx_loop sx_ite iteK_t iteK_f ap_some ap_none hup_nil hup_new hup_upd hup_del hup_frz frz_mk frzT_nil frzT_cons frzH_nil frzH_cons frzH_none f_pv f_vec f_pi f_dead f_p f_ps f_pr f_os f_agg f_tup f_fn fL_nil fL_cons fb_var fb_row set_mk seth_mk kill_mk ev_t' t_mk ev_c' h_mk' lk_nil lk_cons killT_nil killT_cons killH_nil killH_cons killH_none k_pv k_vec k_pi k_dead k_p k_ps k_pr k_os k_agg k_tup k_fn kL_nil kL_cons kb_var kb_row evL_nil evL_cons body_call body_callv callvK_fn b_mv b_pick b_new b_box b_bld b_bldV b_bsl b_ld b_sto b_bin b_eqv b_un b_cvI b_cvS b_binB b_lenS b_s2b b_b2s b_b2b b_mks b_slc b_sls b_fa b_iaS b_iaA b_iaC b_fld b_ixA b_ixS b_ext b_len b_app b_mx b_mn b_mkf b_nilc o_mv o_pick pick_t pick_f o_new o_box o_bld o_bldV o_bsl bldVSem_s bslSem_s o_ld o_sto o_bin o_eqv eqvSem_s lenSem_s b2sSem_s o_un un_not un_neg o_cvI o_cvS o_s2b o_b2s_sl o_b2s_os o_binB o_b2b o_mks o_slc o_sls o_fa o_iaC fa_p fa_ps fa_pr fa_pi o_iaS iaS_sl iaS_os iaSrow_s ldV_s ldS_s ldR_s ld_p ld_ps ld_pr ld_pi ldVar_e mkOr_vec mkOr_one mkOr_os mkOr_p mkOr_fn mkOr_pvA mkOr_agg mkOr_none cut_nil cut_cons spl_nil spl_cons w_pv sg_pv w_p sg_p w_ps sg_ps w_pr sg_pr w_pi sg_pi w_os sg_os w_fn sg_fn w_tup sg_tup w_vec sg_vec w_agg sg_agg wL_nil wL_cons sgL_nil sgL_cons c_pv c_vec c_agg c_os cL_nil cL_cons opAp_s stV_s stCells_s stS_s stGive_s stR_s stSpl_s stSpl_n st_p st_ps st_pr stVar_e g_os giveRow_s giveAp_s elRow_s appRow_s appSl_s g_pv g_vec g_agg gL_nil gL_cons e_sl e_s e_os o_app app_os app_sl o_iaA iaA_p iaA_ps iaA_pr iaA_pi o_fld o_ixA o_ixS o_ext o_len_sl o_len_os o_lenS o_mx o_mn mx_i mn_i o_mkf o_nil_p o_nil_ps o_nil_pr o_nil_pi o_nil_fn bin_i bin_s bi_add bi_sub bi_mul bi_quo bi_rem bi_shl bi_shr bi_and bi_or bi_xor bi_andNot bi_eql bi_neq bi_lss bi_leq bi_gtr bi_geq bs_add bs_eql bs_neq bs_lss bs_leq bs_gtr bs_geq bb_eql bb_neq fb_pv fb_vec fb_p fb_ps fb_pr fb_pi fb_os fb_fn wd_nil wd_cons aw_nil aw_cons b2b_s z_sl z_s z_os rowSz_s extK_s nth_cons ia_vec ia_agg fb_agg fbL_nil fbL_cons slc1_s slc2_s slc3_s slc4_s slcV_sl slcV_os nm_os nm_pv sls2_s sls3_s idx_f idx_t if_true if_false Option.map_some Option.bind_some Nat.le_refl and_self List.append_nil List.nil_append List.cons_append true_and and_true true_or or_true Bool.false_and Bool.true_and Bool.false_or Bool.or_false Bool.and_false Bool.and_true Bool.not_true Bool.not_false Int.toNat_zero List.drop_zero Int.toNat_natCast mem_nat Nat.zero_add Nat.add_zero decide_true decide_false loopQ_n loopQ_e loopQ_r retQ_n retQ_r resK_nil resK_t resK_c resCont_ap one_1 one_2 argT_nil argT_cons lents_nil lents_cons lent_pv lent_vec lent_agg impT_nil impT_cons impH_nil impH_none impH_some impB_some impB_row impB_var imp_refl imp_dead Option.getD_some Option.getD_none true_implies false_implies iteK_p iteK_n guardK_pt guardK_pf guardK_nt guardK_nf guardA_pt guardA_pf guardA_nt guardA_nf pick_p pick_n wrap_u8 wrap_u32 wrap_u64 wrap_i64 not_true_eq_false not_false_eq_true
end Go.Proofs.Ytmeecblciegkkaa.Fw
namespace Go.Proofs.Ytmeecblciegkkaa.Fw
open Go.RowKit
/-! Cells given by their places; what arithmetic settles. -/
def arrF (n : Nat) (f : Nat → PV) : List PV := (List.range n).map f
theorem arrF_length (n f) : (arrF n f).length = n := by simp [arrF]
theorem arrF_get {n k : Nat} (h : k < n) (f) : (arrF n f)[k]? = some (f k) := by simp [arrF, h]
theorem arrF_getD {n k : Nat} (h : k < n) (f d) : (arrF n f).getD k d = f k := by rw [List.getD_eq_getElem?_getD, arrF_get h]; rfl
theorem arrF_ext {n : Nat} {f g : Nat → PV} (h : ∀ i, i < n → f i = g i) : arrF n f = arrF n g := by
  unfold arrF; exact List.map_congr_left fun i hi => h i (by simpa using hi)
theorem arrF_cut {n a b : Nat} (h : a + b ≤ n) (f) : ((arrF n f).drop a).take b = arrF b fun i => f (a + i) := by
  apply List.ext_getElem?
  intro k
  simp only [List.getElem?_take, List.getElem?_drop, arrF, List.getElem?_map]
  by_cases hk : k < b
  · simp only [hk, if_true]
    rw [List.getElem?_range (by omega), List.getElem?_range hk]; rfl
  · simp only [hk, if_false]
    rw [List.getElem?_eq_none (by simp; omega)]; rfl
theorem arrF_splice {n a m : Nat} (h : a + m ≤ n) (f g) : splice (arrF n f) a (arrF m g) = arrF n fun i => if a ≤ i ∧ i < a + m then g (i - a) else f i := by
  apply List.ext_getElem?
  intro k
  unfold splice
  rw [arrF_length]
  simp only [List.getElem?_append, List.length_append, List.length_take, arrF_length, List.getElem?_take, List.getElem?_drop]
  rw [Nat.min_eq_left (by omega)]
  by_cases h1 : k < a + m
  · rw [if_pos h1]
    by_cases h2 : k < a
    · rw [if_pos h2, if_pos h2, arrF_get (by omega), arrF_get (by omega), if_neg (by omega)]
    · rw [if_neg h2, arrF_get (by omega), arrF_get (by omega), if_pos (by omega)]
  · rw [if_neg h1]
    by_cases h3 : k < n
    · rw [arrF_get (by omega), arrF_get (by omega), if_neg (by omega)]
      congr 2; omega
    · rw [List.getElem?_eq_none (by rw [arrF_length]; omega), List.getElem?_eq_none (by rw [arrF_length]; omega)]
theorem arrF_inj {n : Nat} {f g : Nat → PV} : arrF n f = arrF n g ↔ ∀ i, i < n → f i = g i := by
  refine ⟨fun e i hi => ?_, arrF_ext⟩
  have := congrArg (·[i]?) e
  simp only [arrF_get hi, Option.some.injEq] at this
  exact this
theorem arrF_one (f) : arrF 1 f = [f 0] := rfl
theorem load_arr {n k : Nat} (h : k < n) (f K) : LoadK (some (arrF n f)) k 1 false K = K (.pv (f k)) [] := by
  simp only [LoadK, arrF_length, ldX, arrF_getD h]
  simp; omega
theorem load_arrV {n k m : Nat} (h : k + m ≤ n) (f K) : LoadK (some (arrF n f)) k m true K = K (.vec m (arrF m fun i => f (k + i))) [] := by
  simp only [LoadK, arrF_length, ldX, arrF_cut h]
  simp; omega
def setV {α : Type} (a : Nat → α) (k : Nat) (x : α) : Nat → α := fun i => if i = k then x else a i
theorem arrF_set {n k : Nat} (h : k < n) (f c) : splice (arrF n f) k [c] = arrF n (setV f k c) := by
  have := arrF_splice (a := k) (m := 1) (n := n) (by omega) f fun _ => c
  rw [arrF_one] at this
  rw [this]
  exact arrF_ext fun i hi => by
    unfold setV
    by_cases e : i = k
    · subst e; simp
    · rw [if_neg (by omega), if_neg e]

/-- vectors of eight numbers -/
abbrev Vc := Nat → Nat
def vE (a : Vc) : List PV := arrF 8 fun i => .i .u32 (a i : Int)
/-- eight vectors -/
def tE (t : Nat → Vc) : List PV := arrF 64 fun i => .i .u32 (t (i / 8) (i % 8) : Int)
/-- eight truths -/
def wE (w : Nat → Bool) : List PV := arrF 8 fun i => .b (w i)
def vEq (a b : Vc) : Prop := ∀ i, i < 8 → a i = b i
instance (a b : Vc) : Decidable (vEq a b) := inferInstanceAs (Decidable (∀ i, i < 8 → a i = b i))
def tEq (s t : Nat → Vc) : Prop := ∀ i, i < 8 → vEq (s i) (t i)
instance (a b : Nat → Vc) : Decidable (tEq a b) := inferInstanceAs (Decidable (∀ i, i < 8 → vEq (a i) (b i)))
def wEq (a b : Nat → Bool) : Prop := ∀ i, i < 8 → a i = b i
instance (a b : Nat → Bool) : Decidable (wEq a b) := inferInstanceAs (Decidable (∀ i, i < 8 → a i = b i))
theorem vE_ext {a b : Vc} (h : ∀ i, i < 8 → a i = b i) : vE a = vE b := arrF_ext fun i hi => by rw [h i hi]
theorem vE_inj {a b : Vc} : vE a = vE b ↔ vEq a b := by
  unfold vE vEq; rw [arrF_inj]
  refine forall_congr' fun i => forall_congr' fun hi => ?_
  simp only [PV.i.injEq, true_and]; omega
theorem wE_ext {a b : Nat → Bool} (h : ∀ i, i < 8 → a i = b i) : wE a = wE b := arrF_ext fun i hi => by rw [h i hi]
theorem wE_inj {a b : Nat → Bool} : wE a = wE b ↔ wEq a b := by
  unfold wE wEq; rw [arrF_inj]
  refine forall_congr' fun i => forall_congr' fun hi => ?_
  simp
theorem tE_ext {s t : Nat → Vc} (h : ∀ i, i < 8 → ∀ j, j < 8 → s i j = t i j) : tE s = tE t := arrF_ext fun i hi => by rw [h (i / 8) (by omega) (i % 8) (by omega)]
theorem tE_inj {s t : Nat → Vc} : tE s = tE t ↔ tEq s t := by
  unfold tE tEq vEq; rw [arrF_inj]
  constructor
  · intro h i hi j hj
    have := h (i * 8 + j) (by omega)
    rw [show (i * 8 + j) / 8 = i from by omega, show (i * 8 + j) % 8 = j from by omega] at this
    simp only [PV.i.injEq, true_and] at this; omega
  · intro h i hi; rw [h (i / 8) (by omega) (i % 8) (by omega)]
theorem vE_length (a) : (vE a).length = 8 := arrF_length ..
theorem wE_length (a) : (wE a).length = 8 := arrF_length ..
theorem tE_length (a) : (tE a).length = 64 := arrF_length ..
theorem fits_vE (a) : fits [.int .u32, .int .u32, .int .u32, .int .u32, .int .u32, .int .u32, .int .u32, .int .u32] (vE a) = True := eq_true rfl
theorem fits_wE (a) : fits [.bool, .bool, .bool, .bool, .bool, .bool, .bool, .bool] (wE a) = True := eq_true rfl
theorem fits_tE (a) : fits [.int .u32, .int .u32, .int .u32, .int .u32, .int .u32, .int .u32, .int .u32, .int .u32, .int .u32, .int .u32, .int .u32, .int .u32, .int .u32, .int .u32, .int .u32, .int .u32, .int .u32, .int .u32, .int .u32, .int .u32, .int .u32, .int .u32, .int .u32, .int .u32, .int .u32, .int .u32, .int .u32, .int .u32, .int .u32, .int .u32, .int .u32, .int .u32, .int .u32, .int .u32, .int .u32, .int .u32, .int .u32, .int .u32, .int .u32, .int .u32, .int .u32, .int .u32, .int .u32, .int .u32, .int .u32, .int .u32, .int .u32, .int .u32, .int .u32, .int .u32, .int .u32, .int .u32, .int .u32, .int .u32, .int .u32, .int .u32, .int .u32, .int .u32, .int .u32, .int .u32, .int .u32, .int .u32, .int .u32, .int .u32] (tE a) = True := eq_true rfl
theorem peq_vE (a b) : peq (vE a) (vE b) = decide (vEq a b) := by unfold peq; exact decide_eq_decide.2 vE_inj
theorem peq_wE (a b) : peq (wE a) (wE b) = decide (wEq a b) := by unfold peq; exact decide_eq_decide.2 wE_inj
theorem peq_tE (a b) : peq (tE a) (tE b) = decide (tEq a b) := by unfold peq; exact decide_eq_decide.2 tE_inj
theorem load_vE {k : Nat} (h : k < 8) (a K) : LoadK (some (vE a)) k 1 false K = K (.pv (.i .u32 (a k))) [] := load_arr h _ _
theorem load_wE {k : Nat} (h : k < 8) (a K) : LoadK (some (wE a)) k 1 false K = K (.pv (.b (a k))) [] := load_arr h _ _
theorem load_tE {k : Nat} (h : k < 8) (t K) : LoadK (some (tE t)) (k * 8) 8 true K = K (.vec 8 (vE (t k))) [] := by
  unfold tE; rw [load_arrV (by omega)]
  congr 2
  exact arrF_ext fun i hi => by rw [show (k * 8 + i) / 8 = k from by omega, show (k * 8 + i) % 8 = i from by omega]
theorem load_tE1 {k j : Nat} (h : k < 8) (hj : j < 8) (t K) : LoadK (some (tE t)) (k * 8 + j) 1 false K = K (.pv (.i .u32 (t k j))) [] := by
  unfold tE; rw [load_arr (by omega), show (k * 8 + j) / 8 = k from by omega, show (k * 8 + j) % 8 = j from by omega]
theorem splice_vE {k : Nat} (h : k < 8) (a : Vc) (n : Nat) : splice (vE a) k [.i .u32 (n : Int)] = vE (setV a k n) := by
  unfold vE; rw [arrF_set h]
  exact arrF_ext fun i hi => by unfold setV; split <;> rfl
theorem splice_wE {k : Nat} (h : k < 8) (a : Nat → Bool) (n : Bool) : splice (wE a) k [.b n] = wE (setV a k n) := by
  unfold wE; rw [arrF_set h]
  exact arrF_ext fun i hi => by unfold setV; split <;> rfl
theorem splice_tE {k : Nat} (h : k < 8) (t : Nat → Vc) (v : Vc) : splice (tE t) (k * 8) (vE v) = tE (setV t k v) := by
  unfold tE vE; rw [arrF_splice (by omega)]
  exact arrF_ext fun i hi => by
    unfold setV
    by_cases e : i / 8 = k
    · rw [if_pos (by omega), if_pos e, show i - k * 8 = i % 8 from by omega]
    · rw [if_neg (by omega), if_neg e]
theorem splice_tE1 {k j : Nat} (h : k < 8) (hj : j < 8) (t : Nat → Vc) (n : Nat) : splice (tE t) (k * 8 + j) [.i .u32 (n : Int)] = tE (setV t k (setV (t k) j n)) := by
  unfold tE; rw [arrF_set (by omega)]
  exact arrF_ext fun i hi => by
    unfold setV
    by_cases e : i / 8 = k
    · rw [if_pos e]
      by_cases e2 : i % 8 = j
      · rw [if_pos (by omega), if_pos e2]
      · rw [if_neg (by omega), if_neg e2]; simp only [e]
    · rw [if_neg (by omega), if_neg e]
theorem zero_vE : ([.i .u32 0, .i .u32 0, .i .u32 0, .i .u32 0, .i .u32 0, .i .u32 0, .i .u32 0, .i .u32 0] : List PV) = vE fun _ => 0 := rfl
theorem zero_wE : ([.b false, .b false, .b false, .b false, .b false, .b false, .b false, .b false] : List PV) = wE fun _ => false := rfl
theorem rep_vE : List.replicate 8 (PV.i .u32 0) = vE fun _ => 0 := rfl
theorem rep_wE : List.replicate 8 (PV.b false) = wE fun _ => false := rfl
theorem rep_tE : List.replicate 64 (PV.i .u32 0) = tE fun _ _ => 0 := rfl
/-- eight whole numbers -/
def iE (f : Nat → Int) : List PV := arrF 8 fun i => .i .i64 (f i)
def iEq (a b : Nat → Int) : Prop := ∀ i, i < 8 → a i = b i
instance (a b : Nat → Int) : Decidable (iEq a b) := inferInstanceAs (Decidable (∀ i, i < 8 → a i = b i))
theorem iE_ext {a b : Nat → Int} (h : ∀ i, i < 8 → a i = b i) : iE a = iE b := arrF_ext fun i hi => by rw [h i hi]
theorem iE_inj {a b : Nat → Int} : iE a = iE b ↔ iEq a b := by
  unfold iE iEq; rw [arrF_inj]
  refine forall_congr' fun i => forall_congr' fun hi => ?_
  simp only [PV.i.injEq, true_and]
theorem iE_length (a) : (iE a).length = 8 := arrF_length ..
theorem fits_iE (a) : fits [.int .i64, .int .i64, .int .i64, .int .i64, .int .i64, .int .i64, .int .i64, .int .i64] (iE a) = True := eq_true rfl
theorem peq_iE (a b) : peq (iE a) (iE b) = decide (iEq a b) := by unfold peq; exact decide_eq_decide.2 iE_inj
theorem iEq_rfl (a : Nat → Int) : iEq a a = True := eq_true fun _ _ => rfl
theorem load_iE {k : Nat} (h : k < 8) (a K) : LoadK (some (iE a)) k 1 false K = K (.pv (.i .i64 (a k))) [] := load_arr h _ _
theorem splice_iE {k : Nat} (h : k < 8) (a : Nat → Int) (n : Int) : splice (iE a) k [.i .i64 n] = iE (setV a k n) := by
  unfold iE; rw [arrF_set h]
  exact arrF_ext fun i hi => by unfold setV; split <;> rfl
theorem zero_iE : ([.i .i64 0, .i .i64 0, .i .i64 0, .i .i64 0, .i .i64 0, .i .i64 0, .i .i64 0, .i .i64 0] : List PV) = iE fun _ => 0 := rfl
theorem rep_iE : List.replicate 8 (PV.i .i64 0) = iE fun _ => 0 := rfl
theorem iE_all (f g : Nat → Int) {k : Nat} (h : 8 ≤ k) : (iE fun i => if i < k then f i else g i) = iE f := iE_ext fun i hi => by rw [if_pos (by omega)]
theorem iE_none (f g : Nat → Int) {k : Nat} (h : k = 0) : (iE fun i => if i < k then f i else g i) = iE g := iE_ext fun i hi => by rw [if_neg (by omega)]
/-! wholes laid out cell by cell -/
theorem load_c0 (c cs K) : LoadK (some (c :: cs)) 0 1 false K = K (.pv c) [] := by
  simp [LoadK, ldX]
theorem load_cS (c cs n m ag K) : LoadK (some (c :: cs)) (n + 1) m ag K = LoadK (some cs) n m ag K := by
  simp only [LoadK, List.length_cons]
  have e : ldX (c :: cs) (n + 1) m ag = ldX cs n m ag := by cases ag <;> simp [ldX]
  rw [e]
  congr 1
  exact propext ⟨fun h => by omega, fun h => by omega⟩
theorem load_app {a cs : List PV} {k m ag K} (h : k + m ≤ a.length) : LoadK (some (a ++ cs)) k m ag K = LoadK (some a) k m ag K := by
  simp only [LoadK, List.length_append]
  have e1 : (k + m ≤ a.length + cs.length) = (k + m ≤ a.length) := propext ⟨fun _ => h, fun _ => by omega⟩
  rw [e1]
  by_cases h1 : ag = true ∨ m = 1
  · have e : ldX (a ++ cs) k m ag = ldX a k m ag := by
      cases ag with
      | true => simp only [ldX]; rw [List.drop_append_of_le_length (by omega), List.take_append_of_le_length (by simp; omega)]
      | false =>
        have : m = 1 := by simpa using h1
        simp only [ldX]
        rw [List.getD_eq_getElem?_getD, List.getD_eq_getElem?_getD, List.getElem?_append_left (by omega)]
    rw [e]
  · simp [h1]
theorem load_skip {a cs : List PV} {k m ag K} (h : a.length ≤ k) : LoadK (some (a ++ cs)) k m ag K = LoadK (some cs) (k - a.length) m ag K := by
  simp only [LoadK, List.length_append]
  have e1 : (k + m ≤ a.length + cs.length) = (k - a.length + m ≤ cs.length) := propext ⟨fun _ => by omega, fun _ => by omega⟩
  rw [e1]
  have e : ldX (a ++ cs) k m ag = ldX cs (k - a.length) m ag := by
    cases ag with
    | true => simp only [ldX]; rw [List.drop_append, List.drop_eq_nil_of_le h]; rfl
    | false =>
      simp only [ldX]
      rw [List.getD_eq_getElem?_getD, List.getD_eq_getElem?_getD, List.getElem?_append_right h]
  rw [e]
theorem load_vE8 (a K) : LoadK (some (vE a)) 0 8 true K = K (.vec 8 (vE a)) [] := by
  simp only [LoadK, vE_length, ldX]
  rw [List.drop_zero, List.take_of_length_le (by rw [vE_length]; omega)]; simp
theorem load_vEa {k : Nat} (h : k < 8) (a cs K) : LoadK (some (vE a ++ cs)) k 1 false K = K (.pv (.i .u32 (a k))) [] := by
  rw [load_app (by rw [vE_length]; omega), load_vE h]
theorem load_vE8a (a cs K) : LoadK (some (vE a ++ cs)) 0 8 true K = K (.vec 8 (vE a)) [] := by
  rw [load_app (by rw [vE_length]; omega), load_vE8]
theorem load_vEs {k : Nat} (h : 8 ≤ k) (a cs m ag K) : LoadK (some (vE a ++ cs)) k m ag K = LoadK (some cs) (k - 8) m ag K := by
  rw [load_skip (by rw [vE_length]; omega), vE_length]
theorem load_whole {cs : List PV} {m : Nat} (h : cs.length = m) (K) : LoadK (some cs) 0 m true K = K (.vec m cs) [] := by
  simp only [LoadK, ldX]
  rw [List.drop_zero, List.take_of_length_le (by omega)]; simp; omega
theorem splice_c0 (c d cs) : splice (c :: cs) 0 [d] = d :: cs := by simp [splice]
theorem splice_cS (c cs n ys) : splice (c :: cs) (n + 1) ys = c :: splice cs n ys := by
  simp only [splice, List.take_succ_cons, List.cons_append, Nat.add_right_comm n 1, List.drop_succ_cons]
theorem splice_vE8a (a b cs) : splice (vE a ++ cs) 0 (vE b) = vE b ++ cs := by
  simp only [splice, List.take_zero, List.nil_append, vE_length, Nat.zero_add]
  rw [List.drop_left' (vE_length a)]
theorem splice_vE8 (a b) : splice (vE a) 0 (vE b) = vE b := by
  have := splice_vE8a a b []
  simpa using this
theorem splice_vEs {k : Nat} (h : 8 ≤ k) (a cs ys) : splice (vE a ++ cs) k ys = vE a ++ splice cs (k - 8) ys := by
  have hl := vE_length a
  simp only [splice, List.append_assoc]
  rw [List.take_append, List.take_of_length_le (by omega), List.drop_append, List.drop_eq_nil_of_le (as := vE a) (by omega), hl]
  simp only [List.append_assoc, List.nil_append]
  rw [show k + ys.length - 8 = k - 8 + ys.length from by omega]
theorem tmod_cast (a b : Nat) : ((a : Int)).tmod (b : Int) = ((a % b : Nat) : Int) := by
  rw [Int.tmod_eq_emod_of_nonneg (by omega), Int.natCast_emod]
theorem tmod_cast2 (a b n : Nat) : ((a : Int) + (b : Int)).tmod (n : Int) = (((a + b) % n : Nat) : Int) := by
  rw [← Int.natCast_add, tmod_cast]
theorem vEq_rfl (a : Vc) : vEq a a = True := eq_true fun _ _ => rfl
theorem wEq_rfl (a : Nat → Bool) : wEq a a = True := eq_true fun _ _ => rfl
theorem tEq_rfl (a : Nat → Vc) : tEq a a = True := eq_true fun _ _ _ _ => rfl
theorem setV_app2 {α β : Type} (t : Nat → β → α) (k : Nat) (v : β → α) (i : Nat) (j : β) : setV t k v i j = if i = k then v j else t i j := by
  unfold setV; split <;> rfl
theorem vE_append (t : Nat → Vc) : vE (t 0) ++ (vE (t 1) ++ (vE (t 2) ++ (vE (t 3) ++ (vE (t 4) ++ (vE (t 5) ++ (vE (t 6) ++ vE (t 7))))))) = tE t := rfl
theorem cast_max (a b : Nat) : max (a : Int) (b : Int) = ((max a b : Nat) : Int) := by omega
theorem cast_min (a b : Nat) : min (a : Int) (b : Int) = ((min a b : Nat) : Int) := by omega
theorem cast_lt (a b : Nat) : decide ((a : Int) < (b : Int)) = decide (a < b) := decide_eq_decide.2 (by omega)
theorem cast_le (a b : Nat) : decide ((a : Int) ≤ (b : Int)) = decide (a ≤ b) := decide_eq_decide.2 (by omega)
theorem cast_eq (a b : Nat) : decide ((a : Int) = (b : Int)) = decide (a = b) := decide_eq_decide.2 (by omega)

/-! what arithmetic settles -/
theorem oand_l {p q : Prop} (h : p) : (p ∧ q) = q := propext ⟨fun x => x.2, fun x => ⟨h, x⟩⟩
theorem dlt_t {a b : Int} (h : a < b) : decide (a < b) = true := decide_eq_true h
theorem dlt_f {a b : Int} (h : ¬ a < b) : decide (a < b) = false := decide_eq_false h
theorem dle_t {a b : Int} (h : a ≤ b) : decide (a ≤ b) = true := decide_eq_true h
theorem dle_f {a b : Int} (h : ¬ a ≤ b) : decide (a ≤ b) = false := decide_eq_false h
theorem deq_t {a b : Int} (h : a = b) : decide (a = b) = true := decide_eq_true h
theorem deq_f {a b : Int} (h : ¬ a = b) : decide (a = b) = false := decide_eq_false h
theorem bytesE_inj {a b : List UInt8} (h : bytesE a = bytesE b) : a = b := by
  induction a generalizing b with
  | nil => cases b with
    | nil => rfl
    | cons y b => simp [bytesE] at h
  | cons x a ih => cases b with
    | nil => simp [bytesE] at h
    | cons y b =>
      simp only [bytesE, List.map_cons, List.cons.injEq, PV.i.injEq, true_and, and_true] at h
      rw [ih h.2]; congr 1
      exact UInt8.toNat_inj.1 (by have := h.1; omega)
theorem bytesK_e (l K) : BytesK (bytesE l) K = K (.pv (.s l)) [] := by
  unfold BytesK
  exact propext ⟨fun ⟨m, e, h⟩ => by rw [bytesE_inj e]; exact h, fun h => ⟨l, rfl, h⟩⟩
theorem load_byte_e {l : List UInt8} {k : Nat} (h : k < l.length) (K) : LoadK (bytesE l)[k]? 0 1 false K = K (.pv (.i .u8 (l.getD k 0).toNat)) [] := by
  rw [bytesE_get l k h]
  simp only [LoadK, ldX]
  simp [List.getD_eq_getElem?_getD, h]
theorem imp_vec {n : Nat} {a b : List PV} (h : a = b) : Imp (.vec n a) (.vec n b) := h ▸ Imp.refl _
theorem imp_int {k : IntKind} {a b : Int} (h : a = b) : Imp (.pv (.i k a)) (.pv (.i k b)) = True := eq_true (h ▸ Imp.refl _)
theorem imp_eq {x y : SV} (h : x = y) : Imp x y := h ▸ Imp.refl _
def renT (n m : Nat) : List (Nat × SV) → List (Nat × SV)
  | [] => []
  | (j, x) :: l => (j, x.ren n m) :: renT n m l
def renH (n m : Nat) : List (Nat × Option Blk) → List (Nat × Option Blk)
  | [] => []
  | (j, some x) :: l => (if j = m then (j, none) else (j, some (x.ren n m))) :: renH n m l
  | (j, none) :: l => (j, none) :: renH n m l
theorem lk_renT (n m k) : ∀ t : List (Nat × SV), lk .dead k (renT n m t) = (lk .dead k t).ren n m
  | [] => by simp [renT, lk, SV.ren]
  | (j, x) :: l => by
    simp only [renT, lk, lk_renT n m k l]
    split <;> rfl
theorem lk_renH (n m k) (hk : k ≠ m) : ∀ t : List (Nat × Option Blk), lk none k (renH n m t) = (lk none k t).map (Blk.ren n m)
  | [] => by simp [renH, lk]
  | (j, some x) :: l => by
    by_cases hj : j = m
    · subst hj; simp [renH, lk, hk, lk_renH n j k hk l]
    · simp only [renH, hj, if_false, lk, lk_renH n m k hk l]
      split <;> rfl
  | (j, none) :: l => by
    simp only [renH, lk, lk_renH n m k hk l]
    split <;> simp
theorem ren_mk (t h n m) (hne : n ≠ m) : (mk t h).ren n m = mk (renT n m t) ((n, none) :: (m, (lk none n h).map (Blk.ren n m)) :: renH n m h) := by
  have e1 : (fun k => ((mk t h).t k).ren n m) = (mk (renT n m t) ((n, none) :: (m, (lk none n h).map (Blk.ren n m)) :: renH n m h)).t := by
    funext k; simp only [mk, lk_renT]
  have e2 : ((mk t h).ren n m).h = (mk (renT n m t) ((n, none) :: (m, (lk none n h).map (Blk.ren n m)) :: renH n m h)).h := by
    funext k
    simp only [FS.ren, mk, lk]
    by_cases h1 : k = m
    · subst h1; rw [if_pos rfl, if_neg (Ne.symm hne), if_pos rfl]
    · rw [if_neg h1]
      by_cases h2 : k = n
      · subst h2; simp
      · rw [if_neg h2, if_neg h2, if_neg h1, lk_renH n m k h1]
  show FS.mk _ _ = FS.mk _ _
  congr 1
/-- a block gets another name -/
theorem wk_ren {t : List (Nat × SV)} {h : List (Nat × Option Blk)} {s' : FS} (n m : Nat) (hne : n ≠ m) (hm : lk none m h = none) (hw : Wk (mk (renT n m t) ((n, none) :: (m, (lk none n h).map (Blk.ren n m)) :: renH n m h)) s') : Wk (mk t h) s' :=
  .ren n m hne hm (by rw [ren_mk _ _ _ _ hne]; exact hw)
/-- a nil slice becomes a row of one's own -/
theorem wk_nil {t : List (Nat × SV)} {h : List (Nat × Option Blk)} {s' : FS} (k n sz : Nat) {z : Nat} (ht : lk .dead k t = .pv (.sl true z [])) (hs : 0 < sz) (hw : Wk (mk ((k, .os n) :: killT n t) ((n, some (.row sz [])) :: killH n h)) s') : Wk (mk t h) s' :=
  .nil k n z sz ht hs (by rw [kill_mk, seth_mk, set_mk]; exact hw)
/-- the next round of a loop -/
theorem loop_next {α : Type} {I : α → FS} {J : α → Prop} {m : α → Nat} {x : α} {s : FS} (y : α) (T : List (Nat × SV)) (H : List (Nat × Option Blk)) (hI : I y = mk T H) (hJ : J y) (hm : m y < m x) (h1 : impT s T) (h2 : impH s H) : ∃ y, J y ∧ m y < m x ∧ Wk s (I y) :=
  ⟨y, hJ, hm, hI ▸ weak_mk h1 h2⟩
theorem vE_setV_lt {k : Nat} (f g : Vc) (n : Nat) (hn : n = f k) : vE (setV (fun i => if i < k then f i else g i) k n) = vE fun i => if i < k + 1 then f i else g i := by
  subst hn
  exact vE_ext fun i hi => by unfold setV; grind
theorem vE_all (f g : Vc) {k : Nat} (h : 8 ≤ k) : (vE fun i => if i < k then f i else g i) = vE f := vE_ext fun i hi => by rw [if_pos (by omega)]
theorem vE_none (f g : Vc) {k : Nat} (h : k = 0) : (vE fun i => if i < k then f i else g i) = vE g := vE_ext fun i hi => by rw [if_neg (by omega)]
theorem tE_setV_lt {k : Nat} (f g : Nat → Vc) (n : Vc) (hn : ∀ i, i < 8 → n i = f k i) : tE (setV (fun i => if i < k then f i else g i) k n) = tE fun i => if i < k + 1 then f i else g i :=
  tE_ext fun i hi j hj => by unfold setV; grind
theorem tE_all (f g : Nat → Vc) {k : Nat} (h : 8 ≤ k) : (tE fun i => if i < k then f i else g i) = tE f := tE_ext fun i hi j hj => by rw [if_pos (by omega)]
theorem tE_none (f g : Nat → Vc) {k : Nat} (h : k = 0) : (tE fun i => if i < k then f i else g i) = tE g := tE_ext fun i hi j hj => by rw [if_neg (by omega)]
theorem r_pv (n m x) : SV.ren n m (.pv x) = .pv x := (rfl)
theorem r_vec (n m k x) : SV.ren n m (.vec k x) = .vec k x := (rfl)
theorem r_pi (n m a b c d) : SV.ren n m (.pi a b c d) = .pi a b c d := (rfl)
theorem r_dead (n m) : SV.ren n m .dead = .dead := (rfl)
theorem r_p (n m k o) : SV.ren n m (.p k o) = if k = n then .p m o else if k = m then .dead else .p k o := (rfl)
theorem r_ps (n m k o) : SV.ren n m (.ps k o) = if k = n then .ps m o else if k = m then .dead else .ps k o := (rfl)
theorem r_pr (n m k s i o) : SV.ren n m (.pr k s i o) = if k = n then .pr m s i o else if k = m then .dead else .pr k s i o := (rfl)
theorem r_os (n m k) : SV.ren n m (.os k) = if k = n then .os m else if k = m then .dead else .os k := (rfl)
theorem r_agg (n m l) : SV.ren n m (.agg l) = .agg (SV.renL n m l) := (rfl)
theorem r_tup (n m l) : SV.ren n m (.tup l) = .tup (SV.renL n m l) := (rfl)
theorem r_fn (n m f l) : SV.ren n m (.fn f l) = .fn f (SV.renL n m l) := (rfl)
theorem rL_nil (n m) : SV.renL n m [] = [] := (rfl)
theorem rL_cons (n m x l) : SV.renL n m (x :: l) = SV.ren n m x :: SV.renL n m l := (rfl)
theorem rb_var (n m x) : Blk.ren n m (.var x) = .var (x.ren n m) := (rfl)
theorem rb_row (n m a b) : Blk.ren n m (.row a b) = .row a b := (rfl)
theorem renT_nil (n m) : renT n m [] = [] := (rfl)
theorem renT_cons (n m j x l) : renT n m ((j, x) :: l) = (j, x.ren n m) :: renT n m l := (rfl)
theorem renH_nil (n m) : renH n m [] = [] := (rfl)
theorem renH_cons (n m j x l) : renH n m ((j, some x) :: l) = (if j = m then (j, none) else (j, some (x.ren n m))) :: renH n m l := (rfl)
theorem renH_none (n m j l) : renH n m ((j, none) :: l) = (j, none) :: renH n m l := (rfl)
theorem fa_nil (p : List PV → Prop) : (∀ c, c ∈ ([] : List (List PV)) → p c) = True := by simp
theorem fa_cons (x l) (p : List PV → Prop) : (∀ c, c ∈ x :: l → p c) = (p x ∧ ∀ c, c ∈ l → p c) := by simp
theorem ex_os (d : Nat) (p : Nat → Prop) : (∃ n, SV.os d = SV.os n ∧ p n) = p d := propext ⟨fun ⟨n, e, h⟩ => by cases e; exact h, fun h => ⟨d, rfl, h⟩⟩
theorem ex_os2 (d : Nat) (z z' : SV) (p : Nat → Prop) : (∃ n, SV.tup [.os d, z] = SV.tup [.os n, z'] ∧ p n) = (z = z' ∧ p d) := propext ⟨fun ⟨n, e, h⟩ => by cases e; exact ⟨rfl, h⟩, fun ⟨e, h⟩ => ⟨d, by rw [e], h⟩⟩
theorem fa_bytes (l : List UInt8) : (∀ c, c ∈ bytesE l → c.length = 1) = True := eq_true fun c hc => by
  obtain ⟨x, _, rfl⟩ := List.mem_map.1 hc
  rfl
theorem bytesE_take_all (l : List UInt8) : (bytesE l).take l.length = bytesE l := by rw [← bytesE_length l]; exact List.take_length
theorem bytesE_takeN (l : List UInt8) (n : Nat) : (bytesE l).take n = bytesE (l.take n) := by simp [bytesE]
theorem bytesE_dropN (l : List UInt8) (n : Nat) : (bytesE l).drop n = bytesE (l.drop n) := by simp [bytesE]
theorem bytesE_appN (a b : List UInt8) : bytesE a ++ bytesE b = bytesE (a ++ b) := by simp [bytesE]
attribute [go_sem] bytesE_take_all bytesE_dropN bytesE_takeN bytesE_appN List.take_length fa_bytes fa_nil fa_cons ex_os ex_os2 List.length_cons List.length_nil iE_length fits_iE peq_iE iEq_rfl load_iE splice_iE zero_iE rep_iE r_pv r_vec r_pi r_dead r_p r_ps r_pr r_os r_agg r_tup r_fn rL_nil rL_cons rb_var rb_row renT_nil renT_cons renH_nil renH_cons renH_none load_c0 load_cS load_vE8 load_vEa load_vE8a load_vEs splice_c0 splice_cS splice_vE8a splice_vE8 splice_vEs tmod_cast tmod_cast2 vEq_rfl wEq_rfl tEq_rfl imp_int Int.natCast_zero load_vE load_wE load_tE load_tE1 splice_vE splice_wE splice_tE splice_tE1 zero_vE zero_wE rep_vE rep_wE rep_tE vE_length wE_length tE_length fits_vE fits_wE fits_tE peq_vE peq_wE peq_tE cast_max cast_min
  oand_l dlt_t dlt_f dle_t dle_f deq_t deq_f bytesK_e bytesE_length Nat.mul_one Bool.false_xor Bool.true_xor
section slices
variable (E : Env)
theorem k_ov (n m z a b) : SV.kill n (.ov m z a b) = if n = m then .dead else .ov m z a b := (rfl)
theorem f_ov (n v m z a b) : SV.frz n v (.ov m z a b) = .ov m z a b := (rfl)
theorem r_ov (n m k z a b) : SV.ren n m (.ov k z a b) = if k = n then .ov m z a b else if k = m then .dead else .ov k z a b := (rfl)
theorem kb_rowc (n a b c) : Blk.kill n (.rowc a b c) = .rowc a b c := (rfl)
theorem fb_rowc (n v a b c) : Blk.frz n v (.rowc a b c) = .rowc a b c := (rfl)
theorem rb_rowc (n m a b c) : Blk.ren n m (.rowc a b c) = .rowc a b c := (rfl)
theorem impB_rowc (sz es c sz' es' c') : impB (some (.rowc sz es c)) (.rowc sz' es' c') = (sz = sz' ∧ es = es' ∧ c = c') := (rfl)
theorem impB_rowcr (sz es c sz' es') : impB (some (.rowc sz es c)) (.row sz' es') = (sz = sz' ∧ es = es') := (rfl)
theorem b_eqn (n x d s K) : body E (.eqn n) x d s K = opSem d s.h (.eqn n) (evL s x) K := (rfl)
theorem b_cap (x d s K) : body E .cap x d s K = opSem d s.h .cap (evL s x) K := (rfl)
theorem b_cpy (n x d s K) : body E (.cpy n) x d s K = opSem d s.h (.cpy n) (evL s x) K := (rfl)
theorem b_apz (a b z x d s K) : body E (.apz a b z) x d s K = opSem d s.h (.apz a b z) (evL s x) K := (rfl)
theorem b_slv (n a b x d s K) : body E (.slv n a b) x d s K = opSem d s.h (.slv n a b) (evL s x) K := (rfl)
theorem b_slx (n x d s K) : body E (.slx n) x d s K = opSem d s.h (.slx n) (evL s x) K := (rfl)
theorem o_eqn_sl (d h n f z es K) : opSem d h (.eqn n) [.pv (.sl f z es)] K = eqnSem n (some es) K := (rfl)
theorem o_eqn_os (d h n m K) : opSem d h (.eqn n) [.os m] K = eqnSem n (elRow (h m)) K := (rfl)
theorem eqnSem_s (n es K) : eqnSem n (some es) K = ∀ b : Bool, (es ≠ [] → b = false) → K (.pv (.b (n ^^ b))) [] := (rfl)
theorem o_cap (d h n K) : opSem d h .cap [.os n] K = capRow (h n) n K := (rfl)
theorem capRow_r (sz es n K) : capRow (some (.row sz es)) n K = ∀ c : Nat, es.length ≤ c → K (.pv (.i .i64 c)) [.upd n (.rowc sz es c)] := (rfl)
theorem capRow_c (sz es c n K) : capRow (some (.rowc sz es c)) n K = K (.pv (.i .i64 c)) [] := (rfl)
theorem elRowC_r (sz es) : elRowC (some (.row sz es)) = some es := (rfl)
theorem elRowC_c (sz es c) : elRowC (some (.rowc sz es c)) = some es := (rfl)
theorem rowSzC_r (sz es) : rowSzC (some (.row sz es)) = sz := (rfl)
theorem rowSzC_c (sz es c) : rowSzC (some (.rowc sz es c)) = sz := (rfl)
theorem elemsC_ov (h n z a b) : elemsC h (.ov n z a b) = (elRowC (h n)).map fun es => (es.take b).drop a := (rfl)
theorem elemsC_pv (h x) : elemsC h (.pv x) = elems h (.pv x) := (rfl)
theorem elemsC_os (h n) : elemsC h (.os n) = elems h (.os n) := (rfl)
theorem elSzC_ov (h n z a b) : elSzC h (.ov n z a b) = if rowSzC (h n) = z then z else 0 := (rfl)
theorem elSzC_pv (h x) : elSzC h (.pv x) = elSz h (.pv x) := (rfl)
theorem elSzC_os (h n) : elSzC h (.os n) = elSz h (.os n) := (rfl)
theorem o_cpy (d h sz x y K) : opSem d h (.cpy sz) [x, y] K = cpySem h sz x y K := (rfl)
theorem cpySem_os (h sz n y K) : cpySem h sz (.os n) y K = cpyRow (h n) n sz 0 none (elemsC h y) (elSzC h y) K := (rfl)
theorem cpySem_ov (h sz n z a b y K) : cpySem h sz (.ov n z a b) y K = (z = sz ∧ cpyRow (h n) n sz a (some b) (elemsC h y) (elSzC h y) K) := (rfl)
theorem cpyRow_n (sz' es n sz lo ys z K) : cpyRow (some (.row sz' es)) n sz lo none (some ys) z K = (sz = sz' ∧ (ys = [] ∨ z = sz) ∧
      K (.pv (.i .i64 ((min ys.length (es.length - lo) : Nat) : Int))) [.upd n (.row sz (es.take lo ++ ys.take (es.length - lo) ++ es.drop (lo + min ys.length (es.length - lo))))]) := (rfl)
theorem cpyRow_s (sz' es n sz lo hi ys z K) : cpyRow (some (.row sz' es)) n sz lo (some hi) (some ys) z K = (sz = sz' ∧ (ys = [] ∨ z = sz) ∧
      K (.pv (.i .i64 ((min ys.length (hi - lo) : Nat) : Int))) [.upd n (.row sz (es.take lo ++ ys.take (hi - lo) ++ es.drop (lo + min ys.length (hi - lo))))]) := (rfl)
theorem o_apz (d h a b z x k m K) : opSem d h (.apz a b z) [x, .pv (.i k m)] K = apzSem h d a b z m x K := (rfl)
theorem apzSem_ov (h d a b z m n y lo hi K) : apzSem h d a b z m (.ov n y lo hi) K = (lo = 0 ∧ apzRow (h n) d a b z hi m K) := (rfl)
theorem apzRow_c (sz' es c d sz bytes z hi m K) : apzRow (some (.rowc sz' es c)) d sz bytes z hi m K = (sz = sz' ∧ 0 < m ∧ (c : Int) < hi + m ∧ (hi + m) * bytes ≤ 70368744177664 ∧ K (.os d) [.new d (.row sz (es.take hi ++ List.replicate m.toNat z))]) := (rfl)
theorem o_slv (d h sz a b x l K) : opSem d h (.slv sz a b) (x :: l) K = slvSem h sz a b x l K := (rfl)
theorem slvSem_os (h sz a b n l K) : slvSem h sz a b (.os n) l K = slv2 n sz b (elRowC (h n)) (rowSzC (h n)) (idxOr a 0 l) K := (rfl)
theorem slvSem_pv (h sz a b p l K) : slvSem h sz a b (.pv p) l K = slc1 (.pv p) h sz a b false l (elems h (.pv p)) K := (rfl)
theorem slv2_s (n sz hi es z i l K) : slv2 n sz hi (some es) z (some (i, l)) K = (sz = z ∧ slv3 n sz es.length i (idxOr hi es.length l) K) := (rfl)
theorem slv3_s (n sz len i j l K) : slv3 n sz len i (some (j, l)) K = (0 ≤ i ∧ i ≤ j ∧ j ≤ len ∧ K (.ov n sz i.toNat j.toNat) []) := (rfl)
theorem o_slx (d h sz x k j K) : opSem d h (.slx sz) [x, .pv (.i k j)] K = slxSem h d sz x j [.pv (.i k j)] K := (rfl)
theorem slxSem_os (h d sz n j l K) : slxSem h d sz (.os n) j l K = slxRow (h n) n d sz j (slc1 (.os n) h sz false true false l (elems h (.os n)) K) K := (rfl)
theorem slxSem_pv (h d sz p j l K) : slxSem h d sz (.pv p) j l K = slc1 (.pv p) h sz false true false l (elems h (.pv p)) K := (rfl)
theorem slxRow_c (sz' es c n d sz j T K) : slxRow (some (.rowc sz' es c)) n d sz j T K = (sz = sz' ∧ es.length ≤ j ∧ j ≤ c ∧ ∀ g : List (List PV), g.length = j.toNat - es.length → (∀ x ∈ g, x.length = sz) → K (.os d) [.del n, .new d (.row sz (es ++ g))]) := (rfl)
theorem slxRow_r (sz' es n d sz j T K) : slxRow (some (.row sz' es)) n d sz j T K = T := (rfl)
attribute [go_sem] k_ov f_ov r_ov kb_rowc fb_rowc rb_rowc impB_rowc impB_rowcr b_eqn b_cap b_cpy b_apz b_slv b_slx o_eqn_sl o_eqn_os eqnSem_s o_cap capRow_r capRow_c elRowC_r elRowC_c rowSzC_r rowSzC_c elemsC_ov elemsC_pv elemsC_os
  elSzC_ov elSzC_pv elSzC_os o_cpy cpySem_os cpySem_ov cpyRow_n cpyRow_s o_apz apzSem_ov apzRow_c o_slv slvSem_os slvSem_pv slv2_s slv3_s o_slx slxSem_os slxSem_pv slxRow_c slxRow_r Nat.sub_zero
end slices
section own
variable {P : Program} {F : Fr} {N : Nat} {ρ : Nat → Value} {s : FS} {a : Act} {w w' : World} {K : KK} {V : View}
theorem hup_dels {u : List HU} : ∀ (ts : List Nat) (s : FS), s.hup (ts.map HU.del ++ u) = (without s ts).hup u
  | [], s => by simp [without]
  | n :: ts, s => by
    simp only [List.map_cons, List.cons_append, FS.hup]
    rw [hup_dels ts]
    congr 1
    refine FS.ext' (fun _ => rfl) (fun m => ?_)
    simp only [without, FS.seth, List.mem_cons]
    by_cases h1 : m ∈ ts
    · simp [h1]
    · by_cases h2 : m = n <;> simp [h1, h2]
/-- the blocks of these names -/
def mine (ρ : Nat → Value) (h : Nat → Option Blk) (ts : List Nat) (b : Nat) : Prop := ∃ n ∈ ts, ∃ blk, h n = some blk ∧ idOf (ρ n) = some b
theorem RelR.swapin (hR : RelR F N ρ s a w) (ts : List Nat) (d : Nat) (blk : Blk) (p : Value)
    (hos : w'.os = w.os) (htape : w'.tape = w.tape) (hout : w'.output = w.output) (hsize : w.heap.size ≤ w'.heap.size) (hblock : ∀ b, b < w.heap.size → ¬ mine ρ s.h ts b → w'.heap[b]? = w.heap[b]?)
    (hid : ∀ b, idOf p = some b → (w.heap.size ≤ b ∧ b < w'.heap.size) ∨ mine ρ s.h ts b)
    (hown : Own w' (vw F w' (Fw.upd ρ d p) (((without s ts).kill d).seth d (some blk))) (Fw.upd ρ d p) d blk) :
    RelR F N (Fw.upd ρ d p) (((without s ts).kill d).seth d (some blk)) a w' ∧ (vw F w ρ s).le (vw F w' (Fw.upd ρ d p) (((without s ts).kill d).seth d (some blk))) := by
  have hs : ∀ m x, (((without s ts).kill d).seth d (some blk)).h m = some x → (m = d ∧ x = blk) ∨ (m ≠ d ∧ m ∉ ts ∧ ∃ y, s.h m = some y ∧ x = y.kill d) := by
    intro m x hm
    simp only [without, FS.seth, FS.kill] at hm
    by_cases e : m = d
    · simp only [e, if_true] at hm; cases hm; exact .inl ⟨e, rfl⟩
    · simp only [e, if_false] at hm
      by_cases e2 : m ∈ ts
      · simp [e2] at hm
      · simp only [e2, if_false] at hm
        cases hy : s.h m with
        | none => rw [hy] at hm; cases hm
        | some y => rw [hy] at hm; cases hm; exact .inr ⟨e, e2, y, rfl, rfl⟩
  have mo : ∀ b, mine ρ s.h ts b → owned ρ s.h b := fun b ⟨n, _, y, h1, h2⟩ => ⟨n, y, h1, h2⟩
  have key : ∀ b, owned (Fw.upd ρ d p) (((without s ts).kill d).seth d (some blk)).h b → owned ρ s.h b ∨ (w.heap.size ≤ b ∧ b < w'.heap.size) := by
    rintro b ⟨m, x, hm, hb⟩
    rcases hs m x hm with ⟨rfl, rfl⟩ | ⟨e1, e2, y, hy, rfl⟩
    · rw [upd_self] at hb
      rcases hid b hb with h | h
      · exact .inr h
      · exact .inl (mo b h)
    · rw [upd_ne e1] at hb; exact .inl ⟨m, y, hy, hb⟩
  have hV : (vw F w ρ s).le (vw F w' (Fw.upd ρ d p) (((without s ts).kill d).seth d (some blk))) := viewOf_le fun b c ho hc => by
    have hlt := cellsAt_of hc
    refine ⟨fun hb => ?_, ?_⟩
    · rcases hb with hb | hb
      · rcases key b hb with h | h
        · exact ho (.inl h)
        · omega
      · exact ho (.inr hb)
    · rw [cellsAt_congr (hblock b hlt fun h => ho (.inl (mo b h)))]; exact hc
  refine ⟨⟨⟨hos.trans hR.fr.os, htape.trans hR.fr.tape, hout.trans hR.fr.output, Nat.le_trans hR.fr.size hsize, fun b hb hm => ?_, hR.fr.hid⟩, fun b hb => ?_, fun m x hm => ?_, fun m k x y b hm hk hbm hbk => ?_, fun m => ?_, hR.size, hR.defers⟩, hV⟩
  · rw [hblock b (Nat.lt_of_lt_of_le hb hR.fr.size) fun h => by
      rcases hR.may b (mo b h) with h1 | h1
      · omega
      · exact hm h1]
    exact hR.fr.block b hb hm
  · rcases key b hb with h | h
    · exact hR.may b h
    · exact .inl (Nat.le_trans hR.fr.size h.1)
  · rcases hs m x hm with ⟨rfl, rfl⟩ | ⟨e1, e2, y, hy, rfl⟩
    · exact hown
    · have ho := hR.own m y hy
      exact (ho.congr (V' := vw F w ρ s) (w' := w') (fun _ _ x => x) (fun b hb => hblock b (ho.lt hb) fun ⟨n, hn, z, hz, hb'⟩ => e2 (by rw [hR.inj m n y z b hy hz hb hb']; exact hn))).kill hV e1
  · rcases hs m x hm with ⟨rfl, rfl⟩ | ⟨e1, e2, z, hz, rfl⟩
    · rcases hs k y hk with ⟨rfl, rfl⟩ | ⟨f1, f2, u, hu, rfl⟩
      · rfl
      · exfalso; rw [upd_self] at hbm; rw [upd_ne f1] at hbk
        rcases hid b hbm with h | ⟨n, hn, q, hq, hb'⟩
        · have := (hR.own k u hu).lt hbk; omega
        · exact f2 (by rw [hR.inj k n u q b hu hq hbk hb']; exact hn)
    · rcases hs k y hk with ⟨rfl, rfl⟩ | ⟨f1, f2, u, hu, rfl⟩
      · exfalso; rw [upd_self] at hbk; rw [upd_ne e1] at hbm
        rcases hid b hbk with h | ⟨n, hn, q, hq, hb'⟩
        · have := (hR.own m z hz).lt hbm; omega
        · exact e2 (by rw [hR.inj m n z q b hz hq hbm hb']; exact hn)
      · rw [upd_ne e1] at hbm; rw [upd_ne f1] at hbk
        exact hR.inj m k z u b hz hu hbm hbk
  · show Conc _ _ ((s.t m).kill d) _
    exact (hR.tmps m).kill hV

/-- a call, from whatever state the callee begins in -/
theorem call_from (hm : P.follows .mixedOrders = true) {f N' : Nat} {rs : List Rv} {c : C} (hf : fnOf P f = some (N', rs, c)) {F' : Fr} {s0 : FS} {vs : List Value}
    (hR : RelR F' N' ρ s0 { tmps := (⟨vs⟩ : Array Value) ++ Array.replicate (N' - (⟨vs⟩ : Array Value).size) undef, defers := [] } w) {R : SV → (Nat → Option Blk) → Prop} (hrun : sx (env P F' N') c (RetQ rs R) s0) :
    Calls P f ⟨vs⟩ w fun e w' => ∃ v ρ' s' a' y, e = .returned v ∧ RelR F' N' ρ' s' a' w' ∧ Conc (vw F' w' ρ' s') ρ' y v ∧ R y s'.h := by
  obtain ⟨fn, code, h1, h2, h3, h4, h5, h6⟩ := fnOf_ok hf
  subst h4
  refine calls_of_wp h1 h3 (wp_mono (sx_ok hm h6 hrun ⟨ρ, hR⟩) fun e a' w' he => ?_)
  have fin : (∃ s, Rel F' fn.ntmps s a' w' ∧ resK s rs fun l => R (one l) s.h) → a'.defers = [] ∧ ∃ v, (results fn a'.tmps).run P w' = .ok v w' ∧ ∃ v' ρ' s' a' y, Ending.returned v = .returned v' ∧ RelR F' fn.ntmps ρ' s' a' w' ∧ Conc (vw F' w' ρ' s') ρ' y v' ∧ R y s'.h := fun ⟨s', ⟨ρ', hR'⟩, hr⟩ => by
    obtain ⟨l, v, k1, k2, k3⟩ := run_results (P := P) hR' h5 hr
    exact ⟨hR'.defers, v, k3, v, ρ', s', a', _, rfl, hR', k2, k1⟩
  cases e with
  | normal => exact fin he
  | ret => exact fin he
  | exit id => obtain ⟨_, _, h⟩ := he; exact h.elim
  | goto _ => exact he.elim
  | panic _ => exact he.elim
  | outgrown => exact he.elim
/-- the slices among the arguments, given away for good -/
def givenH (h : Nat → Option Blk) : List Nat → List (Nat × Option Blk)
  | [] => []
  | n :: l => (n, h n) :: givenH h l
theorem lk_given (h : Nat → Option Blk) (n : Nat) : ∀ ts : List Nat, lk none n (givenH h ts) = if n ∈ ts then h n else none
  | [] => by simp [givenH, lk]
  | m :: ts => by
    simp only [givenH, lk, lk_given h n ts, List.mem_cons]
    by_cases e : n = m
    · subst e; simp
    · simp [e]
theorem fun_own (hm : P.follows .mixedOrders = true) {f N' : Nat} {rs : List Rv} {c : C} (hf : fnOf P f = some (N', rs, c)) {args : List SV} {h : Nat → Option Blk} {d : Nat} {sz : Nat} {es : List (List PV)} (hlen : args.length ≤ N')
    (hts : lentNames args = tops args)
    (hrun : ∀ F, sx (env P F N') c (RetQ rs fun y g => ∃ n, y = .os n ∧ g n = some (.row sz es)) (mk (argT 0 args) (givenH h (lentNames args)))) :
    FunOk P f args h d (.os d) ((lentNames args).map .del ++ [.new d (.row sz es)]) := by
  refine ⟨entered_of hf, fun F N ρ s a w hR hh vs hc => ?_⟩
  rw [hts]
  rw [hts] at hrun
  generalize htt : tops args = ts at *
  let F' : Fr := ⟨w, mine ρ s.h ts, F.out ρ (without s ts).h⟩
  have hvl : vs.length = args.length := by
    clear hrun hlen hts hh htt
    induction args generalizing vs with
    | nil => simp only [ConcL] at hc; subst hc; rfl
    | cons x l ih =>
      simp only [ConcL] at hc
      obtain ⟨v, us, rfl, _, h⟩ := hc
      simp [ih _ h]
  have hlk : ∀ n, (mk (argT 0 args) (givenH h ts)).h n = if n ∈ ts then s.h n else none := fun n => by
    simp only [mk, lk_given]
    split
    · rename_i hn; rw [hh n hn]
    · rfl
  have how : ∀ b, owned ρ (mk (argT 0 args) (givenH h ts)).h b ↔ mine ρ s.h ts b := fun b => by
    constructor
    · rintro ⟨n, x, h1, h2⟩
      rw [hlk] at h1; split at h1
      · rename_i hn; exact ⟨n, hn, x, h1, h2⟩
      · cases h1
    · rintro ⟨n, hn, x, h1, h2⟩
      exact ⟨n, x, by rw [hlk, if_pos hn]; exact h1, h2⟩
  have hoth : ∀ b, owned ρ (without s ts).h b ↔ ∃ n, n ∉ ts ∧ ∃ x, s.h n = some x ∧ idOf (ρ n) = some b := fun b => by
    constructor
    · rintro ⟨n, x, h1, h2⟩
      simp only [without] at h1; split at h1
      · cases h1
      · rename_i hn; exact ⟨n, hn, x, h1, h2⟩
    · rintro ⟨n, hn, x, h1, h2⟩
      exact ⟨n, x, by simp only [without, if_neg hn]; exact h1, h2⟩
  have hview : viewOf w (F'.out ρ (mk (argT 0 args) (givenH h ts)).h) = vw F w ρ s := by
    show viewOf w _ = viewOf w _
    congr 1
    funext b
    refine propext ⟨fun hb => ?_, fun hb => ?_⟩
    · rcases hb with hb | hb
      · obtain ⟨n, _, x, h1, h2⟩ := (how b).1 hb; exact .inl ⟨n, x, h1, h2⟩
      · rcases hb with hb | hb
        · obtain ⟨n, _, x, h1, h2⟩ := (hoth b).1 hb; exact .inl ⟨n, x, h1, h2⟩
        · exact .inr hb
    · rcases hb with ⟨n, x, h1, h2⟩ | hb
      · by_cases hn : n ∈ ts
        · exact .inl ((how b).2 ⟨n, hn, x, h1, h2⟩)
        · exact .inr (.inl ((hoth b).2 ⟨n, hn, x, h1, h2⟩))
      · exact .inr (.inr hb)
  have hR0 : RelR F' N' ρ (mk (argT 0 args) (givenH h ts)) { tmps := (⟨vs⟩ : Array Value) ++ Array.replicate (N' - (⟨vs⟩ : Array Value).size) undef, defers := [] } w := by
    refine ⟨⟨rfl, rfl, rfl, Nat.le_refl _, fun _ _ _ => rfl, fun b hb => ⟨?_, fun hmi => ?_⟩⟩, fun b hb => .inr ((how b).1 hb), fun n x hx => ?_, fun n m x y b hx hy hbx hby => ?_, fun n => ?_, by simp; omega, rfl⟩
    · rcases hb with hb | hb
      · obtain ⟨n, _, x, h1, h2⟩ := (hoth b).1 hb; exact (hR.own n x h1).lt h2
      · exact Nat.lt_of_lt_of_le (hR.fr.hid b hb).1 hR.fr.size
    · obtain ⟨n, hn, x, h1, h2⟩ := hmi
      rcases hb with hb | hb
      · obtain ⟨m, hm, y, g1, g2⟩ := (hoth b).1 hb
        exact hm (by rw [hR.inj m n y x b g1 h1 g2 h2]; exact hn)
      · exact hR.shown ⟨n, x, h1, h2⟩ hb
    · rw [hview]
      rw [hlk] at hx; split at hx
      · exact hR.own n x hx
      · cases hx
    · rw [hlk] at hx hy
      split at hx
      · split at hy
        · exact hR.inj n m x y b hx hy hbx hby
        · cases hy
      · cases hx
    · rw [hview]
      have := argT_conc 0 n hc
      simp only [Nat.zero_le, if_true, Nat.sub_zero] at this
      simp only [mk]
      have he : ((⟨vs⟩ : Array Value) ++ Array.replicate (N' - (⟨vs⟩ : Array Value).size) undef).getD n undef = (vs[n]?).getD undef := by
        rw [Array.getD_eq_getD_getElem?]
        by_cases hn : n < vs.length
        · rw [Array.getElem?_append_left (by simpa using hn)]; simp
        · rw [Array.getElem?_append_right (by simpa using hn)]
          rw [List.getElem?_eq_none (by omega)]
          simp only [Array.getElem?_replicate, Option.getD_none]
          split <;> rfl
      rw [he]; exact this
  refine Calls.mono (call_from hm hf hR0 (hrun F')) fun e w' he => ?_
  obtain ⟨v, ρ', s', a', y, rfl, hR', hy, n, rfl, hn⟩ := he
  simp only [Conc] at hy
  have ho : ∀ b, idOf (ρ' n) = some b → owned ρ' s'.h b := fun b hb => ⟨n, _, hn, hb⟩
  have hid : ∀ b, idOf (ρ' n) = some b → (w.heap.size ≤ b ∧ b < w'.heap.size) ∨ mine ρ s.h ts b := fun b hb => by
    rcases hR'.may b (ho b hb) with h1 | h1
    · exact .inl ⟨h1, hR'.lt (ho b hb)⟩
    · exact .inr h1
  have hres := hR.swapin (w' := w') ts d (.row sz es) (ρ' n) hR'.fr.os hR'.fr.tape hR'.fr.output hR'.fr.size hR'.fr.block hid (by
    obtain ⟨base, cap, g1, g2, g3, g4, g5⟩ := hR'.own n _ hn
    refine ⟨base, cap, by rw [upd_self]; exact g1, g2, g3, g4, fun hcap => ?_⟩
    obtain ⟨b, vs', ty, fr, k1, k2, k3, k4, k5, k6⟩ := g5 hcap
    refine ⟨b, vs', ty, fr, k1, k2, k3, k4, k5, fun i c hi => (k6 i c hi).mono (viewOf_le fun b' c' hno hc' => ⟨fun hb' => hno ?_, hc'⟩)⟩
    rcases hb' with ⟨m, z, hm1, hm2⟩ | hb'
    · simp only [without, FS.seth, FS.kill] at hm1
      by_cases hmd : m = d
      · subst hmd
        rw [upd_self] at hm2
        exact .inl ⟨n, _, hn, hm2⟩
      · rw [upd_ne hmd] at hm2
        simp only [hmd, if_false] at hm1
        by_cases hmt : m ∈ ts
        · simp [hmt] at hm1
        · simp only [hmt, if_false] at hm1
          obtain ⟨z', hz', _⟩ := Option.map_eq_some_iff.1 hm1
          exact .inr (.inl ((hoth b').2 ⟨m, hmt, z', hz', hm2⟩))
    · exact .inr (.inr hb'))
  have e1 : s.hup (List.map HU.del ts ++ [HU.new d (Blk.row sz es)]) = ((without s ts).kill d).seth d (some (.row sz es)) := by rw [hup_dels]; rfl
  refine ⟨v, Fw.upd ρ d (ρ' n), rfl, by rw [e1]; exact hres.1, ?_⟩
  simp only [Conc]
  exact ⟨by rw [upd_self]; exact hy.1, hy.2⟩
theorem fun_rowN (hm : P.follows .mixedOrders = true) {f N' : Nat} {rs : List Rv} {c : C} (hf : fnOf P f = some (N', rs, c)) {args : List SV} {h : Nat → Option Blk} {d : Nat} {sz : Nat} {es : List (List PV)} (hlen : args.length ≤ N')
    (hargs : lendable args = true) (hx : SV.closedL args = true ∨ ∀ c ∈ es, c.all PV.flat = true) (hrun : ∀ F, sx (env P F N') c (RetQ rs fun y g => (∃ n, y = .os n ∧ g n = some (.row sz es)) ∨ ∃ z, y = .pv (.sl true z []) ∧ es = [] ∧ 0 < sz) (mk (argT 0 (lents h args)) [])) :
    FunOk P f args h d (.os d) [.new d (.row sz es)] := by
  refine ⟨entered_of hf, fun F N ρ s a w hR hh vs hc => ?_⟩
  refine Calls.mono (call_after hm hf (h := h) hlen hargs hrun hR hh hc) fun e w' he => ?_
  obtain ⟨v, rfl, hg, N'', ρ', s', a', y, hR', hy, hyy⟩ := he
  rcases hyy with ⟨n, rfl, hn⟩ | ⟨z, rfl, rfl, hsz⟩
  case inr =>
    simp only [Conc] at hy
    have hv : ∃ base, v = .slice base 0 0 := by
      cases hy with
      | sl full sz es b cap cs bl off arr hcap hfull hsz ha hcs hel =>
        have := hfull rfl
        simp at this
        subst this
        exact ⟨b, rfl⟩
    obtain ⟨base, rfl⟩ := hv
    obtain ⟨h1, _⟩ := (hR.grew hg).new (Grew.refl w') d (.row sz []) (.slice base 0 0) (fun b hb => by cases base <;> simp [idOf] at hb) (fun V' _ => ⟨base, 0, by rw [upd_self]; rfl, Nat.le_refl _, hsz, by simp, fun h => absurd rfl h⟩)
    exact ⟨_, _, rfl, h1, conc_os⟩
  simp only [Conc] at hy
  obtain ⟨base, cap, g1, g2, g3, g4, g5⟩ := hR'.own n _ hn
  have hown : ∀ b, idOf (ρ' n) = some b → w.heap.size ≤ b ∧ b < w'.heap.size := fun b hb => by
    have ho : owned ρ' s'.h b := ⟨n, _, hn, hb⟩
    exact ⟨(hR'.may b ho).resolve_right id, hR'.lt ho⟩
  have hnew := hR.adopt hg d (.row sz es) (ρ' n) hown fun hV => by
    refine ⟨base, cap, by rw [upd_self]; exact g1, g2, g3, g4, fun hcap => ?_⟩
    obtain ⟨b, vs', ty, fr, k1, k2, k3, k4, k5, k6⟩ := g5 hcap
    refine ⟨b, vs', ty, fr, k1, k2, k3, k4, k5, fun i c hi => ?_⟩
    rcases hx with hx | hx
    · obtain ⟨e1, _, _⟩ := lentNames_nil hx
      rw [e1, without_nil] at hR' k6
      refine (k6 i c hi).mono (viewOf_le fun b' c' ho hc' => ⟨fun hb' => ?_, hc'⟩)
      rcases hb' with ⟨m, z, hm1, hm2⟩ | hb'
      · by_cases hmd : m = d
        · subst hmd
          rw [upd_self] at hm2
          exact ho (.inl ⟨n, _, hn, hm2⟩)
        · rw [upd_ne hmd] at hm2
          simp only [FS.seth, FS.kill, hmd, if_false] at hm1
          obtain ⟨z', hz', _⟩ := Option.map_eq_some_iff.1 hm1
          exact ho (.inr (.inl ⟨m, z', hz', hm2⟩))
      · exact ho (.inr (.inr hb'))
    · exact flat_cells (hx c (List.mem_of_getElem? hi)) (k6 i c hi)
  refine ⟨v, _, rfl, hnew.1, ?_⟩
  simp only [Conc]
  exact ⟨by rw [upd_self]; exact hy.1, hy.2⟩

theorem ex_pvos (x : PV) (p : Nat → Prop) : (∃ n, SV.pv x = SV.os n ∧ p n) = False := by simp
theorem ex_osnil (n : Nat) (q : Prop) : (∃ z, SV.os n = SV.pv (.sl true z []) ∧ q) = False := by simp
theorem ex_nil (z0 : Nat) (q : Prop) : (∃ z, SV.pv (.sl true z0 []) = SV.pv (.sl true z []) ∧ q) = q := propext ⟨fun ⟨_, _, h⟩ => h, fun h => ⟨z0, rfl, h⟩⟩
theorem givenH_nil (h) : givenH h [] = [] := (rfl)
theorem givenH_cons (h n l) : givenH h (n :: l) = (n, h n) :: givenH h l := (rfl)
attribute [go_sem] ex_pvos ex_osnil ex_nil givenH_nil givenH_cons false_or or_false
end own
end Go.Proofs.Ytmeecblciegkkaa.Fw
