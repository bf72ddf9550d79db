/- Orders and control of the small language do in the model what their meaning tells. -/
import Derived.Test.YthiamojjhdcegaaGreatFwB
import Derived.Scope
import Derived.OrdersIn
import Derived.RangeFuncLeaves
import Derived.RangeFuncOwn
set_option linter.unusedVariables false
set_option linter.unusedSimpArgs false
set_option linter.unusedSectionVars false
namespace Go.Proofs.YthiamojjhdcegaaGreat.Fw
variable [Th]
open Go.RowKit
mutual
theorem O2 (m n : Nat) : ∀ x : SV, (x.kill m).kill n = (x.kill n).kill m
 | .pv x => by simp only [SV.kill]
 | .vec k cs => by simp only [SV.kill]
 | .agg l => by simp only [SV.kill, Mk m n l]
 | .tup l => by simp only [SV.kill, Mk m n l]
 | .p k off => by simp only [SV.kill]; split <;> split <;> simp_all [SV.kill]
 | .ps k off => by simp only [SV.kill]; split <;> split <;> simp_all [SV.kill]
 | .pr k sz i off => by simp only [SV.kill]; split <;> split <;> simp_all [SV.kill]
 | .pi sz es i off => by simp only [SV.kill]
 | .os k => by simp only [SV.kill]; split <;> split <;> simp_all [SV.kill]
 | .ov k z a b => by simp only [SV.kill]; split <;> split <;> simp_all [SV.kill]
 | .fn f cap => by simp only [SV.kill, Mk m n cap]
 | .dead => by simp only [SV.kill]
theorem Mk (m n : Nat) : ∀ l : List SV, SV.killL n (SV.killL m l) = SV.killL m (SV.killL n l)
 | [] => by simp only [SV.killL]
 | x :: l => by simp only [SV.killL, O2 m n x, Mk m n l]
end
mutual
theorem Te (n : Nat) : ∀ x : SV, (x.kill n).kill n = x.kill n
 | .pv x => by simp only [SV.kill]
 | .vec k cs => by simp only [SV.kill]
 | .agg l => by simp only [SV.kill, Mj n l]
 | .tup l => by simp only [SV.kill, Mj n l]
 | .p k off => by simp only [SV.kill]; split <;> simp_all [SV.kill]
 | .ps k off => by simp only [SV.kill]; split <;> simp_all [SV.kill]
 | .pr k sz i off => by simp only [SV.kill]; split <;> simp_all [SV.kill]
 | .pi sz es i off => by simp only [SV.kill]
 | .os k => by simp only [SV.kill]; split <;> simp_all [SV.kill]
 | .ov k z a b => by simp only [SV.kill]; split <;> simp_all [SV.kill]
 | .fn f cap => by simp only [SV.kill, Mj n cap]
 | .dead => by simp only [SV.kill]
theorem Mj (n : Nat) : ∀ l : List SV, SV.killL n (SV.killL n l) = SV.killL n l
 | [] => by simp only [SV.killL]
 | x :: l => by simp only [SV.killL, Te n x, Mj n l]
end
mutual
theorem Aco (d n : Nat) (v : PV) : ∀ x : SV, x.kill d = x → (x.frz n v).kill d = x.frz n v
 | .pv x, _ => by simp only [SV.frz, SV.kill]
 | .vec k cs, _ => by simp only [SV.frz, SV.kill]
 | .agg l, h => by
   simp only [SV.kill, SV.agg.injEq] at h;simp only [SV.frz, SV.kill, Rw d n v l h]
 | .tup l, h => by
   simp only [SV.kill, SV.tup.injEq] at h;simp only [SV.frz, SV.kill, Rw d n v l h]
 | .fn f l, h => by
   simp only [SV.kill, SV.fn.injEq, true_and] at h;simp only [SV.frz, SV.kill, Rw d n v l h]
 | .p k off, h => by simp only [SV.frz]; exact h
 | .ps k off, h => by simp only [SV.frz]; exact h
 | .pr k sz i off, h => by simp only [SV.frz]; exact h
 | .pi sz es i off, _ => by simp only [SV.frz, SV.kill]
 | .os k, h => by
   simp only [SV.frz];split
   · simp only [SV.kill]
   · exact h
 | .ov k z a b, h => by simp only [SV.frz]; exact h
 | .dead, _ => by simp only [SV.frz, SV.kill]
theorem Rw (d n : Nat) (v : PV) : ∀ l : List SV, SV.killL d l = l → SV.killL d (SV.frzL n v l) = SV.frzL n v l
 | [], _ => by simp only [SV.frzL, SV.killL]
 | x :: l, h => by
   simp only [SV.killL, List.cons.injEq] at h;simp only [SV.frzL, SV.killL, Aco d n v x h.1, Rw d n v l h.2]
end
theorem Avq (d n : Nat) (v : PV) (b : Blk) (h : b.kill d = b) : (b.frz n v).kill d = b.frz n v := by
 cases b with
 | var x =>
   simp only [Blk.kill, Blk.var.injEq] at h;simp only [Blk.frz, Blk.kill, Aco d n v x h]
 | row sz es => rfl
 | rowc sz es c => rfl
 | it l p => rfl
theorem X9 (m n : Nat) (b : Blk) : (b.kill m).kill n = (b.kill n).kill m := by
 cases b with
 | var x => simp only [Blk.kill, O2 m n x]
 | row sz es => rfl
 | rowc sz es c => rfl
 | it l p => rfl
theorem Ai3 (n : Nat) (b : Blk) : (b.kill n).kill n = b.kill n := by
 cases b with
 | var x => simp only [Blk.kill, Te n x]
 | row sz es => rfl
 | rowc sz es c => rfl
 | it l p => rfl
theorem FS.ext' {s s' : FS} (h1 : ∀ n, s.t n = s'.t n) (h2 : ∀ n, s.h n = s'.h n) : s = s' := by
 cases s; cases s';congr
 · exact funext h1
 · exact funext h2
theorem L9 (m n : Nat) (s : FS) : (s.kill m).kill n = (s.kill n).kill m := by
 refine FS.ext' (fun k => ?_) (fun k => ?_)
 · simp only [FS.kill, O2 m n]
 · simp only [FS.kill, Option.map_map]; cases s.h k <;> simp [X9 m n]
theorem Ahf (n : Nat) (s : FS) : (s.kill n).kill n = s.kill n := by
 refine FS.ext' (fun k => ?_) (fun k => ?_)
 · simp only [FS.kill, Te n]
 · simp only [FS.kill, Option.map_map]; cases s.h k <;> simp [Ai3 n]
theorem Tf {d : Nat} : ∀ {D : List Nat} {s : FS}, (d ∈ D ∨ s.kill d = s) → (killD D s).kill d = killD D s
 | [], s, h => by simpa [killD] using h
 | e :: D, s, h => by
   simp only [killD];apply Tf;by_cases hd : d ∈ D
   · exact .inl hd
   · right;by_cases he : d = e
     · subst he; exact Ahf d s
     · have : s.kill d = s := by simpa [hd, he] using h
       rw [L9, this]
mutual
def tn : SV → List Nat
 | .p n _ => [n]
 | .ps n _ => [n]
 | .pr n _ _ _ => [n]
 | .os n => [n]
 | .ov n _ _ _ => [n]
 | .fn _ cap => A5 cap
 | .agg l => A5 l
 | .tup l => A5 l
 | _ => []
def A5 : List SV → List Nat
 | [] => []
 | x :: l => tn x ++ A5 l
end
mutual
theorem Aa0 {d : Nat} : ∀ {x : SV}, x.kill d = x → d ∉ tn x
 | .p n o, h => by
   simp only [tn, List.mem_singleton]; intro e; subst e; simp [SV.kill] at h
 | .ps n o, h => by
   simp only [tn, List.mem_singleton]; intro e; subst e; simp [SV.kill] at h
 | .pr n z i o, h => by
   simp only [tn, List.mem_singleton]; intro e; subst e; simp [SV.kill] at h
 | .os n, h => by
   simp only [tn, List.mem_singleton]; intro e; subst e; simp [SV.kill] at h
 | .ov n z a b, h => by
   simp only [tn, List.mem_singleton]; intro e; subst e; simp [SV.kill] at h
 | .fn f cap, h => by
   simp only [SV.kill, SV.fn.injEq, true_and] at h;simp only [tn]; exact Jd h
 | .pv _, _ => by simp [tn]
 | .vec _ _, _ => by simp [tn]
 | .agg l, h => by
   simp only [SV.kill, SV.agg.injEq] at h;simp only [tn]; exact Jd h
 | .tup l, h => by
   simp only [SV.kill, SV.tup.injEq] at h;simp only [tn]; exact Jd h
 | .pi _ _ _ _, _ => by simp [tn]
 | .dead, _ => by simp [tn]
theorem Jd {d : Nat} : ∀ {l : List SV}, SV.killL d l = l → d ∉ A5 l
 | [], _ => by simp [A5]
 | x :: l, h => by
   simp only [SV.killL, List.cons.injEq] at h;simp only [A5, List.mem_append, not_or];exact ⟨Aa0 h.1, Jd h.2⟩
end
theorem Py : ∀ {l : List SV}, l.all Aiv = true → A5 l = []
 | [], _ => rfl
 | x :: l, h => by
   simp only [List.all_cons, Bool.and_eq_true] at h;simp only [A5, Py h.2, List.append_nil];cases x <;> simp [Aiv] at h <;> rfl
theorem Xe {x : SV} {n : Nat} : ∀ {l : List SV}, x ∈ l → n ∈ tn x → n ∈ A5 l
 | y :: l, h, hn => by
   simp only [A5, List.mem_append];rcases List.mem_cons.1 h with rfl | h
   · exact .inl hn
   · exact .inr (Xe h hn)
theorem T4 : ∀ (a b : List SV), A5 (a ++ b) = A5 a ++ A5 b
 | [], b => by simp [A5]
 | x :: a, b => by simp [A5, T4 a b]
def Ang (T : KK → Prop) : Prop := ∀ K, T K → ∃ x u, K x u ∧ ∀ K', K' x u → T K'
theorem Ang.and {p : Prop} {T : KK → Prop} (h : p → Ang T) : Ang fun K => p ∧ T K := fun K ⟨hp, hk⟩ => by
 obtain ⟨x, u, h1, h2⟩ := h hp K hk;exact ⟨x, u, h1, fun K' k => ⟨hp, h2 K' k⟩⟩
theorem Oa {c off size ag} : Ang (LoadK c off size ag) := by
 intro K h;cases c with
 | none => exact h.elim
 | some cs => exact ⟨_, _, h.2.2, fun _ k => ⟨h.1, h.2.1, k⟩⟩
theorem Apv {es} : Ang (Yk es) := fun K ⟨l, h1, h2⟩ => ⟨_, _, h2, fun _ k => ⟨l, h1, k⟩⟩
theorem Awh {op k k' a b} : Ang (Pl op k k' a b) := by
 intro K h;cases op <;> simp only [Pl] at h ⊢ <;> (first | exact h.elim | exact ⟨_, _, h, fun _ k => k⟩ | exact ⟨_, _, h.2, fun _ k => ⟨h.1, k⟩⟩ | exact ⟨_, _, h.2.2, fun _ k => ⟨h.1, h.2.1, k⟩⟩ | exact ⟨_, _, h.2.2.2, fun _ k => ⟨h.1, h.2.1, h.2.2.1, k⟩⟩ | exact ⟨_, _, h.2.2.2.2, fun _ k => ⟨h.1, h.2.1, h.2.2.1, h.2.2.2.1, k⟩⟩)
theorem Awg {op a b} : Ang (Y3 op a b) := by
 intro K h;cases op <;> simp only [Y3] at h ⊢ <;> (first | exact h.elim | exact ⟨_, _, h, fun _ k => k⟩ | exact ⟨_, _, h.2, fun _ k => ⟨h.1, k⟩⟩ | exact ⟨_, _, h.2.2, fun _ k => ⟨h.1, h.2.1, k⟩⟩ | exact ⟨_, _, h.2.2.2, fun _ k => ⟨h.1, h.2.1, h.2.2.1, k⟩⟩ | exact ⟨_, _, h.2.2.2.2, fun _ k => ⟨h.1, h.2.1, h.2.2.1, h.2.2.2.1, k⟩⟩)
theorem Awi {op a b} : Ang (binB op a b) := by
 intro K h;cases op <;> simp only [binB] at h ⊢ <;> (first | exact h.elim | exact ⟨_, _, h, fun _ k => k⟩ | exact ⟨_, _, h.2, fun _ k => ⟨h.1, k⟩⟩ | exact ⟨_, _, h.2.2, fun _ k => ⟨h.1, h.2.1, k⟩⟩ | exact ⟨_, _, h.2.2.2, fun _ k => ⟨h.1, h.2.1, h.2.2.1, k⟩⟩ | exact ⟨_, _, h.2.2.2.2, fun _ k => ⟨h.1, h.2.1, h.2.2.1, h.2.2.2.1, k⟩⟩)
theorem Ajf {op x y} : Ang (N6 op x y) := by
 intro K h;unfold N6 at h ⊢;split at h
 · exact Awh K h
 · exact Awg K h
 · exact h.elim
theorem Apo {op x} : Ang (V2 op x) := by
 intro K h;unfold V2 at h ⊢;split at h
 · cases op <;> simp only at h ⊢ <;> (first | exact h.elim | exact ⟨_, _, h, fun _ k => k⟩ | exact ⟨_, _, h.2, fun _ k => ⟨h.1, k⟩⟩ | exact ⟨_, _, h.2.2, fun _ k => ⟨h.1, h.2.1, k⟩⟩ | exact ⟨_, _, h.2.2.2, fun _ k => ⟨h.1, h.2.1, h.2.2.1, k⟩⟩ | exact ⟨_, _, h.2.2.2.2, fun _ k => ⟨h.1, h.2.1, h.2.2.1, h.2.2.2.1, k⟩⟩)
 · cases op <;> simp only at h ⊢ <;> (first | exact h.elim | exact ⟨_, _, h, fun _ k => k⟩ | exact ⟨_, _, h.2, fun _ k => ⟨h.1, k⟩⟩ | exact ⟨_, _, h.2.2, fun _ k => ⟨h.1, h.2.1, k⟩⟩ | exact ⟨_, _, h.2.2.2, fun _ k => ⟨h.1, h.2.1, h.2.2.1, k⟩⟩ | exact ⟨_, _, h.2.2.2.2, fun _ k => ⟨h.1, h.2.1, h.2.2.1, h.2.2.2.1, k⟩⟩)
 · exact h.elim
theorem Agn {c x y} : Ang (Ki c x y) := by
 intro K h;unfold Ki at h ⊢;split at h <;> (first | exact h.elim | exact ⟨_, _, h, fun _ k => k⟩ | exact ⟨_, _, h.2, fun _ k => ⟨h.1, k⟩⟩ | exact ⟨_, _, h.2.2, fun _ k => ⟨h.1, h.2.1, k⟩⟩ | exact ⟨_, _, h.2.2.2, fun _ k => ⟨h.1, h.2.1, h.2.2.1, k⟩⟩ | exact ⟨_, _, h.2.2.2.2, fun _ k => ⟨h.1, h.2.1, h.2.2.1, h.2.2.2.1, k⟩⟩)
theorem Awe {o ag c off size} : Ang (Xd o ag c off size) := by
 intro K h;unfold Xd at h ⊢;split at h
 · first | exact h.elim | exact ⟨_, _, h, fun _ k => k⟩ | exact ⟨_, _, h.2, fun _ k => ⟨h.1, k⟩⟩ | exact ⟨_, _, h.2.2, fun _ k => ⟨h.1, h.2.1, k⟩⟩ | exact ⟨_, _, h.2.2.2, fun _ k => ⟨h.1, h.2.1, h.2.2.1, k⟩⟩ | exact ⟨_, _, h.2.2.2.2, fun _ k => ⟨h.1, h.2.1, h.2.2.1, h.2.2.2.1, k⟩⟩
 · exact Oa K h
theorem Aar {x off size ag} : Ang (M5 x off size ag) := Awe
theorem A1i {o off size ag} : Ang (ldV o off size ag) := by
 intro K h;unfold ldV at h ⊢;split at h
 · exact Aar K h
 · exact h.elim
theorem A1j {o off size ag} : Ang (ldS o off size ag) := by
 intro K h;unfold ldS at h ⊢;split at h
 · exact Oa K h
 · exact h.elim
theorem A1k {o sz i off size ag} : Ang (ldR o sz i off size ag) := by
 intro K h;unfold ldR at h ⊢;split at h
 · exact Ang.and (fun _ => Oa) K h
 · exact h.elim
theorem Aps {h0 size ag x} : Ang (Hq h0 size ag x) := by
 intro K h;unfold Hq at h ⊢;split at h
 · exact A1i K h
 · exact A1j K h
 · exact A1k K h
 · exact Oa K h
 · exact h.elim
theorem Us {n w e size a b} : Ang (H8 n w e size a b) := by
 intro K h;unfold H8 at h ⊢;split at h <;> (first | exact h.elim | exact ⟨_, _, h, fun _ k => k⟩ | exact ⟨_, _, h.2, fun _ k => ⟨h.1, k⟩⟩ | exact ⟨_, _, h.2.2, fun _ k => ⟨h.1, h.2.1, k⟩⟩ | exact ⟨_, _, h.2.2.2, fun _ k => ⟨h.1, h.2.1, h.2.2.1, k⟩⟩ | exact ⟨_, _, h.2.2.2.2, fun _ k => ⟨h.1, h.2.1, h.2.2.1, h.2.2.2.1, k⟩⟩)
theorem Apq {o n w off size a b} : Ang (T7 o n w off size a b) := by
 intro K h;unfold T7 at h ⊢;split at h
 · first | exact h.elim | exact ⟨_, _, h, fun _ k => k⟩ | exact ⟨_, _, h.2, fun _ k => ⟨h.1, k⟩⟩ | exact ⟨_, _, h.2.2, fun _ k => ⟨h.1, h.2.1, k⟩⟩ | exact ⟨_, _, h.2.2.2, fun _ k => ⟨h.1, h.2.1, h.2.2.1, k⟩⟩ | exact ⟨_, _, h.2.2.2.2, fun _ k => ⟨h.1, h.2.1, h.2.2.1, h.2.2.2.1, k⟩⟩
 · exact Us K h
theorem App {n x off size y} : Ang (T6 n x off size y) := by
 intro K h;unfold T6 at h ⊢;split at h
 · rename_i e;simp only [e, and_self, if_true]
   first | exact h.elim | exact ⟨_, _, h, fun _ k => k⟩ | exact ⟨_, _, h.2, fun _ k => ⟨h.1, k⟩⟩ | exact ⟨_, _, h.2.2, fun _ k => ⟨h.1, h.2.1, k⟩⟩ | exact ⟨_, _, h.2.2.2, fun _ k => ⟨h.1, h.2.1, h.2.2.1, k⟩⟩ | exact ⟨_, _, h.2.2.2.2, fun _ k => ⟨h.1, h.2.1, h.2.2.1, h.2.2.2.1, k⟩⟩
 · rename_i e;simp only [e, if_false];exact Apq K h
theorem A1f {o n off size y} : Ang (stV o n off size y) := by
 intro K h;unfold stV at h ⊢;split at h
 · exact Ang.and (fun _ => Ang.and fun _ => App) K h
 · exact h.elim
theorem A1g {o n e size y} : Ang (stS o n e size y) := by
 intro K h;unfold stS at h ⊢;split at h
 · exact Ang.and (fun _ => Ang.and fun _ => Us) K h
 · exact h.elim
theorem Ai8 {o n sz i off size es} : Ang (Sq o n sz i off size es) := by
 intro K h;unfold Sq at h ⊢;split at h <;> (first | exact h.elim | exact ⟨_, _, h, fun _ k => k⟩ | exact ⟨_, _, h.2, fun _ k => ⟨h.1, k⟩⟩ | exact ⟨_, _, h.2.2, fun _ k => ⟨h.1, h.2.1, k⟩⟩ | exact ⟨_, _, h.2.2.2, fun _ k => ⟨h.1, h.2.1, h.2.2.1, k⟩⟩ | exact ⟨_, _, h.2.2.2.2, fun _ k => ⟨h.1, h.2.1, h.2.2.1, h.2.2.2.1, k⟩⟩)
theorem A1h {o n sz i off size y} : Ang (stR o n sz i off size y) := by
 intro K h;unfold stR at h ⊢;split at h
 · exact Ang.and (fun _ => Ang.and fun _ => Ang.and fun _ => Ai8) K h
 · exact h.elim
theorem Apr {h0 size x y} : Ang (J8 h0 size x y) := by
 intro K h;unfold J8 at h ⊢;split at h
 · exact A1f K h
 · exact A1g K h
 · exact A1h K h
 · exact h.elim
theorem Awa {x o sz0 hi mx i j m es} : Ang (Ss x o sz0 hi mx i j m es) := by
 intro K h;unfold Ss at h ⊢;split at h
 · first | exact h.elim | exact ⟨_, _, h, fun _ k => k⟩ | exact ⟨_, _, h.2, fun _ k => ⟨h.1, k⟩⟩ | exact ⟨_, _, h.2.2, fun _ k => ⟨h.1, h.2.1, k⟩⟩ | exact ⟨_, _, h.2.2.2, fun _ k => ⟨h.1, h.2.1, h.2.2.1, k⟩⟩ | exact ⟨_, _, h.2.2.2.2, fun _ k => ⟨h.1, h.2.1, h.2.2.1, h.2.2.2.1, k⟩⟩
 · split at h
   · first | exact h.elim | exact ⟨_, _, h, fun _ k => k⟩ | exact ⟨_, _, h.2, fun _ k => ⟨h.1, k⟩⟩ | exact ⟨_, _, h.2.2, fun _ k => ⟨h.1, h.2.1, k⟩⟩ | exact ⟨_, _, h.2.2.2, fun _ k => ⟨h.1, h.2.1, h.2.2.1, k⟩⟩ | exact ⟨_, _, h.2.2.2.2, fun _ k => ⟨h.1, h.2.1, h.2.2.1, h.2.2.2.1, k⟩⟩
   · exact h.elim
 · exact h.elim
theorem Awb {x h0 sz0 hi mx es i j o} : Ang (Adz x h0 sz0 hi mx es i j o) := by
 intro K h;unfold Adz at h ⊢;split at h
 · exact Ang.and (fun _ => Ang.and fun _ => Ang.and fun _ => Ang.and fun _ => Awa) K h
 · exact h.elim
theorem Awc {x h0 sz0 hi mx es i o} : Ang (Ad0 x h0 sz0 hi mx es i o) := by
 intro K h;unfold Ad0 at h ⊢;split at h
 · exact Awb K h
 · exact h.elim
theorem Awd {x h0 sz0 hi mx es o} : Ang (Ad1 x h0 sz0 hi mx es o) := by
 intro K h;unfold Ad1 at h ⊢;split at h
 · exact Awc K h
 · exact h.elim
theorem Agm {x h0 sz0 lo hi mx l o} : Ang (Pd x h0 sz0 lo hi mx l o) := by
 intro K h;unfold Pd at h ⊢;split at h
 · exact Awd K h
 · exact h.elim
theorem Av8 {s i o} : Ang (Ahd s i o) := by
 intro K h;unfold Ahd at h ⊢;split at h <;> (first | exact h.elim | exact ⟨_, _, h, fun _ k => k⟩ | exact ⟨_, _, h.2, fun _ k => ⟨h.1, k⟩⟩ | exact ⟨_, _, h.2.2, fun _ k => ⟨h.1, h.2.1, k⟩⟩ | exact ⟨_, _, h.2.2.2, fun _ k => ⟨h.1, h.2.1, h.2.2.1, k⟩⟩ | exact ⟨_, _, h.2.2.2.2, fun _ k => ⟨h.1, h.2.1, h.2.2.1, h.2.2.2.1, k⟩⟩)
theorem Av9 {hi s o} : Ang (Ady hi s o) := by
 intro K h;unfold Ady at h ⊢;split at h
 · exact Av8 K h
 · exact h.elim
theorem Ajl {o e z d sz bytes n} : Ang (Qn o e z d sz bytes n) := by
 intro K h;unfold Qn at h ⊢;split at h <;> (first | exact h.elim | exact ⟨_, _, h, fun _ k => k⟩ | exact ⟨_, _, h.2, fun _ k => ⟨h.1, k⟩⟩ | exact ⟨_, _, h.2.2, fun _ k => ⟨h.1, h.2.1, k⟩⟩ | exact ⟨_, _, h.2.2.2, fun _ k => ⟨h.1, h.2.1, h.2.2.1, k⟩⟩ | exact ⟨_, _, h.2.2.2.2, fun _ k => ⟨h.1, h.2.1, h.2.2.1, h.2.2.2.1, k⟩⟩)
theorem Ajj {o n sz i e z} : Ang (Qm o n sz i e z) := by
 intro K h;unfold Qm at h ⊢;split at h <;> (first | exact h.elim | exact ⟨_, _, h, fun _ k => k⟩ | exact ⟨_, _, h.2, fun _ k => ⟨h.1, k⟩⟩ | exact ⟨_, _, h.2.2, fun _ k => ⟨h.1, h.2.1, k⟩⟩ | exact ⟨_, _, h.2.2.2, fun _ k => ⟨h.1, h.2.1, h.2.2.1, k⟩⟩ | exact ⟨_, _, h.2.2.2.2, fun _ k => ⟨h.1, h.2.1, h.2.2.1, h.2.2.2.1, k⟩⟩)
theorem Apw {z' es e z d sz bytes} : Ang (Yc z' es e z d sz bytes) := by
 intro K h;unfold Yc at h ⊢;split at h <;> (first | exact h.elim | exact ⟨_, _, h, fun _ k => k⟩ | exact ⟨_, _, h.2, fun _ k => ⟨h.1, k⟩⟩ | exact ⟨_, _, h.2.2, fun _ k => ⟨h.1, h.2.1, k⟩⟩ | exact ⟨_, _, h.2.2.2, fun _ k => ⟨h.1, h.2.1, h.2.2.1, k⟩⟩ | exact ⟨_, _, h.2.2.2.2, fun _ k => ⟨h.1, h.2.1, h.2.2.1, h.2.2.2.1, k⟩⟩)
theorem Ajk {h0 d sz bytes x y} : Ang (H6 h0 d sz bytes x y) := by
 intro K h;unfold H6 at h ⊢;split at h
 · exact Ajl K h
 · exact Apw K h
 · exact Ang.and (fun _ => Ang.and fun _ => Ajj) K h
 · exact h.elim
theorem Aas {off x} : Ang (Lr off x) := by
 intro K h;unfold Lr at h ⊢;split at h <;> (first | exact h.elim | exact ⟨_, _, h, fun _ k => k⟩ | exact ⟨_, _, h.2, fun _ k => ⟨h.1, k⟩⟩ | exact ⟨_, _, h.2.2, fun _ k => ⟨h.1, h.2.1, k⟩⟩ | exact ⟨_, _, h.2.2.2, fun _ k => ⟨h.1, h.2.1, h.2.2.1, k⟩⟩ | exact ⟨_, _, h.2.2.2.2, fun _ k => ⟨h.1, h.2.1, h.2.2.1, h.2.2.2.1, k⟩⟩)
theorem Apu {len stride j x} : Ang (Ui len stride j x) := by
 intro K h;unfold Ui at h ⊢;split at h <;> (first | exact h.elim | exact ⟨_, _, h, fun _ k => k⟩ | exact ⟨_, _, h.2, fun _ k => ⟨h.1, k⟩⟩ | exact ⟨_, _, h.2.2, fun _ k => ⟨h.1, h.2.1, k⟩⟩ | exact ⟨_, _, h.2.2.2, fun _ k => ⟨h.1, h.2.1, h.2.2.1, k⟩⟩ | exact ⟨_, _, h.2.2.2.2, fun _ k => ⟨h.1, h.2.1, h.2.2.1, h.2.2.2.1, k⟩⟩)
theorem Aja {o sz j n} : Ang (Qc o sz j n) := by
 intro K h;unfold Qc at h ⊢;split at h <;> (first | exact h.elim | exact ⟨_, _, h, fun _ k => k⟩ | exact ⟨_, _, h.2, fun _ k => ⟨h.1, k⟩⟩ | exact ⟨_, _, h.2.2, fun _ k => ⟨h.1, h.2.1, k⟩⟩ | exact ⟨_, _, h.2.2.2, fun _ k => ⟨h.1, h.2.1, h.2.2.1, k⟩⟩ | exact ⟨_, _, h.2.2.2.2, fun _ k => ⟨h.1, h.2.1, h.2.2.1, h.2.2.2.1, k⟩⟩)
theorem Ajb {h0 sz j x} : Ang (Jz h0 sz j x) := by
 intro K h;unfold Jz at h ⊢;split at h
 · first | exact h.elim | exact ⟨_, _, h, fun _ k => k⟩ | exact ⟨_, _, h.2, fun _ k => ⟨h.1, k⟩⟩ | exact ⟨_, _, h.2.2, fun _ k => ⟨h.1, h.2.1, k⟩⟩ | exact ⟨_, _, h.2.2.2, fun _ k => ⟨h.1, h.2.1, h.2.2.1, k⟩⟩ | exact ⟨_, _, h.2.2.2.2, fun _ k => ⟨h.1, h.2.1, h.2.2.1, h.2.2.2.1, k⟩⟩
 · exact Aja K h
 · exact h.elim
theorem Aaq {Gg x y} : Ang (Po Gg x y) := by
 intro K h;unfold Po at h ⊢;split at h <;> (first | exact h.elim | exact ⟨_, _, h, fun _ k => k⟩ | exact ⟨_, _, h.2, fun _ k => ⟨h.1, k⟩⟩ | exact ⟨_, _, h.2.2, fun _ k => ⟨h.1, h.2.1, k⟩⟩ | exact ⟨_, _, h.2.2.2, fun _ k => ⟨h.1, h.2.1, h.2.2.1, k⟩⟩ | exact ⟨_, _, h.2.2.2.2, fun _ k => ⟨h.1, h.2.1, h.2.2.1, h.2.2.2.1, k⟩⟩)
theorem Ago {n o} : Ang (Ku n o) := by
 intro K h;unfold Ku at h ⊢;split at h <;> (first | exact h.elim | exact ⟨_, _, h, fun _ k => k⟩ | exact ⟨_, _, h.2, fun _ k => ⟨h.1, k⟩⟩ | exact ⟨_, _, h.2.2, fun _ k => ⟨h.1, h.2.1, k⟩⟩ | exact ⟨_, _, h.2.2.2, fun _ k => ⟨h.1, h.2.1, h.2.2.1, k⟩⟩ | exact ⟨_, _, h.2.2.2.2, fun _ k => ⟨h.1, h.2.1, h.2.2.1, h.2.2.2.1, k⟩⟩)
theorem Aje {d sz o} : Ang (N5 d sz o) := by
 intro K h;unfold N5 at h ⊢;split at h <;> (first | exact h.elim | exact ⟨_, _, h, fun _ k => k⟩ | exact ⟨_, _, h.2, fun _ k => ⟨h.1, k⟩⟩ | exact ⟨_, _, h.2.2, fun _ k => ⟨h.1, h.2.1, k⟩⟩ | exact ⟨_, _, h.2.2.2, fun _ k => ⟨h.1, h.2.1, h.2.2.1, k⟩⟩ | exact ⟨_, _, h.2.2.2.2, fun _ k => ⟨h.1, h.2.1, h.2.2.1, h.2.2.2.1, k⟩⟩)
theorem Ajc {g ks a b} : Ang (Qf g ks a b) := by
 intro K h;unfold Qf at h ⊢;split at h <;> (first | exact h.elim | exact ⟨_, _, h, fun _ k => k⟩ | exact ⟨_, _, h.2, fun _ k => ⟨h.1, k⟩⟩ | exact ⟨_, _, h.2.2, fun _ k => ⟨h.1, h.2.1, k⟩⟩ | exact ⟨_, _, h.2.2.2, fun _ k => ⟨h.1, h.2.1, h.2.2.1, k⟩⟩ | exact ⟨_, _, h.2.2.2.2, fun _ k => ⟨h.1, h.2.1, h.2.2.1, h.2.2.2.1, k⟩⟩)
theorem A1l {g ks x} : Ang (eq1 g ks x) := by
 intro K h;unfold eq1 at h ⊢;split at h <;> (first | exact h.elim | exact ⟨_, _, h, fun _ k => k⟩ | exact ⟨_, _, h.2, fun _ k => ⟨h.1, k⟩⟩ | exact ⟨_, _, h.2.2, fun _ k => ⟨h.1, h.2.1, k⟩⟩ | exact ⟨_, _, h.2.2.2, fun _ k => ⟨h.1, h.2.1, h.2.2.1, k⟩⟩ | exact ⟨_, _, h.2.2.2.2, fun _ k => ⟨h.1, h.2.1, h.2.2.1, h.2.2.2.1, k⟩⟩)
theorem Qo {o} : Ang (Hx o) := by
 intro K h;unfold Hx at h ⊢;split at h <;> (first | exact h.elim | exact ⟨_, _, h, fun _ k => k⟩ | exact ⟨_, _, h.2, fun _ k => ⟨h.1, k⟩⟩ | exact ⟨_, _, h.2.2, fun _ k => ⟨h.1, h.2.1, k⟩⟩ | exact ⟨_, _, h.2.2.2, fun _ k => ⟨h.1, h.2.1, h.2.2.1, k⟩⟩ | exact ⟨_, _, h.2.2.2.2, fun _ k => ⟨h.1, h.2.1, h.2.2.1, h.2.2.2.1, k⟩⟩)
theorem Yf {o} : Ang (Mx o) := by
 intro K h;unfold Mx at h ⊢;split at h
 · exact Apv K h
 · exact h.elim
theorem Ajg {o n} : Ang (Ya o n) := by
 intro K h;unfold Ya at h ⊢;split at h <;> (first | exact h.elim | exact ⟨_, _, h, fun _ k => k⟩ | exact ⟨_, _, h.2, fun _ k => ⟨h.1, k⟩⟩ | exact ⟨_, _, h.2.2, fun _ k => ⟨h.1, h.2.1, k⟩⟩ | exact ⟨_, _, h.2.2.2, fun _ k => ⟨h.1, h.2.1, h.2.2.1, k⟩⟩ | exact ⟨_, _, h.2.2.2.2, fun _ k => ⟨h.1, h.2.1, h.2.2.1, h.2.2.2.1, k⟩⟩)
theorem Awf {o} : Ang (Afy o) := by
 intro K h;unfold Afy at h ⊢;split at h <;> (first | exact h.elim | exact ⟨_, _, h, fun _ k => k⟩ | exact ⟨_, _, h.2, fun _ k => ⟨h.1, k⟩⟩ | exact ⟨_, _, h.2.2, fun _ k => ⟨h.1, h.2.1, k⟩⟩ | exact ⟨_, _, h.2.2.2, fun _ k => ⟨h.1, h.2.1, h.2.2.1, k⟩⟩ | exact ⟨_, _, h.2.2.2.2, fun _ k => ⟨h.1, h.2.1, h.2.2.1, h.2.2.2.1, k⟩⟩)
theorem Ye {o n sz lo hi e z} : Ang (J2 o n sz lo hi e z) := by
 intro K h;unfold J2 at h ⊢;split at h <;> (first | exact h.elim | exact ⟨_, _, h, fun _ k => k⟩ | exact ⟨_, _, h.2, fun _ k => ⟨h.1, k⟩⟩ | exact ⟨_, _, h.2.2, fun _ k => ⟨h.1, h.2.1, k⟩⟩ | exact ⟨_, _, h.2.2.2, fun _ k => ⟨h.1, h.2.1, h.2.2.1, k⟩⟩ | exact ⟨_, _, h.2.2.2.2, fun _ k => ⟨h.1, h.2.1, h.2.2.1, h.2.2.2.1, k⟩⟩)
theorem Aji {o d sz bytes z hi m} : Ang (Tw o d sz bytes z hi m) := by
 intro K h;unfold Tw at h ⊢;split at h <;> (first | exact h.elim | exact ⟨_, _, h, fun _ k => k⟩ | exact ⟨_, _, h.2, fun _ k => ⟨h.1, k⟩⟩ | exact ⟨_, _, h.2.2, fun _ k => ⟨h.1, h.2.1, k⟩⟩ | exact ⟨_, _, h.2.2.2, fun _ k => ⟨h.1, h.2.1, h.2.2.1, k⟩⟩ | exact ⟨_, _, h.2.2.2.2, fun _ k => ⟨h.1, h.2.1, h.2.2.1, h.2.2.2.1, k⟩⟩)
theorem Av6 {n sz len i o} : Ang (Ahb n sz len i o) := by
 intro K h;unfold Ahb at h ⊢;split at h <;> (first | exact h.elim | exact ⟨_, _, h, fun _ k => k⟩ | exact ⟨_, _, h.2, fun _ k => ⟨h.1, k⟩⟩ | exact ⟨_, _, h.2.2, fun _ k => ⟨h.1, h.2.1, k⟩⟩ | exact ⟨_, _, h.2.2.2, fun _ k => ⟨h.1, h.2.1, h.2.2.1, k⟩⟩ | exact ⟨_, _, h.2.2.2.2, fun _ k => ⟨h.1, h.2.1, h.2.2.1, h.2.2.2.1, k⟩⟩)
theorem Ajd {h0 sz x y} : Ang (J1 h0 sz x y) := by
 intro K h;unfold J1 at h ⊢;split at h
 · exact Ye K h
 · exact Ang.and (fun _ => Ye) K h
 · exact h.elim
theorem Ajh {h0 d sz bytes z m x} : Ang (N8 h0 d sz bytes z m x) := by
 intro K h;unfold N8 at h ⊢;split at h
 · exact Ang.and (fun _ => Aji) K h
 · exact h.elim
theorem Av7 {n sz hi e z o} : Ang (Ahc n sz hi e z o) := by
 intro K h;unfold Ahc at h ⊢;split at h
 · exact Ang.and (fun _ => Av6) K h
 · exact h.elim
theorem Av4 {e z n sz i j} : Ang (Aqx e z n sz i j) := by
 intro K h;unfold Aqx at h ⊢;split at h
 · exact ⟨_, _, h.2.2.2.2, fun _ k => ⟨h.1, h.2.1, h.2.2.1, h.2.2.2.1, k⟩⟩
 · exact h.elim
theorem Av5 {o n sz l} : Ang (Axp o n sz l) := by
 intro K h;unfold Axp at h ⊢;split at h
 · exact Av4 K h
 · exact h.elim
theorem Ai9 {h0 sz lo hi x l} : Ang (L6 h0 sz lo hi x l) := by
 intro K h;unfold L6 at h ⊢;split at h
 · exact Av7 K h
 · exact Agm K h
 · exact Ang.and (fun _ => Ang.and fun _ => Ang.and fun _ => Ang.and fun _ => Av5) K h
 · exact h.elim
theorem A7p {d h0 k l} (hnd : nd k = false) : Ang (An d h0 k l) := by
 intro K h;cases k <;> simp only [An] at h ⊢
 case mv => split at h <;> (first | exact h.elim | exact ⟨_, _, h, fun _ k => k⟩ | exact ⟨_, _, h.2, fun _ k => ⟨h.1, k⟩⟩ | exact ⟨_, _, h.2.2, fun _ k => ⟨h.1, h.2.1, k⟩⟩ | exact ⟨_, _, h.2.2.2, fun _ k => ⟨h.1, h.2.1, h.2.2.1, k⟩⟩ | exact ⟨_, _, h.2.2.2.2, fun _ k => ⟨h.1, h.2.1, h.2.2.1, h.2.2.2.1, k⟩⟩)
 case box => split at h <;> (first | exact h.elim | exact ⟨_, _, h, fun _ k => k⟩ | exact ⟨_, _, h.2, fun _ k => ⟨h.1, k⟩⟩ | exact ⟨_, _, h.2.2, fun _ k => ⟨h.1, h.2.1, k⟩⟩ | exact ⟨_, _, h.2.2.2, fun _ k => ⟨h.1, h.2.1, h.2.2.1, k⟩⟩ | exact ⟨_, _, h.2.2.2.2, fun _ k => ⟨h.1, h.2.1, h.2.2.1, h.2.2.2.1, k⟩⟩)
 case cvI => split at h <;> (first | exact h.elim | exact ⟨_, _, h, fun _ k => k⟩ | exact ⟨_, _, h.2, fun _ k => ⟨h.1, k⟩⟩ | exact ⟨_, _, h.2.2, fun _ k => ⟨h.1, h.2.1, k⟩⟩ | exact ⟨_, _, h.2.2.2, fun _ k => ⟨h.1, h.2.1, h.2.2.1, k⟩⟩ | exact ⟨_, _, h.2.2.2.2, fun _ k => ⟨h.1, h.2.1, h.2.2.1, h.2.2.2.1, k⟩⟩)
 case cvS => split at h <;> (first | exact h.elim | exact ⟨_, _, h, fun _ k => k⟩ | exact ⟨_, _, h.2, fun _ k => ⟨h.1, k⟩⟩ | exact ⟨_, _, h.2.2, fun _ k => ⟨h.1, h.2.1, k⟩⟩ | exact ⟨_, _, h.2.2.2, fun _ k => ⟨h.1, h.2.1, h.2.2.1, k⟩⟩ | exact ⟨_, _, h.2.2.2.2, fun _ k => ⟨h.1, h.2.1, h.2.2.1, h.2.2.2.1, k⟩⟩)
 case s2b => split at h <;> (first | exact h.elim | exact ⟨_, _, h, fun _ k => k⟩ | exact ⟨_, _, h.2, fun _ k => ⟨h.1, k⟩⟩ | exact ⟨_, _, h.2.2, fun _ k => ⟨h.1, h.2.1, k⟩⟩ | exact ⟨_, _, h.2.2.2, fun _ k => ⟨h.1, h.2.1, h.2.2.1, k⟩⟩ | exact ⟨_, _, h.2.2.2.2, fun _ k => ⟨h.1, h.2.1, h.2.2.1, h.2.2.2.1, k⟩⟩)
 case s2bD => split at h <;> (first | exact h.elim | exact ⟨_, _, h, fun _ k => k⟩ | exact ⟨_, _, h.2, fun _ k => ⟨h.1, k⟩⟩ | exact ⟨_, _, h.2.2, fun _ k => ⟨h.1, h.2.1, k⟩⟩ | exact ⟨_, _, h.2.2.2, fun _ k => ⟨h.1, h.2.1, h.2.2.1, k⟩⟩ | exact ⟨_, _, h.2.2.2.2, fun _ k => ⟨h.1, h.2.1, h.2.2.1, h.2.2.2.1, k⟩⟩)
 case mks => split at h <;> (first | exact h.elim | exact ⟨_, _, h, fun _ k => k⟩ | exact ⟨_, _, h.2, fun _ k => ⟨h.1, k⟩⟩ | exact ⟨_, _, h.2.2, fun _ k => ⟨h.1, h.2.1, k⟩⟩ | exact ⟨_, _, h.2.2.2, fun _ k => ⟨h.1, h.2.1, h.2.2.1, k⟩⟩ | exact ⟨_, _, h.2.2.2.2, fun _ k => ⟨h.1, h.2.1, h.2.2.1, h.2.2.2.1, k⟩⟩)
 case lenS => split at h <;> (first | exact h.elim | exact ⟨_, _, h, fun _ k => k⟩ | exact ⟨_, _, h.2, fun _ k => ⟨h.1, k⟩⟩ | exact ⟨_, _, h.2.2, fun _ k => ⟨h.1, h.2.1, k⟩⟩ | exact ⟨_, _, h.2.2.2, fun _ k => ⟨h.1, h.2.1, h.2.2.1, k⟩⟩ | exact ⟨_, _, h.2.2.2.2, fun _ k => ⟨h.1, h.2.1, h.2.2.1, h.2.2.2.1, k⟩⟩)
 case ixS => split at h <;> (first | exact h.elim | exact ⟨_, _, h, fun _ k => k⟩ | exact ⟨_, _, h.2, fun _ k => ⟨h.1, k⟩⟩ | exact ⟨_, _, h.2.2, fun _ k => ⟨h.1, h.2.1, k⟩⟩ | exact ⟨_, _, h.2.2.2, fun _ k => ⟨h.1, h.2.1, h.2.2.1, k⟩⟩ | exact ⟨_, _, h.2.2.2.2, fun _ k => ⟨h.1, h.2.1, h.2.2.1, h.2.2.2.1, k⟩⟩)
 case nilc => split at h <;> (first | exact h.elim | exact ⟨_, _, h, fun _ k => k⟩ | exact ⟨_, _, h.2, fun _ k => ⟨h.1, k⟩⟩ | exact ⟨_, _, h.2.2, fun _ k => ⟨h.1, h.2.1, k⟩⟩ | exact ⟨_, _, h.2.2.2, fun _ k => ⟨h.1, h.2.1, h.2.2.1, k⟩⟩ | exact ⟨_, _, h.2.2.2.2, fun _ k => ⟨h.1, h.2.1, h.2.2.1, h.2.2.2.1, k⟩⟩)
 case r2s => split at h <;> (first | exact h.elim | exact ⟨_, _, h, fun _ k => k⟩ | exact ⟨_, _, h.2, fun _ k => ⟨h.1, k⟩⟩ | exact ⟨_, _, h.2.2, fun _ k => ⟨h.1, h.2.1, k⟩⟩ | exact ⟨_, _, h.2.2.2, fun _ k => ⟨h.1, h.2.1, h.2.2.1, k⟩⟩ | exact ⟨_, _, h.2.2.2.2, fun _ k => ⟨h.1, h.2.1, h.2.2.1, h.2.2.2.1, k⟩⟩)
 case new => first | exact h.elim | exact ⟨_, _, h, fun _ k => k⟩ | exact ⟨_, _, h.2, fun _ k => ⟨h.1, k⟩⟩ | exact ⟨_, _, h.2.2, fun _ k => ⟨h.1, h.2.1, k⟩⟩ | exact ⟨_, _, h.2.2.2, fun _ k => ⟨h.1, h.2.1, h.2.2.1, k⟩⟩ | exact ⟨_, _, h.2.2.2.2, fun _ k => ⟨h.1, h.2.1, h.2.2.1, h.2.2.2.1, k⟩⟩
 case mkf => first | exact h.elim | exact ⟨_, _, h, fun _ k => k⟩ | exact ⟨_, _, h.2, fun _ k => ⟨h.1, k⟩⟩ | exact ⟨_, _, h.2.2, fun _ k => ⟨h.1, h.2.1, k⟩⟩ | exact ⟨_, _, h.2.2.2, fun _ k => ⟨h.1, h.2.1, h.2.2.1, k⟩⟩ | exact ⟨_, _, h.2.2.2.2, fun _ k => ⟨h.1, h.2.1, h.2.2.1, h.2.2.2.1, k⟩⟩
 case pick => split at h; exact Agn K h; exact h.elim
 case ld => split at h; exact Aps K h; exact h.elim
 case sto => split at h; exact Apr K h; exact h.elim
 case bin => split at h; exact Ajf K h; exact h.elim
 case binB => split at h; exact Awi K h; exact h.elim
 case un => split at h; exact Apo K h; exact h.elim
 case slc => split at h; exact Agm K h; exact h.elim
 case sls => split at h; exact Av9 K h; exact h.elim
 case fa => split at h; exact Aas K h; exact h.elim
 case iaC => split at h; exact Aas K h; exact h.elim
 case iaS => split at h; exact Ajb K h; exact h.elim
 case iaA => split at h; exact Apu K h; exact h.elim
 case ext => split at h; exact Awf K h; exact h.elim
 case app => split at h; exact Ajk K h; exact h.elim
 case mx => split at h; exact Aaq K h; exact h.elim
 case mn => split at h; exact Aaq K h; exact h.elim
 case b2b => split at h; exact Ajg K h; exact h.elim
 case cpy => split at h; exact Ajd K h; exact h.elim
 case apz => split at h; exact Ajh K h; exact h.elim
 case slv => split at h; exact Ai9 K h; exact h.elim
 case bld => first | exact h.elim | exact ⟨_, _, h, fun _ k => k⟩ | exact ⟨_, _, h.2, fun _ k => ⟨h.1, k⟩⟩ | exact ⟨_, _, h.2.2, fun _ k => ⟨h.1, h.2.1, k⟩⟩ | exact ⟨_, _, h.2.2.2, fun _ k => ⟨h.1, h.2.1, h.2.2.1, k⟩⟩ | exact ⟨_, _, h.2.2.2.2, fun _ k => ⟨h.1, h.2.1, h.2.2.1, h.2.2.2.1, k⟩⟩
 case bldV => exact Ang.and (fun _ => Ago) K h
 case bsl => exact Aje K h
 case eqv => split at h; exact Ang.and (fun _ => Ang.and fun _ => Ajc) K h; exact A1l K h; exact h.elim
 case b2s => split at h; exact Yf K h; exact Yf K h; exact h.elim
 case len => split at h; exact Qo K h; exact Qo K h; exact ⟨_, _, h, fun _ k => k⟩; exact Qo K h; exact h.elim
 case fld => split at h; exact Ang.and (fun _ => Aar) K h; exact h.elim
 case ixA => split at h; exact Ang.and (fun _ => Ang.and fun _ => Ang.and fun _ => Oa) K h; exact h.elim
 case eqn => simp [nd] at hnd
 case cap => simp [nd] at hnd
 case slx => simp [nd] at hnd
 case clr => simp [nd] at hnd
 case rgs => simp [nd] at hnd
 case nxs => simp [nd] at hnd
 all_goals exact h.elim
end Go.Proofs.YthiamojjhdcegaaGreat.Fw
namespace Go.Proofs.YthiamojjhdcegaaGreat.Fw
variable [Th]
open Go.RowKit
variable {h h' : Nat → Option Blk}
theorem E1 {x : SV} (hh : ∀ n ∈ tn x, h' n = h n) : C1 h' x = C1 h x := by
 unfold C1;split
 · rfl
 · rfl
 · rename_i n; rw [hh n (by simp [tn])]
 · rfl
theorem Qh {x : SV} (hh : ∀ n ∈ tn x, h' n = h n) : Iq h' x = Iq h x := by
 unfold Iq;split
 · rfl
 · rfl
 · rename_i n; rw [hh n (by simp [tn])]
 · rfl
theorem Aie {x : SV} (hh : ∀ n ∈ tn x, h' n = h n) : Xo h' x = Xo h x := by
 unfold Xo;split
 · rename_i n; rw [hh n (by simp [tn])]
 · rfl
theorem Uj : ∀ {l : List SV}, (∀ n ∈ A5 l, h' n = h n) → J0 h' l = J0 h l
 | [], _ => rfl
 | x :: l, hh => by
   simp only [J0];rw [Aie fun n hn => hh n (Xe (by simp) hn), Uj fun n hn => hh n (by simp only [A5, List.mem_append]; exact .inr hn)]
theorem Ahe {x : SV} {o o' : Option Blk} {sz0 hi mx i j m es K} (hh : ∀ n, x = .os n → o' = o) : Ss x o' sz0 hi mx i j m es K = Ss x o sz0 hi mx i j m es K := by
 unfold Ss;split
 · rfl
 · rw [hh _ rfl]
 · rfl
theorem Jo {x : SV} {sz0 lo hi mx l o K} (hh : ∀ n ∈ tn x, h' n = h n) : Pd x h' sz0 lo hi mx l o K = Pd x h sz0 lo hi mx l o K := by
 have hs : ∀ i j m es, Ss x (h' x.nm) sz0 hi mx i j m es K = Ss x (h x.nm) sz0 hi mx i j m es K := fun i j m es =>
  Ahe fun n e => by subst e; exact hh n (by simp [tn])
 unfold Pd;split
 · unfold Ad1;split
   · unfold Ad0;split
     · unfold Adz;split
       · rw [hs]
       · rfl
     · rfl
   · rfl
 · rfl
theorem Mt {x : SV} (hh : ∀ n ∈ tn x, h' n = h n) : Fe h' x = Fe h x := by
 unfold Fe;split
 · rename_i n _ _ _; rw [hh n (by simp [tn])]
 · exact E1 hh
theorem N0 {x : SV} (hh : ∀ n ∈ tn x, h' n = h n) : Hg h' x = Hg h x := by
 unfold Hg;split
 · rename_i n _ _ _; rw [hh n (by simp [tn])]
 · exact Qh hh
theorem Aej {d : Nat} {k : Kd} {l : List SV} {K : KK} (hh : Iw k = 0 ∨ ∀ n ∈ A5 l, h' n = h n) (hs : An d h k l K) : An d h' k l K := by
 have hx : ∀ x, x ∈ l → Iw k ≠ 0 → ∀ n ∈ tn x, h' n = h n := fun x hx hk n hn => by
  rcases hh with h1 | h1
  · exact absurd h1 hk
  · exact h1 n (Xe hx hn)
 cases k <;> (try exact hs) <;> simp only [An] at hs ⊢
 case bsl => rw [Uj (by rcases hh with h1 | h1; cases h1; exact h1)]; exact hs
 case ld =>
  split at hs
  · rename_i a;unfold Hq at hs ⊢;have hx := hx a (by simp) (by simp [Iw]);split at hs
    · rw [hx _ (by simp [tn])]; exact hs
    · rw [hx _ (by simp [tn])]; exact hs
    · rw [hx _ (by simp [tn])]; exact hs
    · exact hs
    · exact hs
  · exact hs
 case sto =>
  split at hs
  · rename_i a y;unfold J8 at hs ⊢;have hx := hx a (by simp) (by simp [Iw]);split at hs
    · rw [hx _ (by simp [tn])]; exact hs
    · rw [hx _ (by simp [tn])]; exact hs
    · rw [hx _ (by simp [tn])]; exact hs
    · exact hs
  · exact hs
 case b2s =>
  split at hs
  · exact hs
  · rename_i n; rw [hx (.os n) (by simp) (by simp [Iw]) _ (by simp [tn])]; exact hs
  · exact hs
 case b2b =>
  split at hs
  · rename_i n; rw [hx (.os n) (by simp) (by simp [Iw]) _ (by simp [tn])]; exact hs
  · exact hs
 case slc =>
  split at hs
  · rename_i x l;have hx := hx x (by simp) (by simp [Iw]);rw [Jo hx, E1 hx]; exact hs
  · exact hs
 case iaS =>
  split at hs
  · rename_i x k' j;have hx := hx x (by simp) (by simp [Iw]);unfold Jz at hs ⊢;split at hs
    · exact hs
    · rw [hx _ (by simp [tn])]; exact hs
    · exact hs
  · exact hs
 case len =>
  split at hs
  · exact hs
  · rename_i n; rw [hx (.os n) (by simp) (by simp [Iw]) _ (by simp [tn])]; exact hs
  · exact hs
  · exact hs
  · exact hs
 case eqn =>
  split at hs
  · exact hs
  · rename_i n; rw [hx (.os n) (by simp) (by simp [Iw]) _ (by simp [tn])]; exact hs
  · exact hs
 case cap =>
  split at hs
  · rename_i n; rw [hx (.os n) (by simp) (by simp [Iw]) _ (by simp [tn])]; exact hs
  · exact hs
 case cpy =>
  split at hs
  · rename_i x y;have hx1 := hx x (by simp) (by simp [Iw]);have hx2 := hx y (by simp) (by simp [Iw]);unfold J1 at hs ⊢;split at hs
    · rw [hx1 _ (by simp [tn]), Mt hx2, N0 hx2]; exact hs
    · rw [hx1 _ (by simp [tn]), Mt hx2, N0 hx2]; exact hs
    · exact hs
  · exact hs
 case clr =>
  split at hs
  · rename_i x;have hx1 := hx x (by simp) (by simp [Iw]);unfold Ac3 at hs ⊢;split at hs
    · rw [hx1 _ (by simp [tn])]; exact hs
    · exact hs
  · exact hs
 case nxs =>
  split at hs
  · rename_i x;have hx1 := hx x (by simp) (by simp [Iw]);unfold W8 at hs ⊢;split at hs
    · rw [hx1 _ (by simp [tn])]; exact hs
    · exact hs
  · exact hs
 case apz =>
  split at hs
  · rename_i x k m;have hx1 := hx x (by simp) (by simp [Iw]);unfold N8 at hs ⊢;split at hs
    · rw [hx1 _ (by simp [tn])]; exact hs
    · exact hs
  · exact hs
 case slv =>
  split at hs
  · rename_i x l;have hx1 := hx x (by simp) (by simp [Iw]);unfold L6 at hs ⊢;split at hs
    · rw [hx1 _ (by simp [tn])]; exact hs
    · rw [Jo hx1, E1 hx1]; exact hs
    · rw [hx1 _ (by simp [tn])]; exact hs
    · exact hs
  · exact hs
 case slx =>
  split at hs
  · rename_i x k j;have hx1 := hx x (by simp) (by simp [Iw]);unfold Wn at hs ⊢;split at hs
    · rw [Jo hx1, E1 hx1, hx1 _ (by simp [tn])]; exact hs
    · rw [Jo hx1, E1 hx1]; exact hs
    · exact hs
  · rename_i n _ _ _ _ _ _; rw [hx (.os n) (by simp) (by simp [Iw]) _ (by simp [tn])]; exact hs
  · rename_i p _ _ _; rw [Jo (hx (.pv p) (by simp) (by simp [Iw])), E1 (hx (.pv p) (by simp) (by simp [Iw]))]; exact hs
  · exact hs
 case app =>
  split at hs
  · rename_i x y;have hx1 := hx x (by simp) (by simp [Iw]);have hx2 := hx y (by simp) (by simp [Iw]);unfold H6 at hs ⊢;split at hs
    · rw [hx1 _ (by simp [tn]), E1 hx2, Qh hx2]; exact hs
    · rw [E1 hx2, Qh hx2]; exact hs
    · rw [hx1 _ (by simp [tn]), Mt hx2, N0 hx2]; exact hs
    · exact hs
  · exact hs
def Lw (E : Env) : Prop := (∀ f args h h' d x u, (∀ n ∈ A5 args, h' n = h n) → E.call f args h d x u → E.call f args h' d x u) ∧ ∀ f args h d x u, ¬ E.deep f args h d x u
variable {E : Env}
theorem Agd (hE : Lw E) {k : Kd} {x : List Opd} {d : Nat} {s : FS} {K : KK} (hnd : nd k = false) (hb : body E k x d s K) :
 ∃ v u, K v u ∧ ∀ s' K', Bz s' x = Bz s x → (Iw k = 0 ∨ ∀ n ∈ A5 (Bz s x), s'.h n = s.h n) → K' v u → body E k x d s' K' := by
 have plain : An d s.h k (Bz s x) K → ∃ v u, K v u ∧ ∀ s' K', Bz s' x = Bz s x → (Iw k = 0 ∨ ∀ n ∈ A5 (Bz s x), s'.h n = s.h n) → K' v u → An d s'.h k (Bz s' x) K' := fun h => by
  obtain ⟨v, u, h1, h2⟩ := A7p hnd K h;refine ⟨v, u, h1, fun s' K' he hh hk => ?_⟩;rw [he];exact Aej hh (h2 K' hk)
 cases k
 case call f =>
  obtain ⟨v, u, h1, h2⟩ := hb;refine ⟨v, u, h2, fun s' K' he hh hk => ⟨v, u, .inl ?_, hk⟩⟩;rw [he];exact hE.1 _ _ _ _ _ _ _ (hh.resolve_left (by simp [Iw])) (h1.resolve_right (hE.2 _ _ _ _ _ _))
 case callv =>
  simp only [body] at hb ⊢;unfold J3 at hb;split at hb
  · rename_i f cap args hl;obtain ⟨v, u, h1, h2⟩ := hb;refine ⟨v, u, h2, fun s' K' he hh hk => ?_⟩;rw [he, hl];refine ⟨v, u, .inl (hE.1 _ _ _ _ _ _ _ (fun n hn => hh.resolve_left (by simp [Iw]) n ?_) (h1.resolve_right (hE.2 _ _ _ _ _ _))), hk⟩;rw [hl];rw [T4] at hn;simp only [A5, tn, List.mem_append] at hn ⊢;exact hn.symm
  · exact hb.elim
 case yv => cases hnd
 all_goals exact plain hb
end Go.Proofs.YthiamojjhdcegaaGreat.Fw
namespace Go.Proofs.YthiamojjhdcegaaGreat.Fw
variable [Th]
open Go.RowKit
variable {P : Program} {F : Fr} {N : Nat} {ρ : Nat → Value} {s : FS} {a : Act} {w w' : World} {K : KK} {V : View}
def Sa (P : Program) (f : Nat) : Prop := ∃ fn, P.funcs[f]? = some fn ∧ fn.name ≠ "runtime.NumGoroutine" ∧ fn.body.isSome = true
def FunOk (P : Program) (f : Nat) (args : List SV) (h : Nat → Option Blk) (_d : Nat) (x : SV) (u : List HU) : Prop :=
 Sa P f ∧ ∀ (F : Fr) (N : Nat) (ρ : Nat → Value) (s : FS) (a : Act) (w : World), RelR F N ρ s a w → (∀ n ∈ A5 args, s.h n = h n) →
  ∀ vs, ConcL (vw F w ρ s) ρ args vs → Calls P f ⟨vs⟩ w fun e w' => ∃ v ρ', e = .returned v ∧ RelR F N ρ' (s.hup u) a w' ∧ Conc (vw F w' ρ' (s.hup u)) ρ' x v
abbrev Gd (r : Option Nat) : Fence := { fn := fun _ => True, depth := none, alive := false, round := r }
abbrev Frs := Fr → Prop
def RelX (X : Frs) (N : Nat) (s : FS) (a : Act) (w : World) : Prop := ∃ F, X F ∧ Rel F N s a w
def Pu (X : Frs) (N : Nat) (Q : C3) : Exit → Act → World → Prop
 | .normal, a, w => ∃ s, RelX X N s a w ∧ Q .normal s
 | .exit id, a, w => ∃ s, RelX X N s a w ∧ Q (.exit id) s
 | .ret, a, w => ∃ s, RelX X N s a w ∧ Q .ret s
 | _, _, _ => False
def A7u (P : Program) (r : Option Nat) (X : Frs) (N : Nat) (c : C) (Q : C3) (s : FS) : Prop :=
 ∀ code, Bn P N code = some c → ∀ a w, RelX X N s a w → (Code.loop code).wpIn (Gd r) 0 P (Pu X N Q) a w
def A18 (P : Program) (X : Frs) (N : Nat) (n : Nat) (args : List SV) (K : KK) (s : FS) : Prop :=
 ∀ (F : Fr) (ρ : Nat → Value) (a : Act) (w : World), X F → RelR F N ρ s a w → ∀ vs, ConcL (vw F w ρ s) ρ args vs →
  YieldAt (Gd none) 0 P n ⟨vs⟩ w fun e w' => ∃ v x u F' ρ', e = .returned v ∧ K x u ∧ X F' ∧ RelR F' N ρ' (s.hup u) a w' ∧ Conc (vw F' w' ρ' (s.hup u)) ρ' x v
def Bcr (P : Program) (r : Option Nat) (X : Frs) (N : Nat) (f : Nat) (cap : List SV) (ps : List Nat) (ca cb : C) (Q : C3) (s : FS) : Prop :=
 ∀ (assign bd : Code) (g : Operand) (qs : Array Tmp), Bn P N assign = some ca → Bn P N bd = some cb → qs.toList = ps → (∀ p ∈ ps, p < N ∧ p < Gg) →
  ∀ (F : Fr) (ρ : Nat → Value) (a : Act) (w : World), X F → RelR F N ρ s a w → Conc (vw F w ρ s) ρ (.fn (.func f) cap) (a.eval g) → (Code.rangeFunc g qs assign bd).wpIn (Gd r) 0 P (Pu X N Q) a w
def Aau (P : Program) (f : Nat) (args : List SV) (h : Nat → Option Blk) (x : SV) : Prop :=
 ∀ (F : Fr) (N : Nat) (ρ : Nat → Value) (s : FS) (a : Act) (w : World), RelR F N ρ s a w → (∀ n ∈ A5 args, s.h n = h n) →
  ∀ vs, ConcL (vw F w ρ s) ρ args vs → ∃ v, (callFunc f ⟨vs⟩).run P w = .ok (.value v) w ∧ Conc (vw F w ρ s) ρ x v
def Ajm (P : Program) (f : Nat) (args : List SV) (h : Nat → Option Blk) (d : Nat) (x : SV) (u : List HU) : Prop := FunOk P f args h d x u ∨ (u = [] ∧ Aau P f args h x)
def DeepOk (P : Program) (f : Nat) (args : List SV) (h : Nat → Option Blk) (_d : Nat) (x : SV) (u : List HU) : Prop :=
 Sa P f ∧ ∀ (F : Fr) (N : Nat) (ρ : Nat → Value) (s : FS) (a : Act) (w : World), RelR F N ρ s a w → s.h = h →
  ∀ vs, ConcL (vw F w ρ s) ρ args vs → Calls P f ⟨vs⟩ w fun e w' => ∃ v ρ', e = .returned v ∧ RelR F N ρ' (s.hup u) a w' ∧ Conc (vw F w' ρ' (s.hup u)) ρ' x v
def H1 (P : Program) (r : Option Nat) (X : Frs) (N : Nat) : Env := ⟨Ajm P, DeepOk P, A7u P r X N, if r.isNone then A18 P X N else fun _ _ _ _ => False, Bcr P r X N⟩
def Awm (F0 F : Fr) : List Deferred → Prop
 | [] => True
 | d :: ds => (∃ D, d = { target := .collected D, args := #[] } ∧ F0.w0.heap.size ≤ D ∧ D < F.w0.heap.size ∧ ¬ F.M0 D ∧ F.w0.heap[D]? = some (.deferred (some [])) ∧ ∀ e ∈ ds, e.target ≠ .collected D) ∧ Awm F0 F ds
structure Desc (F0 F : Fr) : Prop where
 base : F0.ok F.w0
 m0 : ∀ b, F.M0 b → b < F.w0.heap.size
 may : ∀ b, F.w0.heap.size ≤ b ∨ F.M0 b → F0.w0.heap.size ≤ b ∨ F0.M0 b
 hid : F.hid = F0.hid
 x : F.x = F0.x
 marks : Awm F0 F F.defs
abbrev Sb (P : Program) (F : Fr) (N : Nat) : Env := H1 P none (Desc F) N
variable {r : Option Nat} {X : Frs}
theorem Acx : Lw (H1 P r X N).reg := ⟨fun f args h h' d x u hh hc => hc.elim
 (fun ⟨h1, h2⟩ => .inl ⟨h1, fun F N ρ s a w hR hs => h2 F N ρ s a w hR fun n hn => (hs n hn).trans (hh n hn)⟩)
 (fun ⟨h1, h2⟩ => .inr ⟨h1, fun F N ρ s a w hR hs => h2 F N ρ s a w hR fun n hn => (hs n hn).trans (hh n hn)⟩), fun _ _ _ _ _ _ h => h⟩
theorem Xj {o : Oper} {k : Kd} {x : List Opd} (hk : J7 P o = some (k, x)) : ∀ c, o.op ≠ .defer c := by
 intro c e;unfold J7 at hk;rw [e] at hk;simp at hk
theorem Aav {o : Oper} {next : Act → World → Prop} {Q : Exit → Act → World → Prop} (hnd : ∀ c, o.op ≠ .defer c) (h : o.uponIn (Gd r) 0 P a next Q ((execOp a.eval o).run P w)) : o.wpIn (Gd r) 0 P a w next Q :=
 ⟨fun _ _ => trivial, by rw [Oper.semAt_eq _ _ _ hnd]; exact h⟩
theorem Azf {o : Oper} {f : Nat} {x : List Opd} (hk : J7 P o = some (.call f, x)) : ∃ c, o.op = .call c ∧ c.callee = .value (.func f) ∧ A1 c.args.toList = some x := by
 obtain ⟨dst, op, type, pos, after, guard⟩ := o;cases op <;> simp only [J7] at hk <;> (try cases hk)
 case call c =>
  split at hk
  · rename_i g hc;obtain ⟨e, h2⟩ := Ao hk;cases e;exact ⟨c, rfl, hc, h2⟩
  all_goals (repeat' (split at hk)) <;> first | cases hk | (obtain ⟨e, _⟩ := Ao hk; cases e)
 all_goals (repeat' (split at hk)) <;> first | cases hk | (obtain ⟨e, _⟩ := Ao hk; cases e)
theorem Afi {o : Oper} {x : List Opd} (hk : J7 P o = some (.callv, x)) : ∃ c y, o.op = .call c ∧ c.callee = .value y ∧ A1 (y :: c.args.toList) = some x := by
 obtain ⟨dst, op, type, pos, after, guard⟩ := o;cases op <;> simp only [J7] at hk <;> (try cases hk)
 case call c =>
  split at hk
  · obtain ⟨e, _⟩ := Ao hk; cases e
  · rename_i y _ hc;obtain ⟨e, h2⟩ := Ao hk;cases e;exact ⟨c, y, rfl, hc, h2⟩
  all_goals (repeat' (split at hk)) <;> first | cases hk | (obtain ⟨e, _⟩ := Ao hk; cases e)
 all_goals (repeat' (split at hk)) <;> first | cases hk | (obtain ⟨e, _⟩ := Ao hk; cases e)
theorem Abn {f : Nat} {args : Array Value} (h : Sa P f) : (callFunc f args).run P w = .ok (.enter f args) w := by
 obtain ⟨fn, h1, h2, h3⟩ := h;unfold callFunc;rw [Ab (show (program).run P w = .ok P w from rfl)];simp only [h1, beq_iff_eq, h2, if_false];cases hb : fn.body with
 | none => rw [hb] at h3; cases h3
 | some c => simp
theorem ConcL.append {V : View} {ρ : Nat → Value} : ∀ {l m : List SV} {vs us : List Value}, ConcL V ρ l vs → ConcL V ρ m us → ConcL V ρ (l ++ m) (vs ++ us)
 | [], m, vs, us, h, k => by simp only [ConcL] at h; subst h; exact k
 | x :: l, m, vs, us, h, k => by
   simp only [ConcL] at h;obtain ⟨v, vs', rfl, h1, h2⟩ := h;simp only [List.cons_append, ConcL];exact ⟨v, _, rfl, h1, ConcL.append h2 k⟩
theorem Al1 {v xx : Bool} {k : Kd} {f : Nat} (h : Mz v xx k = .call f) : k = .call f := by
 unfold Mz at h;split at h
 · split at h
   · cases h
   · split at h <;> cases h
 · split at h <;> cases h
 · split at h <;> cases h
 · exact h
theorem Awy {v xx : Bool} {k : Kd} (h : Mz v xx k = .yv) : k = .yv := by
 unfold Mz at h;split at h
 · split at h
   · cases h
   · split at h <;> cases h
 · split at h <;> cases h
 · split at h <;> cases h
 · exact h
theorem Bap {o : Oper} {x : List Opd} : ¬ J7 P o = some (.yv, x) := by
 intro hk;obtain ⟨dst, op, type, pos, after, guard⟩ := o;cases op <;> simp only [J7] at hk <;> (try cases hk)
 all_goals (repeat' (split at hk)) <;> first | cases hk | (obtain ⟨e, _⟩ := Ao hk; cases e)
theorem V3 {v xx : Bool} {k : Kd} (h : Mz v xx k = .callv) : k = .callv := by
 unfold Mz at h;split at h
 · split at h
   · cases h
   · split at h <;> cases h
 · split at h <;> cases h
 · split at h <;> cases h
 · exact h
theorem X8 {o : Oper} {k k0 : Kd} {tv tx : Bool} {x : List Opd} {Q : Exit → Act → World → Prop} {next : Act → World → Prop} (hk0 : J7 P o = some (k0, x)) (hkt : k = Mz tv tx k0) (hd : ∀ d, o.dst = some d → d < N ∧ d < Gg) (hX : X F) (hR : RelR F N ρ s a w)
 (h : body (H1 P r X N) k x (o.dst.getD 0) s K) (hK : ∀ x u a' w', K x u → RelX X N (s.apply o.dst x u) a' w' → next a' w') : o.wpIn (Gd r) 0 P a w next Q := by
 have putx : ∀ {F' v y u ρ' w'}, X F' → RelR F' N ρ' (s.hup u) a w' → Conc (vw F' w' ρ' (s.hup u)) ρ' y v → RelX X N (s.apply o.dst y u) (a.put o.dst v) w' := fun {F' v y u ρ' w'} hX' h1 h2 => by
  have := h1.put (dst := o.dst) hd h2;refine ⟨F', hX', ρ', ?_⟩;cases hdd : o.dst <;> rw [hdd] at this <;> exact this
 have put : ∀ {v y u ρ' w'}, RelR F N ρ' (s.hup u) a w' → Conc (vw F w' ρ' (s.hup u)) ρ' y v → RelX X N (s.apply o.dst y u) (a.put o.dst v) w' := fun {v y u ρ' w'} => putx hX;have hnd := Xj hk0;have enter : ∀ {f : Nat} {args : List SV} {vs : List Value}, (execOp a.eval o).run P w = (callFunc f ⟨vs⟩).run P w → ConcL (vw F w ρ s) ρ args vs →
  N4 (H1 P r X N) f args s.h (o.dst.getD 0) K → o.wpIn (Gd r) 0 P a w next Q := fun {f args vs} h1 h2 ⟨y, u, h3, h4⟩ => by
  refine Aav hnd ?_;rw [h1];rcases h3 with (h3 | ⟨rfl, h3⟩) | h3
  case inl.inr =>
   obtain ⟨v, h5, h6⟩ := h3 F N ρ s a w hR (fun _ _ => rfl) vs h2;rw [h5, Oper.uponIn_value];exact hK _ _ _ _ h4 (put hR h6)
  all_goals rw [Abn h3.1, Oper.uponIn_enter]
  all_goals refine ⟨fun h => (nomatch h), callsIn_wide.2 ?_⟩
  case inr =>
   refine Calls.mono (h3.2 F N ρ s a w hR rfl vs h2) fun e w' he => ?_;obtain ⟨v, ρ', rfl, h5, h6⟩ := he;exact hK _ _ _ _ h4 (put h5 h6)
  refine Calls.mono (h3.2 F N ρ s a w hR (fun _ _ => rfl) vs h2) fun e w' he => ?_;obtain ⟨v, ρ', rfl, h5, h6⟩ := he;exact hK _ _ _ _ h4 (put h5 h6)
 by_cases hc1 : ∃ f, k = .call f
 · obtain ⟨f, rfl⟩ := hc1;rw [Al1 hkt.symm] at hk0;obtain ⟨c, h1, h2, h3⟩ := Azf hk0;have hc := Lt (s := s) (a := a) h3 hR.tm;refine enter (vs := c.args.toList.map a.eval) ?_ hc h;obtain ⟨dst, op, type, pos, after, guard⟩ := o;simp only at h1; subst h1;simp only [execOp, resolve, h2, Act.eval, Deferred.ofValue, pure_bind, invoke];congr 2;exact Array.toList_inj.1 (by simp)
 · by_cases hc2 : k = .callv
   · subst hc2;rw [V3 hkt.symm] at hk0;obtain ⟨c, y, h1, h2, h3⟩ := Afi hk0;obtain ⟨z, zs, rfl, hz, hzs⟩ := Bd (show Au (Bu y :: c.args.toList.map Bu) = some x from h3);have hc := Lt (s := s) (a := a) (l := c.args.toList) hzs hR.tm;have g1 := Ah (s := s) (a := a) hz hR.tm;simp only [body, Bz] at h;generalize s.ev z = zz at h g1;unfold J3 at h;split at h
     · rename_i f cap args hl;cases hl;simp only [Conc] at g1;obtain ⟨cv, hv, hcap⟩ := g1;refine enter (vs := c.args.toList.map a.eval ++ cv) ?_ (ConcL.append hc hcap) h;obtain ⟨dst, op, type, pos, after, guard⟩ := o;simp only at h1; subst h1;simp only [execOp, resolve, h2, hv, Deferred.ofValue, pure_bind, invoke];congr 2;exact Array.toList_inj.1 (by simp)
     · exact h.elim
   · by_cases hc3 : k = .yv
     · subst hc3;exact absurd hk0 (by rw [Awy hkt.symm]; exact Bap)
     have hs : An (o.dst.getD 0) s.h k (Bz s x) K := by
      cases k <;> first | exact h | exact absurd ⟨_, rfl⟩ hc1 | exact absurd rfl hc2 | exact absurd rfl hc3
     subst hkt;obtain ⟨n, w', v, y, u, ρ', h1, h2, h3, h4, h5⟩ := Awz hk0 (fun f e => hc1 ⟨f, by rw [e]; rfl⟩) (fun e => hc2 (by rw [e]; rfl)) hR hs;refine Aav hnd ?_;rw [h1];rcases h2 with rfl | ⟨rfl, rfl⟩
     · rw [Oper.uponIn_value]; exact hK _ _ _ _ h3 (put h4 h5)
     · rw [Oper.uponIn_skip]; exact hK _ _ _ _ h3 (put h4 h5)
theorem Ap8 {o : Oper} {x : List Opd} {Q : Exit → Act → World → Prop} {next : Act → World → Prop} (hk0 : J7 P o = some (.callv, x)) (hd : ∀ d, o.dst = some d → d < N ∧ d < Gg) (hX : X F) (hR : RelR F N ρ s a w)
 (h : body (H1 P r X N) .yv x (o.dst.getD 0) s K) (hK : ∀ x u a' w', K x u → RelX X N (s.apply o.dst x u) a' w' → next a' w') : o.wpIn (Gd r) 0 P a w next Q := by
 have hnd := Xj hk0;obtain ⟨c, y, h1, h2, h3⟩ := Afi hk0;obtain ⟨z, zs, rfl, hz, hzs⟩ := Bd (show Au (Bu y :: c.args.toList.map Bu) = some x from h3);have hc := Lt (s := s) (a := a) (l := c.args.toList) hzs hR.tm;have g1 := Ah (s := s) (a := a) hz hR.tm;simp only [body, Bz] at h;have old : J3 (H1 P r X N) (s.ev z :: Bz s zs) s.h (o.dst.getD 0) K → o.wpIn (Gd r) 0 P a w next Q := fun h =>
  X8 (tv := false) (tx := false) (k := .callv) hk0 rfl hd hX hR h hK
 generalize hzz : s.ev z = zz at h g1 old;unfold yvK at h;split at h
 · rename_i n args hl;cases hl;simp only [Conc] at g1;obtain ⟨cv, hv, hcap⟩ := g1;simp only [ConcL] at hcap;subst hcap;have hy : r = none ∧ A18 P X N n (Bz s zs) K s := by
    simp only [H1] at h;cases r with
    | none => exact ⟨rfl, by simpa using h⟩
    | some _ => simp at h
   obtain ⟨rfl, hy⟩ := hy;obtain ⟨fn, tm, as, bd, h5, h6⟩ := hy F ρ a w hX hR (c.args.toList.map a.eval) hc;refine Aav hnd ?_;have : (execOp a.eval o).run P w = (Instr.yield n ⟨c.args.toList.map a.eval⟩).run P w := by
    obtain ⟨dst, op, type, pos, after, guard⟩ := o;simp only at h1; subst h1;simp only [execOp, resolve, h2, hv, Deferred.ofValue, pure_bind, invoke];congr 2;exact Array.toList_inj.1 (by simp)
   rw [this, h5, Oper.uponIn_round];refine ⟨fun h => (nomatch h), RoundIn.mono h6 fun e w' he => ?_⟩;obtain ⟨v, y', u, F', ρ', rfl, k1, k2, k3, k4⟩ := he;refine hK _ _ _ _ k1 ?_;have := k3.put (dst := o.dst) hd k4;refine ⟨F', k2, ρ', ?_⟩;cases hdd : o.dst <;> rw [hdd] at this <;> exact this
 · exact old h
theorem Anz {ops : Array Oper} {o : Oper} {i : I} (h : Aia P N ops o = some i) : (∀ d, o.dst = some d → d < N ∧ d < Gg) ∧ J7 P o = some (i.k, i.x) ∧ i.d = o.dst ∧
 ((o.guard = none ∧ i.g = none) ∨ ∃ j w t, o.guard = some (j, w) ∧ (ops[j]?).bind (·.dst) = some t ∧ i.g = some (t, w)) := by
 unfold Aia at h;split at h
 · cases h
 · rename_i hd;have hd' : ∀ d, o.dst = some d → d < N ∧ d < Gg := fun d e => by
    rw [e] at hd; simp at hd; omega
   split at h
   · rename_i k x hk;split at h
     · rename_i hg; cases h; exact ⟨hd', hk, rfl, .inl ⟨hg, rfl⟩⟩
     · rename_i j w hg;split at h
       · rename_i t ht; cases h; exact ⟨hd', hk, rfl, .inr ⟨j, w, t, hg, ht, rfl⟩⟩
       · cases h
   · cases h
theorem Afk {ops : Array Oper} {o : Oper} {i : I} (h : Lo P N ops o = some i) : (∀ d, o.dst = some d → d < N ∧ d < Gg) ∧ (∃ k0, J7 P o = some (k0, i.x) ∧ i.k = Mz (A1s P ops) (A1x ops) k0) ∧ i.d = o.dst ∧
 ((o.guard = none ∧ i.g = none) ∨ ∃ j w t, o.guard = some (j, w) ∧ (ops[j]?).bind (·.dst) = some t ∧ i.g = some (t, w)) := by
 unfold Lo at h;obtain ⟨i0, h1, rfl⟩ := Option.map_eq_some_iff.1 h;obtain ⟨a, b, c, d⟩ := Anz h1;exact ⟨a, ⟨_, b, rfl⟩, c, d⟩
theorem Agw {ops : Array Oper} {j t : Nat} {p : Bool} (ht : (ops[j]?).bind (·.dst) = some t) (h : a.tmps.getD t undef = .bool p) : yielded ops a.tmps j = some p := by
 unfold yielded;rw [ht];simp only [Option.bind_some];cases hx : a.tmps[t]? with
 | none =>
   rw [Array.getD_eq_getD_getElem?, hx] at h; cases h
 | some v =>
   rw [Array.getD_eq_getD_getElem?, hx] at h;simp only [Option.getD_some] at h; subst h; rfl
theorem At3 {ops : Array Oper} {j t : Nat} {l : List I} (h : ∀ (j : Nat) (o : Oper), ops[j]? = some o → ∃ i : I, l[j]? = some i ∧ Lo P N ops o = some i) (hj : (ops[j]?).bind (·.dst) = some t) : t < Gg := by
 cases hx : ops[j]? with
 | none => rw [hx] at hj; cases hj
 | some q =>
   rw [hx] at hj;obtain ⟨i, _, hi⟩ := h j q hx;exact ((Afk hi).1 t hj).2
theorem P3 {ops : Array Oper} {o : Oper} {i i' : I} {l : List I} {ix : Nat} {Q : Exit → Act → World → Prop} {next : Act → World → Prop} (hins : ∀ (j : Nat) (o : Oper), ops[j]? = some o → ∃ i : I, l[j]? = some i ∧ Lo P N ops o = some i) (ho : ops[ix]? = some o) (hi : Lo P N ops o = some i) (hi' : i' = i ∨ i' = yvI i) (hX : X F) (hR : RelR F N ρ s a w)
 (h : opS (H1 P r X N) i' s K) (hK : ∀ x u a' w', K x u → RelX X N (s.apply i.d x u) a' w' → next a' w') : wpOpIn (Gd r) 0 P ops Q ix next a w := by
 obtain ⟨hd, ⟨k0, hk, hkt⟩, hdd, hg⟩ := Afk hi;have e1 : i'.d = i.d := by rcases hi' with rfl | rfl; rfl; unfold yvI; split <;> rfl
 have e2 : i'.x = i.x := by rcases hi' with rfl | rfl; rfl; unfold yvI; split <;> rfl
 have e3 : i'.g = i.g := by rcases hi' with rfl | rfl; rfl; unfold yvI; split <;> rfl
 have e4 : i'.k = i.k ∨ (i.k = .callv ∧ i'.k = .yv) := by
  rcases hi' with rfl | rfl
  · exact .inl rfl
  · unfold yvI;split
    · rename_i e; exact .inr ⟨e, rfl⟩
    · exact .inl rfl
 rw [hdd] at hK;unfold wpOpIn;rw [ho];simp only;unfold opS at h;rw [e1, e2, hdd] at h;have go : body (H1 P r X N) i'.k i.x (o.dst.getD 0) s K → o.wpIn (Gd r) 0 P a w next Q := fun h => by
  rcases e4 with e4 | ⟨e4, e5⟩
  · rw [e4] at h;exact X8 hk hkt hd hX hR h hK
  · rw [e5] at h;rw [e4] at hkt;rw [V3 hkt.symm] at hk;exact Ap8 hk hd hX hR h hK
 rw [e3] at h;rcases hg with ⟨hg, hg'⟩ | ⟨j, wt, t, hg, hj, hg'⟩
 · rw [hg'] at h;rw [if_pos (by simp [Region.wanted, hg])];exact go h
 · rw [hg'] at h;simp only at h;have hc := hR.tm t (At3 hins hj);have skip : K (.tup []) [] → (∀ f, o.about P w a.eval = some f → (Gd r).fn f) ∧ next (a.put o.dst undef) w := fun h => by
    refine ⟨fun _ _ => trivial, hK _ _ _ _ h ⟨F, hX, ρ, ?_⟩⟩;have := hR.put (dst := o.dst) (x := .tup []) (v := undef) hd (by simp only [Conc, ConcL]; exact ⟨[], rfl, rfl⟩);exact this
   generalize s.t t = z at h hc;unfold Eu at h;split at h
   · rename_i p;have hy := Agw hj (Pq hc);by_cases hp : p = wt
     · rw [if_pos hp] at h;rw [if_pos (by simp [Region.wanted, hg, hy, hp])];exact go h
     · rw [if_neg hp] at h;rw [if_neg (by simp [Region.wanted, hg, hy, hp])];exact skip h
   · have hy : yielded ops a.tmps j = none := by
      simp only [Conc, ConcL] at hc;obtain ⟨vs, hv, rfl⟩ := hc;unfold yielded;rw [hj];simp only [Option.bind_some];cases hx : a.tmps[t]? with
      | none => rfl
      | some v =>
        rw [Array.getD_eq_getD_getElem?, hx] at hv;simp only [Option.getD_some] at hv; subst hv; rfl
     rw [if_neg (by simp [Region.wanted, hg, hy])];exact skip h
   · exact h.elim
end Go.Proofs.YthiamojjhdcegaaGreat.Fw
namespace Go.Proofs.YthiamojjhdcegaaGreat.Fw
variable [Th]
open Go.RowKit
variable {P : Program} {E : Env} {D : List Nat} {ops : Array Oper} {l : List I} {K : FS → Prop} {s : FS}
def HU.calm : HU → Prop
 | .frz _ _ => False
 | .set _ _ => False
 | _ => True
def noFrz (u : List HU) : Prop := ∀ e ∈ u, e.calm
theorem noFrz.tail {e : HU} {u : List HU} (h : noFrz (e :: u)) : noFrz u := fun n hm => h n (List.mem_cons_of_mem _ hm)
theorem Z4 {n : Nat} : ∀ {u : List HU} {s : FS}, noFrz u → (∀ m b, HU.new m b ∈ u → (s.t n).kill m = s.t n) → (s.hup u).t n = s.t n
 | [], s, _, _ => rfl
 | .frz m v :: u, s, hf, h => (hf _ List.mem_cons_self).elim
 | .set _ _ :: u, s, hf, h => (hf _ List.mem_cons_self).elim
 | .new m b :: u, s, hf, h => by
   have h1 := h m b (by simp);have : (((s.kill m).seth m (some b)).t n) = s.t n := h1;simp only [FS.hup];rw [Z4 hf.tail (fun m' b' hm => by rw [this]; exact h m' b' (by simp [hm])), this]
 | .upd m b :: u, s, hf, h => by
   simp only [FS.hup];rw [Z4 (s := s.seth m (some b)) hf.tail (fun m' b' hm => h m' b' (by simp [hm]))]; rfl
 | .del m :: u, s, hf, h => by
   simp only [FS.hup];rw [Z4 (s := s.seth m none) hf.tail (fun m' b' hm => h m' b' (by simp [hm]))]; rfl
def HU.blk? : HU → Option Blk
 | .new _ b => some b
 | .upd _ b => some b
 | .del _ => none
 | .frz _ _ => none
 | .set _ _ => none
theorem Je {d m : Nat} {b : Option Blk} (hb : b.map (Blk.kill d) = b) (hs : s.kill d = s) : (s.seth m b).kill d = s.seth m b := by
 have ht : ∀ n, (s.t n).kill d = s.t n := fun n => congrArg (fun q : FS => q.t n) hs;have hh : ∀ n, (s.h n).map (Blk.kill d) = s.h n := fun n => congrArg (fun q : FS => q.h n) hs;refine FS.ext' (fun n => ht n) (fun n => ?_);simp only [FS.kill, FS.seth];split
 · exact hb
 · exact hh n
theorem Rr {d : Nat} : ∀ {u : List HU} {s : FS}, noFrz u → s.kill d = s → (∀ e ∈ u, ∀ b, e.blk? = some b → b.kill d = b) → (s.hup u).kill d = s.hup u
 | [], s, _, h, _ => h
 | .frz m v :: u, s, hf, _, _ => (hf _ List.mem_cons_self).elim
 | .set _ _ :: u, s, hf, _, _ => (hf _ List.mem_cons_self).elim
 | .new m b :: u, s, hf, h, hb => by
   simp only [FS.hup];refine Rr hf.tail (Je (by simp [hb (.new m b) (by simp) b rfl]) ?_) (fun e he => hb e (by simp [he]));rw [L9, h]
 | .upd m b :: u, s, hf, h, hb => by
   simp only [FS.hup];exact Rr hf.tail (Je (by simp [hb (.upd m b) (by simp) b rfl]) h) (fun e he => hb e (by simp [he]))
 | .del m :: u, s, hf, h, hb => by
   simp only [FS.hup];exact Rr hf.tail (Je (by simp) h) (fun e he => hb e (by simp [he]))
theorem Ai4 {d : Nat} {dst : Option Nat} {x : SV} {u : List HU} (hf : noFrz u) (h : s.kill d = s) (hx : dst ≠ none → x.kill d = x) (hb : ∀ e ∈ u, ∀ b, e.blk? = some b → b.kill d = b) : (s.apply dst x u).kill d = s.apply dst x u := by
 have h1 := Rr hf h hb;cases dst with
 | none => exact h1
 | some e =>
   have ht : ∀ n, ((s.hup u).t n).kill d = (s.hup u).t n := fun n => congrArg (fun q : FS => q.t n) h1;have hh : ∀ n, ((s.hup u).h n).map (Blk.kill d) = (s.hup u).h n := fun n => congrArg (fun q : FS => q.h n) h1;refine FS.ext' (fun n => ?_) (fun n => hh n);simp only [FS.apply, FS.set, FS.kill];split
   · exact hx (by simp)
   · exact ht n
def noSetU (u : List HU) : Prop := ∀ e ∈ u, match e with
 | .set _ _ => False
 | _ => True
theorem noSetU.tail {e : HU} {u : List HU} (h : noSetU (e :: u)) : noSetU u := fun f hf => h f (List.mem_cons_of_mem _ hf)
theorem Aq5 (d n : Nat) (v : PV) {s : FS} (h : s.kill d = s) : (s.frz n v).kill d = s.frz n v := by
 have ht : ∀ m, (s.t m).kill d = s.t m := fun m => congrArg (fun q : FS => q.t m) h;have hh : ∀ m, (s.h m).map (Blk.kill d) = s.h m := fun m => congrArg (fun q : FS => q.h m) h;refine FS.ext' (fun m => ?_) (fun m => ?_)
 · simp only [FS.kill, FS.frz];exact Aco d n v _ (ht m)
 · simp only [FS.kill, FS.frz];split
   · rfl
   · have := hh m;cases hx : s.h m with
     | none => rfl
     | some b =>
       rw [hx] at this;simp only [Option.map_some, Option.some.injEq] at this ⊢;exact Avq d n v b this
theorem Lp {d : Nat} : ∀ {u : List HU} {s : FS}, noSetU u → s.kill d = s → (∀ e ∈ u, ∀ b, e.blk? = some b → b.kill d = b) → (s.hup u).kill d = s.hup u
 | [], s, _, h, _ => h
 | .frz m v :: u, s, hf, h, hb => by
   simp only [FS.hup];exact Lp hf.tail (Aq5 d m v h) (fun e he => hb e (by simp [he]))
 | .set _ _ :: u, s, hf, _, _ => (hf _ List.mem_cons_self).elim
 | .new m b :: u, s, hf, h, hb => by
   simp only [FS.hup];refine Lp hf.tail (Je (by simp [hb (.new m b) (by simp) b rfl]) ?_) (fun e he => hb e (by simp [he]));rw [L9, h]
 | .upd m b :: u, s, hf, h, hb => by
   simp only [FS.hup];exact Lp hf.tail (Je (by simp [hb (.upd m b) (by simp) b rfl]) h) (fun e he => hb e (by simp [he]))
 | .del m :: u, s, hf, h, hb => by
   simp only [FS.hup];exact Lp hf.tail (Je (by simp) h) (fun e he => hb e (by simp [he]))
theorem Agj {d : Nat} {dst : Option Nat} {x : SV} {u : List HU} (hf : noSetU u) (h : s.kill d = s) (hx : dst ≠ none → x.kill d = x) (hb : ∀ e ∈ u, ∀ b, e.blk? = some b → b.kill d = b) : (s.apply dst x u).kill d = s.apply dst x u := by
 have h1 := Lp hf h hb;cases dst with
 | none => exact h1
 | some e =>
   have ht : ∀ n, ((s.hup u).t n).kill d = (s.hup u).t n := fun n => congrArg (fun q : FS => q.t n) h1;have hh : ∀ n, ((s.hup u).h n).map (Blk.kill d) = (s.hup u).h n := fun n => congrArg (fun q : FS => q.h n) h1;refine FS.ext' (fun n => ?_) (fun n => hh n);simp only [FS.apply, FS.set, FS.kill];split
   · exact hx (by simp)
   · exact ht n
theorem Ma {j : Nat} {x : SV} : ∀ {u : List HU} {s : FS}, noFrz u → (∀ m b, HU.new m b ∈ u → x.kill m = x) → (s.set j x).hup u = (s.hup u).set j x
 | [], s, _, _ => rfl
 | .frz m v :: u, s, hf, _ => (hf _ List.mem_cons_self).elim
 | .set _ _ :: u, s, hf, _ => (hf _ List.mem_cons_self).elim
 | .new m b :: u, s, hf, h => by
   simp only [FS.hup];have : ((s.set j x).kill m).seth m (some b) = (((s.kill m).seth m (some b)).set j x) := by
    refine FS.ext' (fun n => ?_) (fun n => rfl);simp only [FS.seth, FS.set, FS.kill];split
    · exact h m b (by simp)
    · rfl
   rw [this];exact Ma hf.tail (fun m' b' hm => h m' b' (by simp [hm]))
 | .upd m b :: u, s, hf, h => by
   simp only [FS.hup];exact Ma (s := s.seth m (some b)) hf.tail (fun m' b' hm => h m' b' (by simp [hm]))
 | .del m :: u, s, hf, h => by
   simp only [FS.hup];exact Ma (s := s.seth m none) hf.tail (fun m' b' hm => h m' b' (by simp [hm]))
theorem Ad3 {i j : Nat} {x y : SV} (h : i ≠ j) : (s.set i x).set j y = (s.set j y).set i x := by
 refine FS.ext' (fun n => ?_) (fun n => rfl);simp only [FS.set];by_cases h1 : n = j
 · by_cases h2 : n = i
   · omega
   · simp [h1]; omega
 · simp [h1]
theorem Kv {i j : Option Nat} {x y : SV} {u : List HU} (hf : noFrz u) (hd : ∀ d, i = some d → j ≠ some d) (hy : j ≠ none → ∀ m b, HU.new m b ∈ u → y.kill m = y) :
 (s.apply i x u).apply j y [] = (s.apply j y []).apply i x u := by
 cases j with
 | none => rfl
 | some e =>
   have h1 := Ma (j := e) (x := y) (s := s) hf (hy (by simp));cases i with
   | none => simp only [FS.apply, FS.hup]; exact h1.symm
   | some d =>
     simp only [FS.apply, FS.hup];rw [h1];exact Ad3 fun e' => hd d rfl (by rw [e'])
theorem Agk {d e : Nat} {x y : SV} {b c : Blk} (hde : d ≠ e) (hx : x.kill e = x) (hy : y.kill d = y) (hb : b.kill e = b) (hc : c.kill d = c) :
 (s.apply (some d) x [.new d b]).apply (some e) y [.new e c] = (s.apply (some e) y [.new e c]).apply (some d) x [.new d b] := by
 refine FS.ext' (fun n => ?_) (fun n => ?_)
 · simp only [FS.apply, FS.hup, FS.set, FS.seth, FS.kill];by_cases h1 : n = d
   · subst h1; simp [hde, hx]
   · by_cases h2 : n = e
     · subst h2; simp [h1, hy]
     · simp [h1, h2, O2]
 · simp only [FS.apply, FS.hup, FS.set, FS.seth, FS.kill];by_cases h1 : n = d
   · subst h1; simp [hde, hb]
   · by_cases h2 : n = e
     · subst h2; simp [h1, hc]
     · simp only [h1, h2, if_false, Option.map_map];cases s.h n <;> simp [X9 d e]
theorem P7 {d e : Nat} {x : SV} : ∀ {D : List Nat}, noD d x D → e ∈ D → e ≠ d → x.kill e = x
 | f :: D, h, he, hne => by
   simp only [noD] at h;rcases List.mem_cons.1 he with rfl | he
   · simpa [hne] using h.1
   · exact P7 h.2 he hne
theorem Mg {d e : Nat} {x : Blk} : ∀ {D : List Nat}, Pg d x D → e ∈ D → e ≠ d → x.kill e = x
 | f :: D, h, he, hne => by
   simp only [Pg] at h;rcases List.mem_cons.1 he with rfl | he
   · simpa [hne] using h.1
   · exact Mg h.2 he hne
theorem Lj {d e : Nat} (he : e ∈ D) (hne : e ≠ d) : ∀ {u : List HU}, Er D d u → ∀ c ∈ u, ∀ b, c.blk? = some b → b.kill e = b
 | .new n b :: u, h, c, hc, b', hb => by
   simp only [Er] at h;rcases List.mem_cons.1 hc with rfl | hc
   · cases hb; exact Mg h.2.2.1 he hne
   · exact Lj he hne h.2.2.2 c hc b' hb
 | .upd n b :: u, h, c, hc, b', hb => by
   simp only [Er] at h;rcases List.mem_cons.1 hc with rfl | hc
   · cases hb; exact Mg h.1 he hne
   · exact Lj he hne h.2 c hc b' hb
 | .del n :: u, h, c, hc, b', hb => by
   simp only [Er] at h;rcases List.mem_cons.1 hc with rfl | hc
   · cases hb
   · exact Lj he hne h c hc b' hb
theorem Oy {d : Nat} : ∀ {u : List HU}, Er D d u → ∀ m b, HU.new m b ∈ u → m = d ∧ m ∈ D
 | .new n b :: u, h, m, b', hm => by
   simp only [Er] at h;rcases List.mem_cons.1 hm with e | hm
   · cases e; exact ⟨h.1, h.2.1⟩
   · exact Oy h.2.2.2 m b' hm
 | .upd n b :: u, h, m, b', hm => by
   simp only [Er] at h;rcases List.mem_cons.1 hm with e | hm
   · cases e
   · exact Oy h.2 m b' hm
 | .del n :: u, h, m, b', hm => by
   simp only [Er] at h;rcases List.mem_cons.1 hm with e | hm
   · cases e
   · exact Oy h m b' hm
theorem D8 {d : Nat} : ∀ {u : List HU}, Er D d u → noFrz u
 | [], _ => fun _ h => by cases h
 | .new n b :: u, h => fun e hm => by
   simp only [Er] at h;rcases List.mem_cons.1 hm with e | hm
   · subst e; trivial
   · exact D8 h.2.2.2 _ hm
 | .upd n b :: u, h => fun e hm => by
   simp only [Er] at h;rcases List.mem_cons.1 hm with e | hm
   · subst e; trivial
   · exact D8 h.2 _ hm
 | .del n :: u, h => fun e hm => by
   simp only [Er] at h;rcases List.mem_cons.1 hm with e | hm
   · subst e; trivial
   · exact D8 h _ hm
 | .frz n v :: u, h => by simp only [Er] at h
 | .set _ _ :: u, h => by simp only [Er] at h
theorem Lg {c d : Nat} {x : SV} {u : List HU} (hc : c ≤ 2) (h : okA D c d x u) : Er D d u := by
 unfold okA at h;obtain ⟨_, h⟩ := h;split at h
 · subst h; simp [Er]
 · unfold Hw at h;split at h
   · simp [Er]
   · exact ⟨h.1, h.2.1, h.2.2, trivial⟩
   · exact h.elim
 · exact h
 · rename_i h0 h1 h2;have : c = 0 ∨ c = 1 ∨ c = 2 := by omega
   rcases this with e | e | e
   · exact (h0 e).elim
   · exact (h1 e).elim
   · exact (h2 e).elim
theorem Ab5 {d : Nat} : ∀ {u : List HU}, Er D d u → Dr D d u
 | [], _ => trivial
 | .new n b :: u, h => by simp only [Er] at h; exact ⟨h.1, h.2.1, h.2.2.1, Ab5 h.2.2.2⟩
 | .upd n b :: u, h => by simp only [Er] at h; exact ⟨h.1, Ab5 h.2⟩
 | .del n :: u, h => by simp only [Er] at h; exact Ab5 (u := u) h
 | .frz n v :: u, h => by simp only [Er] at h
 | .set _ _ :: u, h => by simp only [Er] at h
theorem S3 {c d : Nat} {x : SV} {u : List HU} (h : okA D c d x u) : Dr D d u := by
 by_cases hc : c ≤ 2
 · exact Ab5 (Lg hc h)
 · unfold okA at h;obtain ⟨_, h⟩ := h;split at h
   · omega
   · omega
   · omega
   · exact h
theorem Lk {d e : Nat} (he : e ∈ D) (hne : e ≠ d) : ∀ {u : List HU}, Dr D d u → ∀ c ∈ u, ∀ b, c.blk? = some b → b.kill e = b
 | .new n b :: u, h, c, hc, b', hb => by
   simp only [Dr] at h;rcases List.mem_cons.1 hc with rfl | hc
   · simp only [HU.blk?, Option.some.injEq] at hb; subst hb;exact Mg h.2.2.1 he hne
   · exact Lk he hne h.2.2.2 c hc b' hb
 | .upd n b :: u, h, c, hc, b', hb => by
   simp only [Dr] at h;rcases List.mem_cons.1 hc with rfl | hc
   · simp only [HU.blk?, Option.some.injEq] at hb; subst hb;exact Mg h.1 he hne
   · exact Lk he hne h.2 c hc b' hb
 | .del n :: u, h, c, hc, b', hb => by
   simp only [Dr] at h;rcases List.mem_cons.1 hc with rfl | hc
   · simp [HU.blk?] at hb
   · exact Lk he hne h c hc b' hb
 | .frz n v :: u, h, c, hc, b', hb => by
   simp only [Dr] at h;rcases List.mem_cons.1 hc with rfl | hc
   · simp [HU.blk?] at hb
   · exact Lk he hne h c hc b' hb
 | .set _ _ :: u, h, c, hc, b', hb => by simp only [Dr] at h
 | [], h, c, hc, b', hb => by cases hc
theorem Jv {d : Nat} : ∀ {u : List HU}, Dr D d u → ∀ m b, HU.new m b ∈ u → m = d ∧ m ∈ D
 | .new n b :: u, h, m, b', hm => by
   simp only [Dr] at h;rcases List.mem_cons.1 hm with e | hm
   · cases e; exact ⟨h.1, h.2.1⟩
   · exact Jv h.2.2.2 m b' hm
 | .upd n b :: u, h, m, b', hm => by
   simp only [Dr] at h;rcases List.mem_cons.1 hm with e | hm
   · cases e
   · exact Jv h.2 m b' hm
 | .del n :: u, h, m, b', hm => by
   simp only [Dr] at h;rcases List.mem_cons.1 hm with e | hm
   · cases e
   · exact Jv h m b' hm
 | .frz n v :: u, h, m, b', hm => by
   simp only [Dr] at h;rcases List.mem_cons.1 hm with e | hm
   · cases e
   · exact Jv h m b' hm
 | .set _ _ :: u, h, m, b', hm => by simp only [Dr] at h
 | [], h, m, b', hm => by cases hm
theorem Il {d : Nat} : ∀ {u : List HU}, Dr D d u → noSetU u
 | [], _ => fun e he => by cases he
 | .new n b :: u, h => fun e he => by
   simp only [Dr] at h;rcases List.mem_cons.1 he with rfl | he
   · trivial
   · exact Il h.2.2.2 e he
 | .upd n b :: u, h => fun e he => by
   simp only [Dr] at h;rcases List.mem_cons.1 he with rfl | he
   · trivial
   · exact Il h.2 e he
 | .del n :: u, h => fun e he => by
   simp only [Dr] at h;rcases List.mem_cons.1 he with rfl | he
   · trivial
   · exact Il h e he
 | .frz n v :: u, h => fun e he => by
   simp only [Dr] at h;rcases List.mem_cons.1 he with rfl | he
   · trivial
   · exact Il h e he
 | .set _ _ :: u, h => by simp only [Dr] at h
end Go.Proofs.YthiamojjhdcegaaGreat.Fw
namespace Go.Proofs.YthiamojjhdcegaaGreat.Fw
variable [Th]
open Go.RowKit
variable {P : Program} {E : Env} {D : List Nat} {ops : Array Oper} {l : List I} {K : FS → Prop} {s : FS}
theorem Ow (hE : Lw E) {i : I} {K : KK} (hnd : nd i.k = false) (h : opS E i s K) :
 ∃ x u, K x u ∧ ∀ s' K', (∀ n ∈ D9 i, s'.t n = s.t n) → (Iw i.k = 0 ∨ ∀ n ∈ A5 (Bz s i.x), s'.h n = s.h n) → K' x u → opS E i s' K' := by
 have hev : ∀ s' : FS, (∀ n ∈ D9 i, s'.t n = s.t n) → Bz s' i.x = Bz s i.x := fun s' hs => by
  have : ∀ l : List Opd, (∀ n, Opd.t n ∈ l → s'.t n = s.t n) → Bz s' l = Bz s l := by
   intro l
   induction l with
   | nil => intro _; rfl
   | cons o l ih =>
     intro hl;simp only [Bz];rw [ih fun n hn => hl n (by simp [hn])];cases o with
     | t n => simp only [FS.ev]; rw [hl n (by simp)]
     | c x => rfl
  refine this i.x fun n hn => hs n ?_;simp only [D9, List.mem_append, List.mem_filterMap];exact .inl ⟨.t n, hn, rfl⟩
 unfold opS at h ⊢;split at h
 · rename_i hg;obtain ⟨x, u, h1, h2⟩ := Agd hE hnd h;exact ⟨x, u, h1, fun s' K' ht hh hk => h2 s' K' (hev s' ht) hh hk⟩
 · rename_i j w hg;unfold Eu at h;split at h
   · rename_i p hp;have hgt : ∀ s' : FS, (∀ n ∈ D9 i, s'.t n = s.t n) → s'.t j = .pv (.b p) := fun s' hs => by
      rw [hs j (by simp [D9, hg])]; exact hp
     by_cases hpw : p = w
     · rw [if_pos hpw] at h;obtain ⟨x, u, h1, h2⟩ := Agd hE hnd h;refine ⟨x, u, h1, fun s' K' ht hh hk => ?_⟩;rw [hgt s' ht];simp only [Eu, hpw, if_true];exact h2 s' K' (hev s' ht) hh hk
     · rw [if_neg hpw] at h;refine ⟨.tup [], [], h, fun s' K' ht hh hk => ?_⟩;rw [hgt s' ht];simp only [Eu, hpw, if_false];exact hk
   · rename_i hp;refine ⟨.tup [], [], h, fun s' K' ht hh hk => ?_⟩;rw [ht j (by simp [D9, hg]), hp];simp only [Eu];exact hk
   · exact h.elim
def OutA (E : Env) (D : List Nat) (c : Nat) (i : I) (s : FS) (x : SV) (u : List HU) : Prop := (opS E i s (fun x' u' => x' = x ∧ u' = u) ∧ nd i.k = false) ∧ okA D c (i.d.getD 1000000000) x u
theorem OutA.of (hE : Lw E) {c : Nat} {i : I} {K : KK} (hnd : nd i.k = false) (h : opS E i s fun x u => okA D c (i.d.getD 1000000000) x u ∧ K x u) : ∃ x u, OutA E D c i s x u ∧ K x u := by
 obtain ⟨x, u, h1, h2⟩ := Ow hE hnd h;exact ⟨x, u, ⟨⟨h2 s _ (fun _ _ => rfl) (.inr fun _ _ => rfl) ⟨rfl, rfl⟩, hnd⟩, h1.1⟩, h1.2⟩
theorem OutA.congr (hE : Lw E) {c : Nat} {i : I} {x u} {s s' : FS} (h : OutA E D c i s x u) (ht : ∀ n ∈ D9 i, s'.t n = s.t n) (hh : Iw i.k = 0 ∨ ∀ n ∈ A5 (Bz s i.x), s'.h n = s.h n) : OutA E D c i s' x u := by
 obtain ⟨x', u', ⟨rfl, rfl⟩, h2⟩ := Ow hE h.1.2 h.1.1;exact ⟨⟨h2 s' _ ht hh ⟨rfl, rfl⟩, h.1.2⟩, h.2⟩
theorem OutA.run (hE : Lw E) {c : Nat} {i : I} {x u} {K : KK} (h : OutA E D c i s x u) (hk : K x u) : opS E i s K := by
 obtain ⟨x', u', ⟨rfl, rfl⟩, h2⟩ := Ow hE h.1.2 h.1.1;exact h2 s K (fun _ _ => rfl) (.inr fun _ _ => rfl) hk
structure Swap (cy cz : Nat) (y z : I) : Prop where
 yz : ∀ d, y.d = some d → d ∉ D9 z
 zy : ∀ d, z.d = some d → d ∉ D9 y
 ne : ∀ d, y.d = some d → z.d ≠ some d
 sum : cy + cz ≤ 2
 wy : cy = 2 → cz = 0
 wz : cz = 2 → cy = 0
 y0 : cy = 0 → Iw y.k = 0
 z0 : cz = 0 → Iw z.k = 0
theorem Swap.symm {cy cz : Nat} {y z : I} (h : Swap cy cz y z) : Swap cz cy z y := ⟨h.zy, h.yz, fun d h1 h2 => h.ne d h2 h1, by have := h.sum; omega, h.wz, h.wy, h.z0, h.y0⟩
theorem Apn {y z : I} (h : Ai5 y z = true) : Swap (Iw y.k) (Iw z.k) y z := by
 simp only [Ai5, Bool.and_eq_true, decide_eq_true_eq, Bool.or_eq_true, bne_iff_ne, ne_eq, beq_iff_eq] at h;obtain ⟨⟨⟨⟨h1, h2⟩, h3⟩, h4⟩, h5⟩ := h;refine ⟨fun d hd => ?_, fun d hd => ?_, fun d hd => ?_, h3, fun e => h4.resolve_left (by simp [e]), fun e => h5.resolve_left (by simp [e]), id, id⟩
 · rw [hd] at h1; simp at h1; exact h1.1
 · rw [hd] at h2; simp at h2; exact h2
 · rw [hd] at h1; simp at h1; exact h1.2
theorem OutA.news (hD : ∀ d ∈ D, d < 1000000000) {c : Nat} {i : I} {x u} (h : OutA E D c i s x u) : ∀ m b, HU.new m b ∈ u → i.d = some m ∧ m ∈ D := fun m b hm => by
 obtain ⟨h1, h2⟩ := Jv (S3 h.2) m b hm;have := hD m h2;cases hd : i.d with
 | none => rw [hd] at h1; simp at h1; omega
 | some d => rw [hd] at h1; simp at h1; exact ⟨by rw [h1], h2⟩
theorem OutA.frame (hD : ∀ d ∈ D, d < 1000000000) {cy cz : Nat} {y z : I} {x u} (h : OutA E D cy y s x u) (hs : Swap cy cz y z) (hz : ∀ o ∈ z.x, Gi o = true) (hno : ∀ d, y.d = some d → d ∈ D → s.kill d = s) :
 (∀ n ∈ D9 z, (s.apply y.d x u).t n = s.t n) ∧ (Iw z.k = 0 ∨ ∀ n ∈ A5 (Bz s z.x), (s.apply y.d x u).h n = s.h n) := by
 have hnew := h.news hD;have hkill : ∀ m b, HU.new m b ∈ u → s.kill m = s := fun m b hm => hno m (hnew m b hm).1 (hnew m b hm).2;refine ⟨fun n hn => ?_, ?_⟩
 · have h1 : (s.hup u).t n = s.t n := Z4 (D8 (Lg (by have := hs.sum; omega) h.2)) fun m b hm => congrArg (fun q : FS => q.t n) (hkill m b hm);cases hd : y.d with
   | none => exact h1
   | some d =>
     have : n ≠ d := fun e => hs.yz d hd (e ▸ hn);simp only [FS.apply, FS.set, this, if_false]; exact h1
 · by_cases hc : Iw z.k = 0
   · exact .inl hc
   · right;intro n hn;have hcy : cy ≤ 1 := by
      by_cases e : cy = 2
      · exact absurd (hs.z0 (hs.wy e)) hc
      · have := hs.sum; omega
     have hu := h.2.2;have happ : ∀ q : FS, (q.apply y.d x u).h n = (q.hup u).h n := fun q => by cases y.d <;> rfl
     rw [happ];have : cy = 0 ∨ cy = 1 := by omega
     rcases this with e | e
     · rw [e] at hu; simp only at hu; subst hu; rfl
     · rw [e] at hu;simp only [Hw] at hu;split at hu
       · rfl
       · rename_i m b;have hk := hkill m b (by simp);have hne : n ≠ m := by
          intro e; subst e;have : ∀ l : List Opd, (∀ o ∈ l, Gi o = true) → n ∉ A5 (Bz s l) := by
           intro l
           induction l with
           | nil => intro _; simp [Bz, A5]
           | cons o l ih =>
             intro hl;simp only [Bz, A5, List.mem_append, not_or];refine ⟨?_, ih fun o ho => hl o (by simp [ho])⟩;cases o with
             | t j => exact Aa0 (congrArg (fun q : FS => q.t j) hk)
             | c v =>
               have := hl (.c v) (by simp);unfold Gi at this;split at this <;> first | cases this | skip
               all_goals (rename_i e; cases e <;> first | (simp [FS.ev, tn, A5]; done) | (simp only [FS.ev, tn]; rw [Py this]; exact List.not_mem_nil))
          exact this z.x hz hn
         simp only [FS.hup, FS.seth, hne, if_false];exact congrArg (fun q : FS => q.h n) hk
       · exact hu.elim
theorem OutA.comm {Dy Dz : List Nat} (hD : ∀ d ∈ Dy, d < 1000000000) (hD' : ∀ d ∈ Dz, d < 1000000000) {cy cz : Nat} {y z : I} {x u x' u'} {s s' : FS} (h : OutA E Dy cy y s x u) (k : OutA E Dz cz z s' x' u') (hs : Swap cy cz y z) (hy : ∀ m, z.d = some m → m ∈ Dz → m ∈ Dy) (hz : ∀ m, y.d = some m → m ∈ Dy → m ∈ Dz) {q : FS} :
 (q.apply y.d x u).apply z.d x' u' = (q.apply z.d x' u').apply y.d x u := by
 have hnew := h.news hD;have knew := k.news hD';have hx : ∀ m b, HU.new m b ∈ u' → x.kill m = x := fun m b hm => P7 h.2.1 (hy m (knew m b hm).1 (knew m b hm).2) fun e => by
  have hzz := (knew m b hm).1;have hb := hD' m (knew m b hm).2;cases hd : y.d with
  | none => rw [hd] at e; simp only [Option.getD_none] at e; omega
  | some d => rw [hd] at e; simp only [Option.getD_some] at e; subst e; exact hs.ne _ hd hzz
 have kx : ∀ m b, HU.new m b ∈ u → x'.kill m = x' := fun m b hm => P7 k.2.1 (hz m (hnew m b hm).1 (hnew m b hm).2) fun e => by
  have hzz := (hnew m b hm).1;have hb := hD m (hnew m b hm).2;cases hd : z.d with
  | none => rw [hd] at e; simp only [Option.getD_none] at e; omega
  | some d => rw [hd] at e; simp only [Option.getD_some] at e; subst e; exact hs.ne _ hzz hd
 have hcy : cy ≤ 2 := by have := hs.sum; omega
 have hcz : cz ≤ 2 := by have := hs.sum; omega
 by_cases e1 : cz = 0
 · have := k.2.2;rw [e1] at this; simp only at this; subst this;exact Kv (D8 (Lg hcy h.2)) hs.ne fun _ => kx
 · by_cases e2 : cy = 0
   · have := h.2.2;rw [e2] at this; simp only at this; subst this;exact (Kv (D8 (Lg hcz k.2)) (fun d h1 h2 => hs.ne d h2 h1) fun _ => hx).symm
   · have f1 : cz = 1 := by
      by_cases e : cz = 2
      · exact absurd (hs.wz e) e2
      · have := hs.sum; omega
     have f2 : cy = 1 := by have := hs.sum; omega
     have hu := h.2.2;have ku := k.2.2;rw [f2] at hu; rw [f1] at ku;simp only at hu ku;unfold Hw at hu ku;split at hu
     · exact (Kv (D8 (Lg hcz k.2)) (fun d h1 h2 => hs.ne d h2 h1) fun _ => hx).symm
     · rename_i d b;split at ku
       · exact Kv (D8 (Lg hcy h.2)) hs.ne fun _ => kx
       · rename_i e c;have hyy := (hnew d b (by simp)).1;have hzz := (knew e c (by simp)).1;have hde : d ≠ e := fun q => hs.ne d hyy (q ▸ hzz);have m1 := hy e hzz ku.2.1;have m2 := hz d hyy hu.2.1;rw [hyy, hzz];rw [hyy] at hu; rw [hzz] at ku;exact Agk hde (hx e c (by simp)) (kx d b (by simp)) (Mg hu.2.2 m1 (by simpa using Ne.symm hde)) (Mg ku.2.2 m2 (by simpa using hde))
       · exact ku.elim
     · exact hu.elim
end Go.Proofs.YthiamojjhdcegaaGreat.Fw
namespace Go.Proofs.YthiamojjhdcegaaGreat.Fw
variable [Th]
open Go.RowKit
variable {P : Program} {E : Env} {D : List Nat} {ops : Array Oper} {l : List I} {K : FS → Prop} {s : FS} {N : Nat}
def Adr (E : Env) (D : List Nat) (ops : Array Oper) (l : List I) (K : FS → Prop) : Nat → Array Bool → FS → Prop
 | 0, listed, s => Region.ready .any ops listed = [] ∧ K s
 | n + 1, listed, s => (Region.ready .any ops listed = [] → K s) ∧ ∀ j ∈ Region.ready .any ops listed, ∃ i x u, l[j]? = some i ∧ OutA E (Xx ops l D j) (clA ops l j i) i s x u ∧
    Adr E D ops l K n (listed.setIfInBounds j true) (s.apply i.d x u)
structure Reg (P : Program) (N : Nat) (ops : Array Oper) (l : List I) (D : List Nat) : Prop where
 len : l.length = ops.size
 ins : ∀ (j : Nat) (o : Oper), ops[j]? = some o → ∃ i : I, l[j]? = some i ∧ Lo P N ops o = some i
 bound : ∀ d ∈ D, d < 1000000000
 sure : ∀ (j : Nat) (y : I), l[j]? = some y → nd y.k = false
 nd : ∀ (i j : Nat) (y z : I) (d : Nat), l[i]? = some y → l[j]? = some z → y.d = some d → z.d = some d → i = j
 topo : ∀ (j : Nat) (o : Oper), ops[j]? = some o → ∀ e ∈ R0 o, e < j
 plain : ∀ (j : Nat) (y : I), l[j]? = some y → ∀ o ∈ y.x, Gi o = true
 pair : ∀ (i j : Nat) (y z : I), i < j → l[i]? = some y → l[j]? = some z → (Swap (Ym ops l i y) (Ym ops l j z) y z ∧ H7 ops l i = false ∧ H7 ops l j = false) ∨ ∃ n, i ∈ anc ops n j
def Closed (ops : Array Oper) (listed : Array Bool) : Prop := ∀ j, listed.getD j false = true → ∀ o, ops[j]? = some o → ∀ e ∈ R0 o, listed.getD e false = true
theorem Ae3 {o : Oper} {e : Nat} : e ∈ R0 o ↔ ∃ x ∈ o.after, Region.binds .any x = true ∧ x.on = e := by
 simp [R0, List.mem_map, List.mem_filter, and_assoc]
theorem Da {j : Nat} {listed : Array Bool} : j ∈ Region.ready .any ops listed ↔ listed.getD j true = false ∧ ∃ o, ops[j]? = some o ∧ ∀ e ∈ R0 o, listed.getD e false = true := by
 rw [mem_ready];constructor
 · rintro ⟨h1, o, h2, h3⟩;refine ⟨h1, o, h2, fun e he => ?_⟩;obtain ⟨x, h4, h5, rfl⟩ := Ae3.1 he;exact h3 x h4 h5
 · rintro ⟨h1, o, h2, h3⟩;exact ⟨h1, o, h2, fun e he hb => h3 e.on (Ae3.2 ⟨e, he, hb, rfl⟩)⟩
theorem Qp {listed : Array Bool} (hc : Closed ops listed) : ∀ n j, (∀ o, ops[j]? = some o → ∀ e ∈ R0 o, listed.getD e false = true) → ∀ k ∈ anc ops n j, listed.getD k false = true
 | 0, j, _, k, hk => by simp [anc] at hk
 | n + 1, j, h, k, hk => by
   unfold anc at hk;split at hk
   · rename_i o ho;rcases List.mem_append.1 hk with hk | hk
     · exact h o ho k hk
     · obtain ⟨q, hq, hk⟩ := List.mem_flatten.1 hk;obtain ⟨e, he, rfl⟩ := List.mem_map.1 hq;exact Qp hc n e (fun o' ho' e' he' => hc e (h o ho e he) o' ho' e' he') k hk
   · cases hk
theorem G7 {listed : Array Bool} {j : Nat} (h : listed.getD j true = false) : listed.getD j false = false ∧ j < listed.size := by
 rcases Nat.lt_or_ge j listed.size with h' | h'
 · simp [h'] at h ⊢; exact h
 · simp [Array.getElem?_eq_none h'] at h
theorem He {listed : Array Bool} {i j : Nat} (hi : i < listed.size) : (listed.setIfInBounds i true).getD j false = (if j = i then true else listed.getD j false) := by
 by_cases h : j = i
 · subst h; simp [hi]
 · rw [if_neg h, getD_set_ne false (Ne.symm h)]
theorem Closed.set {listed : Array Bool} {i : Nat} (hc : Closed ops listed) (hr : i ∈ Region.ready .any ops listed) : Closed ops (listed.setIfInBounds i true) := by
 intro j hj o ho e he;obtain ⟨h1, o', ho', h2⟩ := Da.1 hr;have hlt := (G7 h1).2;rw [He hlt] at hj ⊢;split
 · rfl
 · by_cases hji : j = i
   · subst hji; rw [ho] at ho'; cases ho'; exact h2 e he
   · rw [if_neg hji] at hj; exact hc j hj o ho e he
def NoM (l : List I) (D : List Nat) (listed : Array Bool) (s : FS) : Prop := ∀ k y d, l[k]? = some y → listed.getD k false = false → y.d = some d → d ∈ D → s.kill d = s
theorem E4 {j d : Nat} (h : d ∈ Xx ops l D j) : d ∈ D := by
 unfold Xx at h;split at h
 · exact (List.mem_filter.1 h).1
 · exact h
theorem Vo (hr : Reg P N ops l D) {listed : Array Bool} {j k : Nat} {y : I} {d : Nat} (hrd : j ∈ Region.ready .any ops listed) (hk : l[k]? = some y) (hun : listed.getD k false = false) (hd : y.d = some d) (hm : d ∈ D) : d ∈ Xx ops l D j := by
 obtain ⟨_, o, ho, hl⟩ := Da.1 hrd;unfold Xx;rw [ho];refine List.mem_filter.2 ⟨hm, ?_⟩;simp only [Bool.not_eq_true', List.any_eq_false];intro e he;cases hi : l[e]? with
 | none => simp
 | some i =>
   simp only [decide_eq_true_eq];intro hd';have := hr.nd e k i y d hi hk hd' hd;subst this;rw [hl e he] at hun; cases hun
theorem NoM.set (hr : Reg P N ops l D) {listed : Array Bool} {j : Nat} {z : I} {x u} (hno : NoM l D listed s) (hj : l[j]? = some z) (hlt : j < listed.size) (hrd : j ∈ Region.ready .any ops listed) {c : Nat} (ho : OutA E (Xx ops l D j) c z s x u) : NoM l D (listed.setIfInBounds j true) (s.apply z.d x u) := by
 intro k y d hk hun hd hm;rw [He hlt] at hun;by_cases hkj : k = j
 · rw [if_pos hkj] at hun; cases hun
 · rw [if_neg hkj] at hun;have hne : d ≠ z.d.getD 1000000000 := fun e => by
    have := hr.bound d hm;cases hz : z.d with
    | none => rw [hz] at e; simp only [Option.getD_none] at e; omega
    | some d' => rw [hz] at e; simp only [Option.getD_some] at e; subst e; exact hkj (hr.nd k j y z d hk hj hd hz)
   exact Agj (Il (S3 ho.2)) (hno k y d hk hun hd hm) (fun _ => P7 ho.2.1 (Vo hr hrd hk hun hd hm) hne) (Lk (Vo hr hrd hk hun hd hm) hne (S3 ho.2))
theorem Adq (hE : Lw E) (hr : Reg P N ops l D) {i : Nat} {y : I} {x u} (hy : l[i]? = some y) :
 ∀ (fuel : Nat) (listed : Array Bool) (s : FS), Closed ops listed → NoM l D listed s → (∀ j z, l[j]? = some z → listed.getD j false = false → j ≠ i → (Swap (Ym ops l i y) (Ym ops l j z) y z ∧ H7 ops l i = false ∧ H7 ops l j = false) ∨ ∃ n, i ∈ anc ops n j) →
  i ∈ Region.ready .any ops listed → OutA E (Xx ops l D i) (clA ops l i y) y s x u → Adr E D ops l K fuel (listed.setIfInBounds i true) (s.apply y.d x u) → Adr E D ops l K (fuel + 1) listed s := by
 intro fuel
 induction fuel with
 | zero =>
   intro listed s hc hno hpair hrd ho H;refine ⟨fun h => (by rw [h] at hrd; cases hrd), fun j hj => ?_⟩;by_cases hji : j = i
   · subst hji; exact ⟨y, x, u, hy, ho, H⟩
   · have := ready_mono hj hji;rw [H.1] at this; cases this
 | succ fuel ih =>
   intro listed s hc hno hpair hrd ho H;refine ⟨fun h => (by rw [h] at hrd; cases hrd), fun j hj => ?_⟩;by_cases hji : j = i
   · subst hji; exact ⟨y, x, u, hy, ho, H⟩
   · obtain ⟨z, x', u', hz, hoz, H'⟩ := H.2 j (ready_mono hj hji);obtain ⟨hj1, o, hj2, hj3⟩ := Da.1 hj;obtain ⟨hi1, oi, hi2, hi3⟩ := Da.1 hrd;obtain ⟨hjf, hjlt⟩ := G7 hj1;obtain ⟨hif, hilt⟩ := G7 hi1;have hsw3 : Swap (Ym ops l i y) (Ym ops l j z) y z ∧ H7 ops l i = false ∧ H7 ops l j = false := by
      refine (hpair j z hz hjf hji).resolve_right fun ⟨n, ha⟩ => ?_;have := Qp hc n j (fun o' ho' e he => by rw [hj2] at ho'; cases ho'; exact hj3 e he) i ha;rw [hif] at this; cases this
     have hsw := hsw3.1;have hci : clA ops l i y = Ym ops l i y := by unfold clA; rw [hsw3.2.1]; rfl
     have hcj : clA ops l j z = Ym ops l j z := by unfold clA; rw [hsw3.2.2]; rfl
     have ho1 : OutA E (Xx ops l D i) (Ym ops l i y) y s x u := by rw [← hci]; exact ho
     have fr1 := ho1.frame (fun d hd => hr.bound d (E4 hd)) hsw (hr.plain j z hz) (fun d hd hm => hno i y d hy hif hd (E4 hm));have hoz' : OutA E (Xx ops l D j) (clA ops l j z) z s x' u' := hoz.congr hE (fun n hn => (fr1.1 n hn).symm) (by
      have he : Bz (s.apply y.d x u) z.x = Bz s z.x := by
       have : ∀ l : List Opd, (∀ n, Opd.t n ∈ l → (s.apply y.d x u).t n = s.t n) → Bz (s.apply y.d x u) l = Bz s l := by
        intro l
        induction l with
        | nil => intro _; rfl
        | cons o l ih =>
          intro hl;simp only [Bz];rw [ih fun n hn => hl n (by simp [hn])];cases o with
          | t n => simp only [FS.ev]; rw [hl n (by simp)]
          | c x => rfl
       refine this z.x fun n hn => fr1.1 n ?_;simp only [D9, List.mem_append, List.mem_filterMap];exact .inl ⟨.t n, hn, rfl⟩
      rw [he];exact fr1.2.imp id fun h n hn => (h n hn).symm)
     refine ⟨z, x', u', hz, hoz', ?_⟩;have hoz1 : OutA E (Xx ops l D j) (Ym ops l j z) z s x' u' := by rw [← hcj]; exact hoz'
     have fr2 := hoz1.frame (fun d hd => hr.bound d (E4 hd)) hsw.symm (hr.plain i y hy) (fun d hd hm => hno j z d hz hjf hd (E4 hm));have hoy : OutA E (Xx ops l D i) (clA ops l i y) y (s.apply z.d x' u') x u := ho.congr hE fr2.1 fr2.2;have hoy1 : OutA E (Xx ops l D i) (Ym ops l i y) y (s.apply z.d x' u') x u := by rw [← hci]; exact hoy
     refine ih (listed.setIfInBounds j true) _ (hc.set hj) (hno.set hr hz hjlt hj hoz') (fun k w hk hun hne => ?_) (ready_mono hrd (Ne.symm hji)) hoy ?_
     · refine hpair k w hk ?_ hne;rw [He hjlt] at hun;split at hun
       · cases hun
       · exact hun
     · rw [Array.setIfInBounds_comm _ _ hji, OutA.comm (fun d hd => hr.bound d (E4 hd)) (fun d hd => hr.bound d (E4 hd)) hoz1 hoy1 hsw.symm (fun m h1 h2 => Vo hr hj hy hif h1 (E4 h2)) (fun m h1 h2 => Vo hr hrd hz hjf h1 (E4 h2))];exact H'
theorem V7 (hE : Lw E) (hr : Reg P N ops l D) {Q : C3} : ∀ (fuel k : Nat) (listed : Array Bool) (s : FS), ops.size = k + fuel → listed.size = ops.size → (∀ j, listed.getD j false = decide (j < k)) → NoM l D listed s →
 sxA E (Pb ops l D k (l.drop k)) Q s → Adr E D ops l (Q .normal) fuel listed s
 | 0, k, listed, s, hk, hsz, hl, hno, h => by
   have : l.drop k = [] := List.drop_eq_nil_of_le (by rw [hr.len]; omega);rw [this] at h;refine ⟨?_, h⟩;apply List.eq_nil_iff_forall_not_mem.2;intro j hj;obtain ⟨h1, o, h2, _⟩ := Da.1 hj;obtain ⟨h3, h4⟩ := G7 h1;rw [hl j] at h3;simp at h3; omega
 | fuel + 1, k, listed, s, hk, hsz, hl, hno, h => by
   have hlt : k < l.length := by rw [hr.len]; omega
   have hop : ∃ o, ops[k]? = some o := ⟨ops[k]'(by omega), by simp⟩
   obtain ⟨o, ho⟩ := hop;obtain ⟨y, hy, _⟩ := hr.ins k o ho;have hdrop : l.drop k = y :: l.drop (k + 1) := by
    rw [List.drop_eq_getElem_cons hlt];congr 1;rw [List.getElem?_eq_getElem hlt] at hy; cases hy; rfl
   rw [hdrop] at h;simp only [Pb, sxA] at h;obtain ⟨x, u, hout, hrest⟩ := OutA.of hE (hr.sure k y hy) h;have hc : Closed ops listed := fun j hj o' ho' e he => by
    rw [hl] at hj ⊢;simp only [decide_eq_true_eq] at hj ⊢;have := hr.topo j o' ho' e he;omega
   have hkl : k < listed.size := by omega
   have hrd : k ∈ Region.ready .any ops listed := Da.2 ⟨by
    have := hl k; simp [hkl] at this ⊢; exact this, o, ho, fun e he => by
    rw [hl]; simp only [decide_eq_true_eq]; exact hr.topo k o ho e he⟩
   refine Adq hE hr hy fuel listed s hc hno (fun j z hz hun hne => ?_) hrd hout ?_
   · rw [hl] at hun;simp only [decide_eq_false_iff_not] at hun;exact hr.pair k j y z (by omega) hy hz
   · refine V7 hE hr fuel (k + 1) _ _ (by omega) (by simp [hsz]) (fun j => ?_) (hno.set hr hy hkl hrd hout) hrest;rw [He hkl, hl];by_cases hj : j = k
     · subst hj; simp
     · rw [if_neg hj]; by_cases h' : j < k <;> simp <;> omega
end Go.Proofs.YthiamojjhdcegaaGreat.Fw
namespace Go.Proofs.YthiamojjhdcegaaGreat.Fw
variable [Th]
open Go.RowKit
variable {P : Program} {F : Fr} {N : Nat} {ρ : Nat → Value} {s : FS} {a : Act} {w w' : World} {V : View}
theorem Acj {ops : Array Oper} {l : List I} (h : Au (ops.toList.map (Lo P N ops)) = some l) : l.length = ops.size ∧ ∀ (j : Nat) (o : Oper), ops[j]? = some o → ∃ i : I, l[j]? = some i ∧ Lo P N ops o = some i := by
 obtain ⟨h1, h2⟩ := Ha h;refine ⟨by simpa using h1.symm, fun j o ho => ?_⟩;have := h2 j;rw [List.getElem?_map, Array.getElem?_toList, ho] at this;simp only [Option.map_some] at this;cases hl : l[j]? with
 | none => rw [hl] at this; cases this
 | some i => rw [hl] at this; simp only [Option.map_some, Option.some.injEq] at this; exact ⟨i, rfl, this⟩
theorem M3 {l : List I} (h : (l.filterMap (·.d)).Nodup) : ∀ (i j : Nat) (y z : I) (d : Nat), l[i]? = some y → l[j]? = some z → y.d = some d → z.d = some d → i = j := by
 induction l with
 | nil => intro i j y z d h1; simp at h1
 | cons x l ih =>
   have hl : (l.filterMap (·.d)).Nodup := by
    cases hx : x.d with
    | none => simpa [List.filterMap_cons, hx] using h
    | some e => simp only [List.filterMap_cons, hx, List.nodup_cons] at h; exact h.2
   have hin : ∀ (k : Nat) (y : I) (d : Nat), l[k]? = some y → y.d = some d → x.d ≠ some d := fun k y d hk hd hx => by
    simp only [List.filterMap_cons, hx, List.nodup_cons] at h;exact h.1 (List.mem_filterMap.2 ⟨y, List.mem_of_getElem? hk, hd⟩)
   intro i j y z d h1 h2 h3 h4;cases i with
   | zero =>
     simp at h1; subst h1;cases j with
     | zero => rfl
     | succ j => exact absurd h3 (hin j z d (by simpa using h2) h4)
   | succ i =>
     cases j with
     | zero => simp at h2; subst h2; exact absurd h4 (hin i y d (by simpa using h1) h3)
     | succ j => exact congrArg (· + 1) (ih hl i j y z d (by simpa using h1) (by simpa using h2) h3 h4)
theorem Ark {ops : Array Oper} {l : List I} (h : Au (ops.toList.map (Lo P N ops)) = some l) (ha : Av2 ops l = true) : Reg P N ops l (news l) := by
 obtain ⟨h1, h2⟩ := Acj h;simp only [Av2, Bool.and_eq_true, List.all_eq_true, List.mem_range, decide_eq_true_eq] at ha;obtain ⟨⟨⟨hnd, hsure⟩, hb⟩, hall⟩ := ha;have get : ∀ (j : Nat) (y : I), l[j]? = some y → ∃ o, ops[j]? = some o := fun j y hj => by
  have := (List.getElem?_eq_some_iff.1 hj).1;exact ⟨ops[j]'(by omega), by simp⟩
 have hd : ∀ (j : Nat) (o : Oper), ops[j]? = some o → ∀ e ∈ R0 o, e < j := fun j o ho e he => by
  obtain ⟨y, hy, _⟩ := h2 j o ho;have := hall j (List.getElem?_eq_some_iff.1 hy).1;rw [ho, hy] at this;simp only [Bool.and_eq_true, List.all_eq_true, decide_eq_true_eq] at this;exact this.1.1 e he
 have htopo : ∀ n j k, k ∈ anc ops n j → k < j := fun n => by
  induction n with
  | zero => intro j k hk; simp [anc] at hk
  | succ n ih =>
    intro j k hk;unfold anc at hk;split at hk
    · rename_i o ho;rcases List.mem_append.1 hk with hk | hk
      · exact hd j o ho k hk
      · obtain ⟨q, hq, hk⟩ := List.mem_flatten.1 hk;obtain ⟨e, he, rfl⟩ := List.mem_map.1 hq;have := hd j o ho e he;have := ih e k hk;omega
    · cases hk
 refine ⟨h1, h2, hb, fun j y hj => by simpa using hsure y (List.mem_of_getElem? hj), M3 (Ox hnd), fun j o ho e he => ?_, fun j y hy o ho => ?_, fun i j y z hij hy hz => ?_⟩
 · obtain ⟨y, hy, _⟩ := h2 j o ho;have := hall j (List.getElem?_eq_some_iff.1 hy).1;rw [ho, hy] at this;simp only [Bool.and_eq_true, List.all_eq_true, decide_eq_true_eq] at this;exact this.1.1 e he
 · obtain ⟨o', ho'⟩ := get j y hy;have := hall j (List.getElem?_eq_some_iff.1 hy).1;rw [ho', hy] at this;simp only [Bool.and_eq_true, List.all_eq_true, decide_eq_true_eq] at this;exact this.1.2 o ho
 · obtain ⟨o', ho'⟩ := get j z hz;have := hall j (List.getElem?_eq_some_iff.1 hz).1;rw [ho', hz] at this;simp only [Bool.and_eq_true, List.all_eq_true, decide_eq_true_eq, List.mem_range] at this;have h3 := this.2 i hij;rw [hy] at h3;simp only [Bool.or_eq_true, List.contains_iff_mem] at h3;by_cases hli : H7 ops l i = true
   · right;unfold H7 at hli;rw [hy] at hli;rw [Bool.and_eq_true] at hli;replace hli := hli.2;simp only [Bool.and_eq_true, List.all_eq_true, List.mem_range, Bool.or_eq_true, decide_eq_true_eq, List.contains_iff_mem] at hli;exact ⟨6, (hli.2 j (List.getElem?_eq_some_iff.1 hz).1).resolve_left (by omega)⟩
   by_cases hlj : H7 ops l j = true
   · right;unfold H7 at hlj;rw [hz] at hlj;rw [Bool.and_eq_true] at hlj;replace hlj := hlj.2;simp only [Bool.and_eq_true, List.all_eq_true, List.mem_range, Bool.or_eq_true, decide_eq_true_eq, List.contains_iff_mem] at hlj;exact ⟨6, hlj.1 i hij⟩
   rcases h3 with (((h3 | h3) | h3) | h3) | h3
   · right;refine ⟨4, ?_⟩;unfold anc;rw [ho'];exact List.mem_append_left _ h3
   · exact absurd h3 hli
   · exact absurd h3 hlj
   · have hs := Apn h3;have near : ∀ a b, a ≠ b → ∀ u v, l[a]? = some u → l[b]? = some v → Zs ops l a = true → (∃ n, a ∈ anc ops n b) ∨ (∃ n, b ∈ anc ops n a) ∨ (Iw v.k = 0 ∧ Ym ops l b v = 0) := fun a b hab u v hu hv hn => by
      unfold Zs at hn;rw [hu, Bool.and_eq_true] at hn;have h4 := List.all_eq_true.1 hn.2 b (List.mem_range.2 (List.getElem?_eq_some_iff.1 hv).1);rw [hv] at h4;simp only [Bool.or_eq_true, decide_eq_true_eq, List.contains_iff_mem, beq_iff_eq] at h4;rcases h4 with ((h4 | h4) | h4) | h4
      · exact absurd h4.symm hab
      · exact .inr (.inl ⟨6, h4⟩)
      · exact .inl ⟨6, h4⟩
      · refine .inr (.inr ⟨h4, ?_⟩);unfold Ym;split
        · rename_i h5;unfold Zs at h5;rw [hv, Bool.and_eq_true] at h5;have h6 := h5.1;split at h6
          · rename_i e; rw [e] at h4; cases h4
          · cases h6
        · exact h4
     by_cases hni : Zs ops l i = true
     · rcases near i j (by omega) y z hy hz hni with h4 | h4 | ⟨h4, h5⟩
       · exact .inr h4
       · obtain ⟨n, h4⟩ := h4;exact absurd (htopo n i j h4) (by omega)
       · refine .inl ⟨⟨hs.yz, hs.zy, hs.ne, ?_, fun _ => h5, fun e => ?_, fun e => ?_, fun _ => h4⟩, by simpa using hli, by simpa using hlj⟩
         · rw [h5]; unfold Ym; rw [if_pos hni]; omega
         · rw [h5] at e; cases e
         · unfold Ym at e; rw [if_pos hni] at e; cases e
     · by_cases hnj : Zs ops l j = true
       · rcases near j i (by omega) z y hz hy hnj with h4 | h4 | ⟨h4, h5⟩
         · obtain ⟨n, h4⟩ := h4;exact absurd (htopo n i j h4) (by omega)
         · exact .inr h4
         · refine .inl ⟨⟨hs.yz, hs.zy, hs.ne, ?_, fun e => ?_, fun _ => h5, fun _ => h4, fun e => ?_⟩, by simpa using hli, by simpa using hlj⟩
           · rw [h5]; unfold Ym; rw [if_pos hnj]; omega
           · rw [h5] at e; cases e
           · unfold Ym at e; rw [if_pos hnj] at e; cases e
       · have e1 : Ym ops l i y = Iw y.k := by unfold Ym; rw [if_neg hni]
         have e2 : Ym ops l j z = Iw z.k := by unfold Ym; rw [if_neg hnj]
         rw [e1, e2];exact .inl ⟨hs, by simpa using hli, by simpa using hlj⟩
   · exact .inr ⟨4, h3⟩
theorem RelR.kill (h : RelR F N ρ s a w) (d : Nat) : RelR F N ρ (s.kill d) a w := by
 have hh : ∀ n x, (s.kill d).h n = some x → ∃ y, s.h n = some y ∧ x = y.kill d := fun n x hx => by
  simp only [FS.kill] at hx;obtain ⟨y, h1, h2⟩ := Option.map_eq_some_iff.1 hx;exact ⟨y, h1, h2.symm⟩
 have how : ∀ b, Cb ρ (s.kill d).h b ↔ Cb ρ s.h b := fun b => by
  constructor
  · rintro ⟨n, x, h1, h2⟩;obtain ⟨y, h3, _⟩ := hh n x h1;exact ⟨n, y, h3, h2⟩
  · rintro ⟨n, x, h1, h2⟩;exact ⟨n, x.kill d, by simp [FS.kill, h1], h2⟩
 have hV : Am w (F.out ρ (s.kill d).h) = Am w (F.out ρ s.h) := by
  congr 1;funext b;exact propext (or_congr_left (how b))
 have hu : Fw.upd ρ d (ρ d) = ρ := by funext m; unfold Fw.upd; split <;> simp_all
 refine ⟨h.fr, fun b hb => h.may b ((how b).1 hb), fun n x hx => ?_, fun n m x y b hn hm => ?_, fun n => ?_, h.size, h.defers⟩
 · obtain ⟨y, h1, rfl⟩ := hh n x hx;rw [hV];have ho := h.own n y h1;cases y with
   | var x =>
     obtain ⟨b, vs, ty, fr, u, g1, g2, g3, g4, g5, g6, g7⟩ := ho;have := g4.kill (n := d) (p := ρ d) (fun _ _ q => q);rw [hu] at this;exact ⟨b, vs, ty, fr, u, g1, g2, g3, this, g5, by rw [Jl]; exact g6, g7⟩
   | row sz es => exact ho
   | rowc sz es c => exact ho
   | it l p => exact ho
 · obtain ⟨x', h1, _⟩ := hh n x hn;obtain ⟨y', h2, _⟩ := hh m y hm;exact h.inj n m x' y' b h1 h2
 · rw [hV];have := (h.tmps n).kill (n := d) (p := ρ d) (fun _ _ q => q);rw [hu] at this;exact this
theorem RelR.killD (h : RelR F N ρ s a w) : ∀ D : List Nat, RelR F N ρ (Fw.killD D s) a w := fun D => by
 induction D generalizing s with
 | nil => exact h
 | cons d D ih => exact ih (h.kill d)
variable {ops : Array Oper} {l : List I} {D : List Nat} {r : Option Nat} {X : Frs}
theorem Zn {Q : C3} (hins : ∀ (j : Nat) (o : Oper), ops[j]? = some o → ∃ i : I, l[j]? = some i ∧ Lo P N ops o = some i) (hlen : l.length = ops.size) : ∀ (n k : Nat) {s a w}, ops.size = k + n → RelX X N s a w → sxL (H1 P r X N) ((l.map yvI).drop k) Q s →
 wpOpsIn (Gd r) 0 P ops (Pu X N Q) ((List.range ops.size).drop k) a w
 | 0, k, s, a, w, hk, hR, h => by
   have : (l.map yvI).drop k = [] := List.drop_eq_nil_of_le (by simp; omega);rw [this] at h;rw [List.drop_eq_nil_of_le (by simp; omega)];exact ⟨s, hR, h⟩
 | n + 1, k, s, a, w, hk, hR, h => by
   have hlt : k < l.length := by omega
   obtain ⟨o, ho⟩ : ∃ o, ops[k]? = some o := ⟨ops[k]'(by omega), by simp⟩
   obtain ⟨y, hy, hi⟩ := hins k o ho;have hdrop : (l.map yvI).drop k = yvI y :: (l.map yvI).drop (k + 1) := by
    rw [List.drop_eq_getElem_cons (by simpa using hlt)];congr 1;rw [List.getElem?_eq_getElem hlt] at hy; cases hy; simp
   have hr : (List.range ops.size).drop k = k :: (List.range ops.size).drop (k + 1) := by
    rw [List.drop_eq_getElem_cons (by simp; omega)]; simp
   rw [hdrop] at h;rw [hr, wpOpsIn_cons];obtain ⟨F, hX, ρ, hR⟩ := hR;have e1 : (yvI y).d = y.d := by unfold yvI; split <;> rfl
   simp only [sxL] at h;rw [e1] at h;exact P3 hins ho hi (.inr rfl) hX hR h fun x u a' w' hk' hR' => Zn hins hlen n (k + 1) (by omega) hR' hk'
theorem Aao {E : Env} {f args h d} {K : KK} : N4 E.reg f args h d K → N4 E f args h d K := fun ⟨x, u, h1, h2⟩ => ⟨x, u, .inl (h1.resolve_right id), h2⟩
theorem Agc {E : Env} {k x d s} {K : KK} (h : body E.reg k x d s K) : body E k x d s K := by
 have cv : ∀ l, J3 E.reg l s.h d K → J3 E l s.h d K := fun l h => by
  unfold J3 at h ⊢;split at h
  · exact Aao h
  · exact h.elim
 cases k
 case call f => exact Aao h
 case callv => exact cv _ h
 case yv =>
  simp only [body] at h ⊢;unfold yvK at h ⊢;split at h
  · exact h
  · exact cv _ h
 all_goals exact h
theorem Aki {E : Env} {i : I} {s} {K : KK} (h : opS E.reg i s K) : opS E i s K := by
 unfold opS at h ⊢;split at h
 · exact Agc h
 · unfold Eu at h ⊢;split at h
   · split at h
     · rename_i h1; rw [if_pos h1]; exact Agc h
     · rename_i h1; rw [if_neg h1]; exact h
   · exact h
   · exact h.elim
theorem Aap {Q : C3} (hr : Reg P N ops l D) : ∀ (n : Nat) (listed : Array Bool) {s a w}, RelX X N s a w → Adr (H1 P r X N).reg D ops l (Q .normal) n listed s → wpAnyIn (Gd r) 0 P .any ops (Pu X N Q) n listed a w
 | 0, listed, s, a, w, hR, h => ⟨h.1, s, hR, h.2⟩
 | n + 1, listed, s, a, w, hR, h => by
   refine ⟨fun h0 => ⟨s, hR, h.1 h0⟩, fun j hj => ?_⟩;obtain ⟨i, x, u, hi, ho, hrest⟩ := h.2 j hj;obtain ⟨_, o, hoj, _⟩ := Da.1 hj;obtain ⟨i', hi', hins⟩ := hr.ins j o hoj;rw [hi] at hi'; cases hi';obtain ⟨F, hX, ρ, hR⟩ := hR;exact P3 hr.ins hoj hins (.inl rfl) hX hR (Aki (ho.run Acx (K := fun x' u' => x' = x ∧ u' = u) ⟨rfl, rfl⟩)) fun x' u' a' w' hk hR' => by
    obtain ⟨rfl, rfl⟩ := hk;exact Aap hr n _ hR' hrest
theorem Q5 {id : Nat} {Q : C3} (hm : P.follows .mixedOrders = true) (hr : Reg P N ops l D) (hR : RelX X N s a w) (h : sxA (H1 P r X N).reg (Pb ops l D 0 l) Q (killD D s)) :
 (Code.region id ops true).wpIn (Gd r) 0 P (Pu X N Q) a w := by
 obtain ⟨F, hX, ρ, hR⟩ := hR;have hR' := (hR.killD D).grew (Grew.drawn w (w.drawn + 1));refine wpIn_region_any hm (Aap hr _ _ ⟨F, hX, ρ, hR'⟩ ?_);refine V7 Acx hr ops.size 0 _ _ (by omega) (by simp) (fun j => ?_) (fun k y d hk hun hd hmem => ?_) h
 · rw [Array.getD_eq_getD_getElem?];by_cases hj : j < ops.size <;> simp [hj]
 · exact Tf (.inl hmem)
mutual
theorem A2q : ∀ x : SV, tnP x = tn x
 | .fn _ cap => by simp only [tnP, tn, Nc cap]
 | .p _ _ => rfl
 | .ps _ _ => rfl
 | .pr _ _ _ _ => rfl
 | .os _ => rfl
 | .ov _ _ _ _ => rfl
 | .pv _ => rfl
 | .vec _ _ => rfl
 | .agg l => by simp only [tnP, tn, Nc l]
 | .tup l => by simp only [tnP, tn, Nc l]
 | .pi _ _ _ _ => rfl
 | .dead => rfl
theorem Nc : ∀ l : List SV, K9 l = A5 l
 | [] => rfl
 | x :: l => by simp only [K9, A5, A2q x, Nc l]
end
variable {E : Env} {K : FS → Prop}
theorem Vg {n : Nat} : ∀ {T : List Nat}, inT n T → n ∈ T
 | m :: T, h => by
   simp only [inT] at h;split at h
   · rename_i e; subst e; exact List.mem_cons_self
   · exact List.mem_cons_of_mem _ (Vg h)
theorem Aeg {n : Nat} : ∀ {T : List Nat}, Yv n T → n ∉ T
 | [], _ => by simp
 | m :: T, h => by
   simp only [Yv] at h;split at h
   · exact h.elim
   · rename_i e;simp only [List.mem_cons, not_or];exact ⟨e, Aeg h⟩
theorem Aag : ∀ {S T : List Nat}, Rz S T → ∀ n ∈ S, n ∉ T
 | n :: S, T, h, m, hm => by
   simp only [Rz] at h;rcases List.mem_cons.1 hm with rfl | hm
   · exact Aeg h.1
   · exact Aag h.2 m hm
theorem Ad6 {acc : List (Nat × List Nat)} : ∀ {ps T : List Nat}, Yq acc ps T → ∀ k ∈ ps, ∀ n ∈ lk [] k acc, n ∉ T
 | k :: ps, T, h, j, hj => by
   simp only [Yq] at h;rcases List.mem_cons.1 hj with rfl | hj
   · exact Aag h.1
   · exact Ad6 h.2 j hj
def HU.nm : HU → Nat
 | .new n _ => n
 | .upd n _ => n
 | .del n => n
 | .frz n _ => n
 | .set _ _ => 0
theorem L0 {T : List Nat} : ∀ {u : List HU}, Hs T u → ∀ e ∈ u, e.nm ∈ T
 | .new n b :: u, h, e, he => by
   simp only [Hs] at h;rcases List.mem_cons.1 he with rfl | he
   · exact Vg h.1
   · exact L0 h.2 e he
 | .upd n b :: u, h, e, he => by
   simp only [Hs] at h;rcases List.mem_cons.1 he with rfl | he
   · exact Vg h.1
   · exact L0 h.2 e he
 | .del n :: u, h, e, he => by
   simp only [Hs] at h;rcases List.mem_cons.1 he with rfl | he
   · exact Vg h.1
   · exact L0 h.2 e he
 | .frz _ _ :: _, h, _, _ => h.elim
 | .set _ _ :: _, h, _, _ => h.elim
def ECm (e f : HU) : Prop := e.nm ≠ f.nm ∧ e.calm ∧ f.calm ∧ (∀ n b, e = .new n b → ∀ c, f.blk? = some c → c.kill n = c) ∧ (∀ n b, f = .new n b → ∀ c, e.blk? = some c → c.kill n = c)
theorem F5 {s : FS} {n m : Nat} {b c : Option Blk} (h : n ≠ m) : (s.seth n b).seth m c = (s.seth m c).seth n b := by
 refine FS.ext' (fun _ => rfl) (fun k => ?_);simp only [FS.seth];by_cases h1 : k = m
 · by_cases h2 : k = n
   · omega
   · simp [h1]; omega
 · simp [h1]
theorem Ht {s : FS} {n m : Nat} {b : Option Blk} (hb : b.map (Blk.kill m) = b) : (s.seth n b).kill m = (s.kill m).seth n b := by
 refine FS.ext' (fun _ => rfl) (fun k => ?_);simp only [FS.kill, FS.seth];split
 · exact hb
 · rfl
theorem Ary {s : FS} {e f : HU} (h : ECm e f) : (s.hup [e]).hup [f] = (s.hup [f]).hup [e] := by
 obtain ⟨hn, he, hf, h1, h2⟩ := h;cases e with
 | frz _ _ => exact he.elim
 | set _ _ => exact he.elim
 | new n b =>
   cases f with
   | frz _ _ => exact hf.elim
   | set _ _ => exact hf.elim
   | new m c =>
     have k1 := h1 n b rfl c rfl;have k2 := h2 m c rfl b rfl;simp only [FS.hup];rw [Ht (by simp [k2]), Ht (by simp [k1]), L9, F5 (show n ≠ m from hn)]
   | upd m c =>
     have k1 := h1 n b rfl c rfl;simp only [FS.hup];rw [Ht (by simp [k1]), F5 (show n ≠ m from hn)]
   | del m =>
     simp only [FS.hup];rw [Ht (by simp), F5 (show n ≠ m from hn)]
 | upd n b =>
   cases f with
   | frz _ _ => exact hf.elim
   | set _ _ => exact hf.elim
   | new m c =>
     have k2 := h2 m c rfl b rfl;simp only [FS.hup];rw [Ht (by simp [k2]), F5 (show n ≠ m from hn)]
   | upd m c => simp only [FS.hup]; rw [F5 (show n ≠ m from hn)]
   | del m => simp only [FS.hup]; rw [F5 (show n ≠ m from hn)]
 | del n =>
   cases f with
   | frz _ _ => exact hf.elim
   | set _ _ => exact hf.elim
   | new m c =>
     simp only [FS.hup];rw [Ht (by simp), F5 (show n ≠ m from hn)]
   | upd m c => simp only [FS.hup]; rw [F5 (show n ≠ m from hn)]
   | del m => simp only [FS.hup]; rw [F5 (show n ≠ m from hn)]
theorem Rs {s : FS} {e : HU} {u : List HU} (he : e.calm) : s.hup (e :: u) = (s.hup [e]).hup u := by
 cases e with
 | frz _ _ => exact he.elim
 | set _ _ => exact he.elim
 | new n b => rfl
 | upd n b => rfl
 | del n => rfl
theorem Akj : ∀ {v : List HU} {s : FS} {e : HU}, e.calm → (∀ f ∈ v, ECm e f) → (s.hup [e]).hup v = (s.hup v).hup [e]
 | [], s, e, _, _ => rfl
 | f :: v, s, e, he, h => by
   have hf := (h f List.mem_cons_self).2.2.1;rw [Rs hf, Rs (s := s) hf, Ary (h f List.mem_cons_self)];exact Akj he fun g hg => h g (List.mem_cons_of_mem _ hg)
theorem Alf : ∀ {u v : List HU} {s : FS}, noFrz u → (∀ e ∈ u, ∀ f ∈ v, ECm e f) → (s.hup u).hup v = (s.hup v).hup u
 | [], v, s, _, _ => rfl
 | e :: u, v, s, hu, h => by
   have he := hu e List.mem_cons_self;rw [Rs he, Rs (s := s.hup v) he, Alf hu.tail fun f hf => h f (List.mem_cons_of_mem _ hf), Akj he (h e List.mem_cons_self)]
theorem Apm {i j : Option Nat} {x y : SV} {u v : List HU} (hu : noFrz u) (hv : noFrz v) (hd : ∀ d, i = some d → j ≠ some d) (h : ∀ e ∈ u, ∀ f ∈ v, ECm e f)
 (hx : i ≠ none → ∀ m b, HU.new m b ∈ v → x.kill m = x) (hy : j ≠ none → ∀ m b, HU.new m b ∈ u → y.kill m = y) : (s.apply i x u).apply j y v = (s.apply j y v).apply i x u := by
 have hh := Alf (s := s) hu h;cases i with
 | none =>
   cases j with
   | none => exact hh
   | some e =>
     simp only [FS.apply];rw [Ma hu (hy (by simp)), hh]
 | some d =>
   have e1 : ∀ q : FS, (q.set d x).hup v = (q.hup v).set d x := fun q => Ma hv (hx (by simp));cases j with
   | none => simp only [FS.apply]; rw [e1, hh]
   | some e =>
     have e2 : ∀ q : FS, (q.set e y).hup u = (q.hup u).set e y := fun q => Ma hu (hy (by simp));simp only [FS.apply];rw [e1, e2, hh];exact Ad3 fun e' => hd d rfl (by rw [e'])
theorem Alg {n : Nat} : ∀ {u : List HU} {s : FS}, noFrz u → (∀ e ∈ u, e.nm ≠ n) → (∀ m b, HU.new m b ∈ u → (s.h n).map (Blk.kill m) = s.h n) → (s.hup u).h n = s.h n
 | [], s, _, _, _ => rfl
 | .frz _ _ :: u, s, hf, _, _ => (hf _ List.mem_cons_self).elim
 | .set _ _ :: u, s, hf, _, _ => (hf _ List.mem_cons_self).elim
 | .new m b :: u, s, hf, hn, hk => by
   have e1 : (((s.kill m).seth m (some b)).h n) = s.h n := by
    have : n ≠ m := fun e => hn (.new m b) List.mem_cons_self e.symm;simp only [FS.seth, this, if_false];exact hk m b List.mem_cons_self
   simp only [FS.hup];rw [Alg hf.tail (fun e he => hn e (List.mem_cons_of_mem _ he)) (fun m' b' hm => by rw [e1]; exact hk m' b' (List.mem_cons_of_mem _ hm)), e1]
 | .upd m b :: u, s, hf, hn, hk => by
   have e1 : ((s.seth m (some b)).h n) = s.h n := by
    have : n ≠ m := fun e => hn (.upd m b) List.mem_cons_self e.symm;simp only [FS.seth, this, if_false]
   simp only [FS.hup];rw [Alg hf.tail (fun e he => hn e (List.mem_cons_of_mem _ he)) (fun m' b' hm => by rw [e1]; exact hk m' b' (List.mem_cons_of_mem _ hm)), e1]
 | .del m :: u, s, hf, hn, hk => by
   have e1 : ((s.seth m none).h n) = s.h n := by
    have : n ≠ m := fun e => hn (.del m) List.mem_cons_self e.symm;simp only [FS.seth, this, if_false]
   simp only [FS.hup];rw [Alg hf.tail (fun e he => hn e (List.mem_cons_of_mem _ he)) (fun m' b' hm => by rw [e1]; exact hk m' b' (List.mem_cons_of_mem _ hm)), e1]
def OutP (E : Env) (D : List Nat) (c : Nat) (i : I) (s : FS) (x : SV) (u : List HU) : Prop := (opS E i s (fun x' u' => x' = x ∧ u' = u) ∧ nd i.k = false) ∧ okP D c (i.d.getD 1000000000) x u (Od s i)
theorem Xs {s s' : FS} : ∀ {l : List Opd}, (∀ n, Opd.t n ∈ l → s'.t n = s.t n) → Bz s' l = Bz s l
 | [], _ => rfl
 | o :: l, h => by
   simp only [Bz];rw [Xs fun n hn => h n (List.mem_cons_of_mem _ hn)];cases o with
   | t n => simp only [FS.ev]; rw [h n List.mem_cons_self]
   | c x => rfl
theorem Aky {i : I} {n : Nat} (h : Opd.t n ∈ i.x) : n ∈ D9 i := by
 simp only [D9, List.mem_append, List.mem_filterMap];exact .inl ⟨.t n, h, rfl⟩
theorem Yg {i : I} {s s' : FS} (h : ∀ n ∈ D9 i, s'.t n = s.t n) : Od s' i = Od s i := by
 unfold Od;rw [Xs fun n hn => h n (Aky hn)]
theorem OutP.of (hE : Lw E) {c : Nat} {i : I} {K : KK} {s : FS} (hnd : nd i.k = false) (h : opS E i s fun x u => okP D c (i.d.getD 1000000000) x u (Od s i) ∧ K x u) : ∃ x u, OutP E D c i s x u ∧ K x u := by
 obtain ⟨x, u, h1, h2⟩ := Ow hE hnd h;exact ⟨x, u, ⟨⟨h2 s _ (fun _ _ => rfl) (.inr fun _ _ => rfl) ⟨rfl, rfl⟩, hnd⟩, h1.1⟩, h1.2⟩
theorem OutP.congr (hE : Lw E) {c : Nat} {i : I} {x u} {s s' : FS} (h : OutP E D c i s x u) (ht : ∀ n ∈ D9 i, s'.t n = s.t n) (hh : Iw i.k = 0 ∨ ∀ n ∈ A5 (Bz s i.x), s'.h n = s.h n) : OutP E D c i s' x u := by
 obtain ⟨x', u', ⟨rfl, rfl⟩, h2⟩ := Ow hE h.1.2 h.1.1;refine ⟨⟨h2 s' _ ht hh ⟨rfl, rfl⟩, h.1.2⟩, ?_⟩;rw [Yg ht]; exact h.2
theorem OutP.run (hE : Lw E) {c : Nat} {i : I} {x u} {K : KK} {s : FS} (h : OutP E D c i s x u) (hk : K x u) : opS E i s K := by
 obtain ⟨x', u', ⟨rfl, rfl⟩, h2⟩ := Ow hE h.1.2 h.1.1;exact h2 s K (fun _ _ => rfl) (.inr fun _ _ => rfl) hk
theorem Ft {c d : Nat} {x : SV} {u : List HU} {T : List Nat} (h : okP D c d x u T) : Er D d u := by
 unfold okP at h;obtain ⟨_, h⟩ := h;split at h
 · subst h; simp [Er]
 · unfold Hw at h;split at h
   · simp [Er]
   · exact ⟨h.1, h.2.1, h.2.2, trivial⟩
   · exact h.elim
 · exact h.1
theorem OutP.news (hD : ∀ d ∈ D, d < 1000000000) {c : Nat} {i : I} {x u} {s : FS} (h : OutP E D c i s x u) : ∀ m b, HU.new m b ∈ u → i.d = some m ∧ m ∈ D := fun m b hm => by
 obtain ⟨h1, h2⟩ := Oy (Ft h.2) m b hm;have := hD m h2;cases hd : i.d with
 | none => rw [hd] at h1; simp at h1; omega
 | some d => rw [hd] at h1; simp at h1; exact ⟨by rw [h1], h2⟩
theorem OutP.nm {c : Nat} {i : I} {x u} {s : FS} (hD : ∀ d ∈ D, d < 1000000000) (h : OutP E D c i s x u) : ∀ e ∈ u, e.nm ∈ Od s i := fun e he => by
 have h2 := h.2;unfold okP at h2;obtain ⟨_, h2⟩ := h2;split at h2
 · subst h2; cases he
 · unfold Hw at h2;split at h2
   · cases he
   · rename_i n b;have := (h.news hD n b (by simp)).1;simp only [List.mem_singleton] at he;subst he;unfold Od; rw [this]; exact List.mem_cons_self
   · exact h2.elim
 · exact L0 h2.2 e he
theorem OutP.one {c : Nat} {i : I} {x u} {s : FS} (hD : ∀ d ∈ D, d < 1000000000) (hc : c ≤ 1) (h : OutP E D c i s x u) : ∀ e ∈ u, i.d = some e.nm ∧ e.nm ∈ D := fun e he => by
 have h2 := h.2;unfold okP at h2;obtain ⟨_, h2⟩ := h2;split at h2
 · subst h2; cases he
 · unfold Hw at h2;split at h2
   · cases he
   · rename_i n b;have := h.news hD n b (by simp);simp only [List.mem_singleton] at he;subst he;exact this
   · exact h2.elim
 · rename_i h0 h1;have : c = 0 ∨ c = 1 := by omega
   rcases this with e | e
   · exact (h0 e).elim
   · exact (h1 e).elim
structure SwapT (y z : I) : Prop where
 yz : ∀ d, y.d = some d → d ∉ D9 z
 zy : ∀ d, z.d = some d → d ∉ D9 y
 ne : ∀ d, y.d = some d → z.d ≠ some d
theorem SwapT.symm {y z : I} (h : SwapT y z) : SwapT z y := ⟨h.zy, h.yz, fun d h1 h2 => h.ne d h2 h1⟩
theorem Ado {y z : I} (h : V6 y z = true) : SwapT y z := by
 simp only [V6, Bool.and_eq_true] at h;obtain ⟨h1, h2⟩ := h;refine ⟨fun d hd => ?_, fun d hd => ?_, fun d hd => ?_⟩
 · rw [hd] at h1; simp at h1; exact h1.1
 · rw [hd] at h2; simp at h2; exact h2
 · rw [hd] at h1; simp at h1; exact h1.2
def Dis (S T : List Nat) : Prop := ∀ n ∈ S, n ∉ T
theorem Dis.symm {S T : List Nat} (h : Dis S T) : Dis T S := fun n h1 h2 => h n h2 h1
def Apt (y z : I) (S T : List Nat) : Prop := K8 y z = true → Dis S T
theorem Aiw (y z : I) : K8 y z = K8 z y := by
 unfold K8;cases (Hp y.k != 0) <;> cases (Hp z.k != 0) <;> cases (Hp y.k == 2) <;> cases (Hp z.k == 2) <;> rfl
theorem Alq (k : Kd) : Hp k ≤ 2 := by cases k <;> simp [Hp, Iw]
theorem A6p {k : Kd} (h : Hp k = 0) : Iw k = 0 := by cases k <;> simp_all [Hp, Iw]
theorem Uo {y z : I} (h : ¬ K8 y z = true) : Hp y.k = 0 ∨ Hp z.k = 0 ∨ (Hp y.k = 1 ∧ Hp z.k = 1) := by
 have h1 := Alq y.k;have h2 := Alq z.k;unfold K8 at h;simp only [Bool.and_eq_true, Bool.or_eq_true, bne_iff_ne, ne_eq, beq_iff_eq] at h;omega
theorem Ww {s : FS} {m : Nat} (hk : s.kill m = s) : ∀ {l : List Opd}, (∀ o ∈ l, Gi o = true) → m ∉ A5 (Bz s l)
 | [], _ => by simp [Bz, A5]
 | o :: l, hl => by
   simp only [Bz, A5, List.mem_append, not_or];refine ⟨?_, Ww hk fun o ho => hl o (List.mem_cons_of_mem _ ho)⟩;cases o with
   | t j => exact Aa0 (congrArg (fun q : FS => q.t j) hk)
   | c v =>
     have := hl (.c v) List.mem_cons_self;unfold Gi at this;split at this <;> first | cases this | skip
     all_goals (rename_i e; cases e <;> first | (simp [FS.ev, tn, A5]; done) | (simp only [FS.ev, tn]; rw [Py this]; exact List.not_mem_nil))
theorem OutP.frame (hD : ∀ d ∈ D, d < 1000000000) {y z : I} {x u} {s : FS} (h : OutP E D (Hp y.k) y s x u) (hs : SwapT y z) (ha : Apt y z (Od s y) (Od s z)) (hz : ∀ o ∈ z.x, Gi o = true) (hno : ∀ d, y.d = some d → d ∈ D → s.kill d = s) :
 (∀ n ∈ D9 z, (s.apply y.d x u).t n = s.t n) ∧ (Iw z.k = 0 ∨ ∀ n ∈ A5 (Bz s z.x), (s.apply y.d x u).h n = s.h n) := by
 have hnew := h.news hD;have hkill : ∀ m b, HU.new m b ∈ u → s.kill m = s := fun m b hm => hno m (hnew m b hm).1 (hnew m b hm).2;have hcalm := D8 (Ft h.2);refine ⟨fun n hn => ?_, ?_⟩
 · have h1 : (s.hup u).t n = s.t n := Z4 hcalm fun m b hm => congrArg (fun q : FS => q.t n) (hkill m b hm);cases hd : y.d with
   | none => exact h1
   | some d =>
     have : n ≠ d := fun e => hs.yz d hd (e ▸ hn);simp only [FS.apply, FS.set, this, if_false]; exact h1
 · by_cases hc : Hp z.k = 0
   · exact .inl (A6p hc)
   · right;intro n hn;have happ : ∀ q : FS, (q.apply y.d x u).h n = (q.hup u).h n := fun q => by cases y.d <;> rfl
     rw [happ];refine Alg hcalm (fun e he => ?_) fun m b hm => congrArg (fun q : FS => q.h n) (hkill m b hm);by_cases hcl : K8 y z = true
     · intro en;refine ha hcl e.nm (h.nm hD e he) ?_;rw [en];unfold Od;rw [Nc];split
       · exact List.mem_cons_of_mem _ hn
       · exact hn
     · have hle : Hp y.k ≤ 1 := by
        rcases Uo hcl with h1 | h1 | h1 <;> omega
       obtain ⟨e1, e2⟩ := h.one hD hle e he;intro en;subst en;exact Ww (hno _ e1 e2) hz hn
theorem OutP.comm {Dy Dz : List Nat} (hD : ∀ d ∈ Dy, d < 1000000000) (hD' : ∀ d ∈ Dz, d < 1000000000) {y z : I} {x u x' u'} {s s' q : FS} (h : OutP E Dy (Hp y.k) y s x u) (k : OutP E Dz (Hp z.k) z s' x' u') (hs : SwapT y z) (ha : Apt y z (Od s y) (Od s' z)) (hy : ∀ m, z.d = some m → m ∈ Dz → m ∈ Dy) (hz : ∀ m, y.d = some m → m ∈ Dy → m ∈ Dz) :
 (q.apply y.d x u).apply z.d x' u' = (q.apply z.d x' u').apply y.d x u := by
 have hnew := h.news hD;have knew := k.news hD';have hne1 : ∀ m b, HU.new m b ∈ u' → m ≠ y.d.getD 1000000000 := fun m b hm e => by
  have hzz := (knew m b hm).1;have hb := hD' m (knew m b hm).2;cases hd : y.d with
  | none => rw [hd] at e; simp only [Option.getD_none] at e; omega
  | some d => rw [hd] at e; simp only [Option.getD_some] at e; subst e; exact hs.ne _ hd hzz
 have hne2 : ∀ m b, HU.new m b ∈ u → m ≠ z.d.getD 1000000000 := fun m b hm e => by
  have hzz := (hnew m b hm).1;have hb := hD m (hnew m b hm).2;cases hd : z.d with
  | none => rw [hd] at e; simp only [Option.getD_none] at e; omega
  | some d => rw [hd] at e; simp only [Option.getD_some] at e; subst e; exact hs.ne _ hzz hd
 have hx : ∀ m b, HU.new m b ∈ u' → x.kill m = x := fun m b hm => P7 h.2.1 (hy m (knew m b hm).1 (knew m b hm).2) (hne1 m b hm);have kx : ∀ m b, HU.new m b ∈ u → x'.kill m = x' := fun m b hm => P7 k.2.1 (hz m (hnew m b hm).1 (hnew m b hm).2) (hne2 m b hm);refine Apm (D8 (Ft h.2)) (D8 (Ft k.2)) hs.ne (fun e he f hf => ⟨?_, D8 (Ft h.2) e he, D8 (Ft k.2) f hf, fun n b en c hc => ?_, fun n b en c hc => ?_⟩) (fun _ => hx) (fun _ => kx)
 · by_cases hcl : K8 y z = true
   · exact fun en => ha hcl e.nm (h.nm hD e he) (en ▸ k.nm hD' f hf)
   · rcases Uo hcl with h1 | h1 | ⟨h1, h2⟩
     · have := h.2.2;rw [h1] at this; simp only at this; subst this; cases he
     · have := k.2.2;rw [h1] at this; simp only at this; subst this; cases hf
     · obtain ⟨e1, _⟩ := h.one hD (by omega) e he;obtain ⟨e2, _⟩ := k.one hD' (by omega) f hf;exact fun en => hs.ne _ e1 (en ▸ e2)
 · subst en;exact Lj (hz n (hnew n b he).1 (hnew n b he).2) (hne2 n b he) (Ft k.2) f hf c hc
 · subst en;exact Lj (hy n (knew n b hf).1 (knew n b hf).2) (hne1 n b hf) (Ft h.2) e he c hc
def Wa (E : Env) (D : List Nat) (ops : Array Oper) (l : List I) (K : FS → Prop) : Nat → Array Bool → (Nat → List Nat) → FS → Prop
 | 0, listed, _, s => Region.ready .any ops listed = [] ∧ K s
 | n + 1, listed, τ, s => (Region.ready .any ops listed = [] → K s) ∧ ∀ j ∈ Region.ready .any ops listed, ∃ i x u, l[j]? = some i ∧ OutP E (Xx ops l D j) (Hp i.k) i s x u ∧
    (∀ k y, l[k]? = some y → listed.getD k false = true → S2 ops k j = false → S2 ops j k = false → Apt y i (τ k) (Od s i)) ∧
    Wa E D ops l K n (listed.setIfInBounds j true) (fun k => if k = j then Od s i else τ k) (s.apply i.d x u)
structure RegP (P : Program) (N : Nat) (ops : Array Oper) (l : List I) (D : List Nat) : Prop where
 len : l.length = ops.size
 ins : ∀ (j : Nat) (o : Oper), ops[j]? = some o → ∃ i : I, l[j]? = some i ∧ Lo P N ops o = some i
 bound : ∀ d ∈ D, d < 1000000000
 sure : ∀ (j : Nat) (y : I), l[j]? = some y → nd y.k = false
 nd : ∀ (i j : Nat) (y z : I) (d : Nat), l[i]? = some y → l[j]? = some z → y.d = some d → z.d = some d → i = j
 topo : ∀ (j : Nat) (o : Oper), ops[j]? = some o → ∀ e ∈ R0 o, e < j
 plain : ∀ (j : Nat) (y : I), l[j]? = some y → ∀ o ∈ y.x, Gi o = true
 pair : ∀ (i j : Nat) (y z : I), i < j → l[i]? = some y → l[j]? = some z → SwapT y z ∨ S2 ops i j = true
theorem Arw {i j : Nat} (h : S2 ops i j = true) : i ∈ anc ops 8 j := by
 unfold S2 at h;simpa using h
theorem Xw (hr : RegP P N ops l D) {listed : Array Bool} {j k : Nat} {y : I} {d : Nat} (hrd : j ∈ Region.ready .any ops listed) (hk : l[k]? = some y) (hun : listed.getD k false = false) (hd : y.d = some d) (hm : d ∈ D) : d ∈ Xx ops l D j := by
 obtain ⟨_, o, ho, hl⟩ := Da.1 hrd;unfold Xx;rw [ho];refine List.mem_filter.2 ⟨hm, ?_⟩;simp only [Bool.not_eq_true', List.any_eq_false];intro e he;cases hi : l[e]? with
 | none => simp
 | some i =>
   simp only [decide_eq_true_eq];intro hd';have := hr.nd e k i y d hi hk hd' hd;subst this;rw [hl e he] at hun; cases hun
theorem NoM.setP (hr : RegP P N ops l D) {listed : Array Bool} {j : Nat} {z : I} {x u} {s : FS} (hno : NoM l D listed s) (hj : l[j]? = some z) (hlt : j < listed.size) (hrd : j ∈ Region.ready .any ops listed) {c : Nat} (ho : OutP E (Xx ops l D j) c z s x u) : NoM l D (listed.setIfInBounds j true) (s.apply z.d x u) := by
 intro k y d hk hun hd hm;rw [He hlt] at hun;by_cases hkj : k = j
 · rw [if_pos hkj] at hun; cases hun
 · rw [if_neg hkj] at hun;have hne : d ≠ z.d.getD 1000000000 := fun e => by
    have := hr.bound d hm;cases hz : z.d with
    | none => rw [hz] at e; simp only [Option.getD_none] at e; omega
    | some d' => rw [hz] at e; simp only [Option.getD_some] at e; subst e; exact hkj (hr.nd k j y z d hk hj hd hz)
   have hdm := Xw hr hrd hk hun hd hm;exact Ai4 (D8 (Ft ho.2)) (hno k y d hk hun hd hm) (fun _ => P7 ho.2.1 hdm hne) (Lj hdm hne (Ft ho.2))
theorem X7 (hr : RegP P N ops l D) {listed : Array Bool} (hc : Closed ops listed) {i j : Nat} (hi : i ∈ Region.ready .any ops listed) (hj : j ∈ Region.ready .any ops listed) : S2 ops i j = false := by
 cases h : S2 ops i j with
 | false => rfl
 | true =>
   obtain ⟨hi1, _⟩ := Da.1 hi;obtain ⟨_, o, hj2, hj3⟩ := Da.1 hj;have := Qp hc 8 j (fun o' ho' e he => by rw [hj2] at ho'; cases ho'; exact hj3 e he) i (Arw h);rw [(G7 hi1).1] at this; cases this
theorem Aa2 (hE : Lw E) (hr : RegP P N ops l D) {i : Nat} {y : I} {x u} (hy : l[i]? = some y) :
 ∀ (fuel : Nat) (listed : Array Bool) (τ : Nat → List Nat) (s : FS), Closed ops listed → NoM l D listed s →
  i ∈ Region.ready .any ops listed → OutP E (Xx ops l D i) (Hp y.k) y s x u → (∀ k z, l[k]? = some z → listed.getD k false = true → S2 ops k i = false → S2 ops i k = false → Apt z y (τ k) (Od s y)) →
  Wa E D ops l K fuel (listed.setIfInBounds i true) (fun k => if k = i then Od s y else τ k) (s.apply y.d x u) → Wa E D ops l K (fuel + 1) listed τ s := by
 intro fuel
 induction fuel with
 | zero =>
   intro listed τ s hc hno hrd ho hap H;refine ⟨fun h => (by rw [h] at hrd; cases hrd), fun j hj => ?_⟩;by_cases hji : j = i
   · subst hji; exact ⟨y, x, u, hy, ho, hap, H⟩
   · have := ready_mono hj hji;rw [H.1] at this; cases this
 | succ fuel ih =>
   intro listed τ s hc hno hrd ho hap H;refine ⟨fun h => (by rw [h] at hrd; cases hrd), fun j hj => ?_⟩;by_cases hji : j = i
   · subst hji; exact ⟨y, x, u, hy, ho, hap, H⟩
   · obtain ⟨z, x', u', hz, hoz, hapz, H'⟩ := H.2 j (ready_mono hj hji);obtain ⟨hj1, o, hj2, hj3⟩ := Da.1 hj;obtain ⟨hi1, oi, hi2, hi3⟩ := Da.1 hrd;obtain ⟨hjf, hjlt⟩ := G7 hj1;obtain ⟨hif, hilt⟩ := G7 hi1;have o1 := X7 hr hc hrd hj;have o2 := X7 hr hc hj hrd;have hsw : SwapT y z := by
      rcases Nat.lt_or_gt_of_ne hji with h | h
      · exact ((hr.pair j i z y h hz hy).resolve_right (by rw [o2]; simp)).symm
      · exact (hr.pair i j y z h hy hz).resolve_right (by rw [o1]; simp)
     have hbD := fun d (hd : d ∈ Xx ops l D i) => hr.bound d (E4 hd);have hbD' := fun d (hd : d ∈ Xx ops l D j) => hr.bound d (E4 hd);have hkill : ∀ m b, HU.new m b ∈ u → s.kill m = s := fun m b hm => hno i y m hy hif (ho.news hbD m b hm).1 (E4 (ho.news hbD m b hm).2);have htz : ∀ n ∈ D9 z, (s.apply y.d x u).t n = s.t n := fun n hn => by
      have h1 : (s.hup u).t n = s.t n := Z4 (D8 (Ft ho.2)) fun m b hm => congrArg (fun q : FS => q.t n) (hkill m b hm);cases hd : y.d with
      | none => exact h1
      | some d =>
        have : n ≠ d := fun e => hsw.yz d hd (e ▸ hn);simp only [FS.apply, FS.set, this, if_false]; exact h1
     have eTz : Od (s.apply y.d x u) z = Od s z := Yg htz;have hAyz : Apt y z (Od s y) (Od s z) := by
      have := hapz i y hy (by rw [He hilt, if_pos rfl]) o1 o2;dsimp only at this;rw [if_pos rfl, eTz] at this;exact this
     have fr1 := ho.frame hbD hsw hAyz (hr.plain j z hz) (fun d hd hm => hno i y d hy hif hd (E4 hm));have hoz' : OutP E (Xx ops l D j) (Hp z.k) z s x' u' := hoz.congr hE (fun n hn => (fr1.1 n hn).symm) (by
      rw [Xs fun n hn => fr1.1 n (Aky hn)];exact fr1.2.imp id fun h n hn => (h n hn).symm)
     have hAzy : Apt z y (Od s z) (Od s y) := fun h => (hAyz (by rw [Aiw]; exact h)).symm;have fr2 := hoz'.frame hbD' hsw.symm hAzy (hr.plain i y hy) (fun d hd hm => hno j z d hz hjf hd (E4 hm));have hoy : OutP E (Xx ops l D i) (Hp y.k) y (s.apply z.d x' u') x u := ho.congr hE fr2.1 fr2.2;have eTy : Od (s.apply z.d x' u') y = Od s y := Yg fr2.1;refine ⟨z, x', u', hz, hoz', fun k w hk hl hkj hjk => ?_, ?_⟩
     · have hki : k ≠ i := fun e => by subst e; rw [hif] at hl; cases hl
       have := hapz k w hk (by rw [He hilt, if_neg hki]; exact hl) hkj hjk;dsimp only at this;rw [if_neg hki, eTz] at this;exact this
     · refine ih (listed.setIfInBounds j true) _ _ (hc.set hj) (hno.setP hr hz hjlt hj hoz') (ready_mono hrd (Ne.symm hji)) hoy (fun k w hk hl hki hik => ?_) ?_
       · skip
         rw [eTy];by_cases hkj : k = j
         · subst hkj;rw [if_pos rfl];rw [hz] at hk; cases hk;exact hAzy
         · rw [if_neg hkj];rw [He hjlt, if_neg hkj] at hl;exact hap k w hk hl hki hik
       · rw [Array.setIfInBounds_comm _ _ hji, OutP.comm hbD' hbD hoz' ho hsw.symm hAzy (fun m h1 h2 => Xw hr hj hy hif h1 (E4 h2)) (fun m h1 h2 => Xw hr hrd hz hjf h1 (E4 h2)), eTy];rw [eTz] at H';have eτ : (fun k => if k = i then Od s y else if k = j then Od s z else τ k) = (fun k => if k = j then Od s z else if k = i then Od s y else τ k) := by
          funext k;by_cases h1 : k = i
          · by_cases h2 : k = j
            · omega
            · simp [h1]; omega
          · simp [h1]
         rw [eτ];exact H'
theorem T5 (hE : Lw E) (hr : RegP P N ops l D) {Q : C3} : ∀ (fuel k : Nat) (listed : Array Bool) (τ : Nat → List Nat) (acc : List (Nat × List Nat)) (s : FS), ops.size = k + fuel → listed.size = ops.size → (∀ j, listed.getD j false = decide (j < k)) → NoM l D listed s →
 (∀ (j : Nat) (y : I), l[j]? = some y → j < k → Hp y.k ≠ 0 → lk [] j acc = τ j) → sxP E (Av3 ops l D k (l.drop k)) acc Q s → Wa E D ops l (Q .normal) fuel listed τ s
 | 0, k, listed, τ, acc, s, hk, hsz, hl, hno, hacc, h => by
   have : l.drop k = [] := List.drop_eq_nil_of_le (by rw [hr.len]; omega);rw [this] at h;refine ⟨?_, h⟩;apply List.eq_nil_iff_forall_not_mem.2;intro j hj;obtain ⟨h1, o, h2, _⟩ := Da.1 hj;obtain ⟨h3, h4⟩ := G7 h1;rw [hl j] at h3;simp at h3; omega
 | fuel + 1, k, listed, τ, acc, s, hk, hsz, hl, hno, hacc, h => by
   have hlt : k < l.length := by rw [hr.len]; omega
   obtain ⟨o, ho⟩ : ∃ o, ops[k]? = some o := ⟨ops[k]'(by omega), by simp⟩
   obtain ⟨y, hy, _⟩ := hr.ins k o ho;have hdrop : l.drop k = y :: l.drop (k + 1) := by
    rw [List.drop_eq_getElem_cons hlt];congr 1;rw [List.getElem?_eq_getElem hlt] at hy; cases hy; rfl
   rw [hdrop] at h;simp only [Av3, sxP] at h;obtain ⟨x, u, hout, hsep, hrest⟩ := OutP.of hE (hr.sure k y hy) h;have hc : Closed ops listed := fun j hj o' ho' e he => by
    rw [hl] at hj ⊢;simp only [decide_eq_true_eq] at hj ⊢;have := hr.topo j o' ho' e he;omega
   have hkl : k < listed.size := by omega
   have hrd : k ∈ Region.ready .any ops listed := Da.2 ⟨by
    have := hl k; simp [hkl] at this ⊢; exact this, o, ho, fun e he => by
    rw [hl]; simp only [decide_eq_true_eq]; exact hr.topo k o ho e he⟩
   have hap : ∀ j z, l[j]? = some z → listed.getD j false = true → S2 ops j k = false → S2 ops k j = false → Apt z y (τ j) (Od s y) := fun j z hz hlj h1 h2 hcl => by
    rw [hl] at hlj;simp only [decide_eq_true_eq] at hlj;have hcz : Hp z.k ≠ 0 := fun e => by
     unfold K8 at hcl; rw [e] at hcl; simp at hcl
    have hp : j ∈ Abu ops l k := by
     unfold Abu;rw [hy];refine List.mem_filter.2 ⟨List.mem_range.2 hlj, ?_⟩;rw [h1, hz];simpa using hcl
    have := Ad6 hsep j hp;rw [hacc j z hz hlj hcz] at this;exact this
   refine Aa2 hE hr hy fuel listed τ s hc hno hrd hout hap ?_;refine T5 hE hr fuel (k + 1) _ _ _ _ (by omega) (by simp [hsz]) (fun j => ?_) (hno.setP hr hy hkl hrd hout) (fun j z hz hj hcz => ?_) hrest
   · rw [He hkl, hl];by_cases hj : j = k
     · subst hj; simp
     · rw [if_neg hj]; by_cases h' : j < k <;> simp <;> omega
   · by_cases hjk : j = k
     · subst hjk;rw [hz] at hy; cases hy
       skip
       rw [if_pos rfl];unfold Ac9;split
       · rename_i e; exact absurd e hcz
       · simp [lk]
     · skip
       rw [if_neg hjk];have := hacc j z hz (by omega) hcz;unfold Ac9;split
       · exact this
       · simp only [lk]; rw [if_neg hjk]; exact this
theorem Ax3 {ops : Array Oper} {l : List I} (h : Au (ops.toList.map (Lo P N ops)) = some l) (ha : Ai7 ops l = true) : RegP P N ops l (news l) := by
 obtain ⟨h1, h2⟩ := Acj h;simp only [Ai7, Bool.and_eq_true, List.all_eq_true, List.mem_range, decide_eq_true_eq] at ha;obtain ⟨⟨⟨hnd, hsure⟩, hb⟩, hall⟩ := ha;have get : ∀ (j : Nat) (y : I), l[j]? = some y → ∃ o, ops[j]? = some o := fun j y hj => by
  have := (List.getElem?_eq_some_iff.1 hj).1;exact ⟨ops[j]'(by omega), by simp⟩
 refine ⟨h1, h2, hb, fun j y hj => by simpa using hsure y (List.mem_of_getElem? hj), M3 (Ox hnd), fun j o ho e he => ?_, fun j y hy o ho => ?_, fun i j y z hij hy hz => ?_⟩
 · obtain ⟨y, hy, _⟩ := h2 j o ho;have := hall j (List.getElem?_eq_some_iff.1 hy).1;rw [ho, hy] at this;simp only [Bool.and_eq_true, List.all_eq_true, decide_eq_true_eq] at this;exact this.1.1 e he
 · obtain ⟨o', ho'⟩ := get j y hy;have := hall j (List.getElem?_eq_some_iff.1 hy).1;rw [ho', hy] at this;simp only [Bool.and_eq_true, List.all_eq_true, decide_eq_true_eq] at this;exact this.1.2 o ho
 · obtain ⟨o', ho'⟩ := get j z hz;have := hall j (List.getElem?_eq_some_iff.1 hz).1;rw [ho', hz] at this;simp only [Bool.and_eq_true, List.all_eq_true, decide_eq_true_eq, List.mem_range] at this;have h3 := this.2 i hij;rw [hy] at h3;simp only [Bool.or_eq_true] at h3;rcases h3 with h3 | h3
   · exact .inr h3
   · exact .inl (Ado h3)
theorem Yd {Q : C3} (hr : RegP P N ops l D) : ∀ (n : Nat) (listed : Array Bool) (τ : Nat → List Nat) {s a w}, RelX X N s a w → Wa (H1 P r X N).reg D ops l (Q .normal) n listed τ s → wpAnyIn (Gd r) 0 P .any ops (Pu X N Q) n listed a w
 | 0, listed, τ, s, a, w, hR, h => ⟨h.1, s, hR, h.2⟩
 | n + 1, listed, τ, s, a, w, hR, h => by
   refine ⟨fun h0 => ⟨s, hR, h.1 h0⟩, fun j hj => ?_⟩;obtain ⟨i, x, u, hi, ho, _, hrest⟩ := h.2 j hj;obtain ⟨_, o, hoj, _⟩ := Da.1 hj;obtain ⟨i', hi', hins⟩ := hr.ins j o hoj;rw [hi] at hi'; cases hi';obtain ⟨F, hX, ρ, hR⟩ := hR;exact P3 hr.ins hoj hins (.inl rfl) hX hR (Aki (ho.run Acx (K := fun x' u' => x' = x ∧ u' = u) ⟨rfl, rfl⟩)) fun x' u' a' w' hk hR' => by
    obtain ⟨rfl, rfl⟩ := hk;exact Yd hr n _ _ hR' hrest
theorem Yu {id : Nat} {Q : C3} (hm : P.follows .mixedOrders = true) (hr : RegP P N ops l D) (hR : RelX X N s a w) (h : sxP (H1 P r X N).reg (Av3 ops l D 0 l) [] Q (killD D s)) :
 (Code.region id ops true).wpIn (Gd r) 0 P (Pu X N Q) a w := by
 obtain ⟨F, hX, ρ, hR⟩ := hR;have hR' := (hR.killD D).grew (Grew.drawn w (w.drawn + 1));refine wpIn_region_any hm (Yd hr _ _ (fun _ => []) ⟨F, hX, ρ, hR'⟩ ?_);refine T5 Acx hr ops.size 0 _ _ [] _ (by omega) (by simp) (fun j => ?_) (fun k y d hk hun hd hmem => ?_) (fun j y _ hj => absurd hj (Nat.not_lt_zero j)) h
 · rw [Array.getD_eq_getD_getElem?];by_cases hj : j < ops.size <;> simp [hj]
 · exact Tf (.inl hmem)
end Go.Proofs.YthiamojjhdcegaaGreat.Fw
namespace Go.Proofs.YthiamojjhdcegaaGreat.Fw
variable [Th]
open Go.RowKit
variable {P : Program} {F : Fr} {N : Nat} {ρ : Nat → Value} {s : FS} {a : Act} {w w' : World} {V : View} {r : Option Nat} {X : Frs}
theorem Gz {b : Frame} {k : List Item} {cs : List Frame} {c : Code} : step P (lone (b.atR a (.code (.scope c) :: k)) cs w) = .next (lone (b.atR a (.code c :: .inScope c :: k)) cs w) :=
 step_lone_go (by simp [stepG, stepG.exec, Frame.atR])
theorem Yp {b : Frame} {k : List Item} {cs : List Frame} {c : Code} : step P (lone (b.atR a (.inScope c :: k)) cs w) = .next (lone (b.atR a k) cs w) :=
 step_lone_go (by simp [stepG, stepG.exec, Frame.atR])
theorem Pc {G : Fence} {n : Nat} {c : Code} {Q : Exit → Act → World → Prop} (h : c.wpIn G n P (Exit.noGoto Q) a w) : (Code.scope c).wpIn G n P Q a w := by
 intro b k cs hro hb hr;have h0 : (lone (b.atR a (.code (.scope c) :: k)) cs w).fenced P G := fenced_calm hb hr rfl;obtain ⟨e, a₁, w₁, hq, harr⟩ := h b (.inScope c :: k) cs hro hb hr;cases e with
 | normal => exact ⟨.normal, a₁, w₁, hq, .head h0 Gz (StepsIn.trans harr (.one (fenced_calm hb hr rfl) Yp))⟩
 | exit id =>
   have hx : exitTo id (.inScope c :: k) = exitTo id k := by simp [exitTo]
   exact ⟨.exit id, a₁, w₁, hq, fun k' hk => .head h0 Gz (harr.1 k' (by rw [hx]; exact hk)), fun hr' hk => let ⟨k₁, h1, h2⟩ := harr.2 hr' (by rw [hx]; exact hk); ⟨k₁, h1, .head h0 Gz h2⟩⟩
 | goto l => exact hq.elim
 | ret => exact ⟨_, a₁, w₁, hq, .of_steps (.one h0 Gz) harr⟩
 | panic ch => exact ⟨_, a₁, w₁, hq, .of_steps (.one h0 Gz) harr⟩
 | outgrown => exact ⟨_, a₁, w₁, hq, .of_steps (.one h0 Gz) harr⟩
theorem RelR.frzs {s' : FS} (hf : Frzs s s') : ∀ {a : Act} {w : World}, RelR F N ρ s a w → RelR F N ρ s' a w := by
 induction hf with
 | refl s => exact fun h => h
 | step n sz es hn _ ih => exact fun h => ih (h.frz hn).1
theorem Jc {E : Env} {D : List Nat} {l : List (I × Nat × List Nat)} {Q : C3} {s : FS} (h : sxA E l Q (killD D s)) : A7o E D l Q s := ⟨s, .refl s, h⟩
theorem Nd (hm : P.follows .mixedOrders = true) : ∀ {code : Code} {c : C}, Bn P N code = some c → ∀ {Q : C3} {s : FS} {a : Act} {w : World}, sx (H1 P r X N) c Q s → RelX X N s a w → code.wpIn (Gd r) 0 P (Pu X N Q) a w
 | .skip, c, hc, Q, s, a, w, h, hR => by
   simp only [Bn, Option.some.injEq] at hc; subst hc;exact wpIn_skip ⟨s, hR, h⟩
 | .region id ops dr, c, hc, Q, s, a, w, h, hR => by
   simp only [Bn] at hc;split at hc
   · rename_i l hl;obtain ⟨h1, h2⟩ := Acj hl;split at hc
     · rename_i hdr;split at hc
       · rename_i hok;simp only [Option.some.injEq] at hc; subst hc;simp only [hdr];split at h
         · obtain ⟨s', h1, h2⟩ := h;obtain ⟨F, hX, ρ, hR'⟩ := hR;exact Q5 hm (Ark hl hok) ⟨F, hX, ρ, hR'.frzs h1⟩ h2
         · exact Q5 hm (Ark hl hok) hR h
       · split at hc
         · rename_i hok;simp only [Option.some.injEq] at hc; subst hc;simp only [hdr];obtain ⟨s', h1, h2⟩ := h;obtain ⟨F, hX, ρ, hR'⟩ := hR;exact Yu hm (Ax3 hl hok) ⟨F, hX, ρ, hR'.frzs h1⟩ h2
         · cases hc; exact (show False from h).elim
     · rename_i hdr;simp only [Option.some.injEq] at hc; subst hc;have : dr = false := by cases dr <;> simp_all
       subst this;exact wpIn_region (Zn h2 h1 ops.size 0 (by omega) hR h)
   · cases hc; exact (show False from h).elim
 | .seq x y, c, hc, Q, s, a, w, h, hR => by
   simp only [Bn] at hc;split at hc
   · rename_i c1 c2 h1 h2;simp only [Option.some.injEq] at hc; subst hc;refine wpIn_seq (wpIn_mono (Nd hm h1 h hR) fun e a' w' he => ?_);cases e with
     | normal => obtain ⟨s', hR', h'⟩ := he; exact Nd hm h2 h' hR'
     | exit id => exact he
     | ret => exact he
     | goto _ => exact he
     | panic _ => exact he
     | outgrown => exact he
   · cases hc
 | .cond q x y, c, hc, Q, s, a, w, h, hR => by
   simp only [Bn] at hc;split at hc
   · rename_i o c1 c2 h0 h1 h2;simp only [Option.some.injEq] at hc; subst hc;obtain ⟨F, hX, ρ, hR'⟩ := id hR;have hcv := Ah (s := s) (a := a) h0 hR'.tm;simp only [sx] at h;split at h
     · rename_i p hp;rw [hp] at hcv;cases p with
       | true => exact wpIn_cond (Pq hcv) (Nd hm h1 (by simpa using h) hR)
       | false => exact wpIn_cond (Pq hcv) (Nd hm h2 (by simpa using h) hR)
     · exact h.elim
   · cases hc
 | .block id x, c, hc, Q, s, a, w, h, hR => by
   simp only [Bn] at hc;obtain ⟨c1, h1, rfl⟩ := Option.map_eq_some_iff.1 hc;refine wpIn_block (wpIn_mono (Nd hm h1 h hR) fun e a' w' he => ?_);cases e with
   | normal => exact he
   | exit id' =>
     obtain ⟨s', hR', h'⟩ := he;simp only [Uh] at h';simp only [Exit.inBlock];split
     · rename_i e; rw [if_pos e] at h'; exact ⟨s', hR', h'⟩
     · rename_i e; rw [if_neg e] at h'; exact ⟨s', hR', h'⟩
   | ret => exact he
   | goto _ => exact he
   | panic _ => exact he
   | outgrown => exact he
 | .loop x, c, hc, Q, s, a, w, h, hR => by
   simp only [Bn] at hc;obtain ⟨c1, h1, rfl⟩ := Option.map_eq_some_iff.1 hc;exact h x h1 a w hR
 | .exit id, c, hc, Q, s, a, w, h, hR => by
   simp only [Bn, Option.some.injEq] at hc; subst hc;exact wpIn_exit ⟨s, hR, h⟩
 | .ret, c, hc, Q, s, a, w, h, hR => by
   simp only [Bn, Option.some.injEq] at hc; subst hc;exact wpIn_ret ⟨s, hR, h⟩
 | .label _, c, hc, Q, s, a, w, h, hR => by
   simp only [Bn, Option.some.injEq] at hc; subst hc;exact wpIn_label ⟨s, hR, h⟩
 | .goto _, c, hc, Q, s, a, w, h, hR => by
   simp only [Bn, Option.some.injEq] at hc; subst hc;exact (show False from h).elim
 | .rangeFunc g qs x y, c, hc, Q, s, a, w, h, hR => by
   simp only [Bn] at hc;split at hc
   · rename_i o c1 c2 h0 h1 h2;split at hc
     · rename_i hps;simp only [Option.some.injEq] at hc; subst hc;obtain ⟨F, hX, ρ, hR'⟩ := hR;have hcv := Ah (s := s) (a := a) h0 hR'.tm;simp only [sx] at h;generalize s.ev o = z at h hcv;unfold A8s at h;split at h
       · exact h x y g qs h1 h2 rfl (fun p hp => by simpa using List.all_eq_true.1 hps p hp) F ρ a w hX hR' hcv
       · exact h.elim
     · cases hc; exact (show False from h).elim
   · cases hc
 | .refuse _, c, hc, Q, s, a, w, h, hR => by
   simp only [Bn, Option.some.injEq] at hc; subst hc;exact (show False from h).elim
 | .scope x, c, hc, Q, s, a, w, h, hR => by
   simp only [Bn] at hc;refine Pc (wpIn_mono (Nd hm hc h hR) fun e a' w' he => ?_);cases e with
   | normal => exact he
   | exit id => exact he
   | ret => exact he
   | goto _ => exact he
   | panic _ => exact he
   | outgrown => exact he
def Imp (x y : SV) : Prop := ∀ (V : View) (ρ : Nat → Value) (v : Value), Conc V ρ x v → Conc V ρ y v
theorem Imp.refl (x : SV) : Imp x x := fun _ _ _ h => h
theorem Imp.dead (x : SV) : Imp x .dead := fun _ _ _ _ => by simp only [Conc]
def Ap0 : Blk → Blk → Prop
 | .var x, .var y => Imp x y ∧ x.width = y.width
 | .row sz es, .row sz' es' => sz = sz' ∧ es = es'
 | .rowc sz es c, .rowc sz' es' c' => sz = sz' ∧ es = es' ∧ c = c'
 | .rowc sz es _, .row sz' es' => sz = sz' ∧ es = es'
 | .it l p, .it l' p' => l = l' ∧ p = p'
 | _, _ => False
def An6 (o : Option Blk) (b : Blk) : Prop := match o with
 | some b' => Ap0 b' b
 | none => False
structure Weak (s s' : FS) : Prop where
 t : ∀ n, Imp (s.t n) (s'.t n)
 h : ∀ n b', s'.h n = some b' → An6 (s.h n) b'
theorem RelR.weak (h : RelR F N ρ s a w) {s' : FS} (hw : Weak s s') : RelR F N ρ s' a w := by
 have hs : ∀ n b', s'.h n = some b' → ∃ b, s.h n = some b ∧ Ap0 b b' := fun n b' hb => by
  have := hw.h n b' hb;cases hx : s.h n with
  | none => rw [hx] at this; exact this.elim
  | some b => rw [hx] at this; exact ⟨b, rfl, this⟩
 have how : ∀ b, Cb ρ s'.h b → Cb ρ s.h b := fun b ⟨n, x, h1, h2⟩ => by
  obtain ⟨y, h3, _⟩ := hs n x h1;exact ⟨n, y, h3, h2⟩
 have hV : (Am w (F.out ρ s.h)).le (Am w (F.out ρ s'.h)) := Ba fun b c ho hc => ⟨fun hb => ho (hb.imp_left (how b)), hc⟩
 refine ⟨h.fr, fun b hb => h.may b (how b hb), fun n b' hb' => ?_, fun n m x y b hn hm => ?_, fun n => (hw.t n _ _ _ (h.tmps n)).mono hV, h.size, h.defers⟩
 · obtain ⟨b, h1, h2⟩ := hs n b' hb';have ho := (h.own n b h1).congr hV (fun _ _ => rfl);cases b with
   | var x =>
     cases b' with
     | var y =>
       obtain ⟨b, vs, ty, fr, u, g1, g2, g3, g4, g5, g6, g7⟩ := ho;exact ⟨b, vs, ty, fr, u, g1, g2, g3, h2.1 _ _ _ g4, g5, g6.trans h2.2, g7⟩
     | row _ _ => exact h2.elim
     | rowc _ _ _ => exact h2.elim
     | it _ _ => exact h2.elim
   | row sz es =>
     cases b' with
     | var y => exact h2.elim
     | row sz' es' => obtain ⟨rfl, rfl⟩ := h2; exact ho
     | rowc _ _ _ => exact h2.elim
     | it _ _ => exact h2.elim
   | rowc sz es c =>
     cases b' with
     | var y => exact h2.elim
     | row sz' es' => obtain ⟨rfl, rfl⟩ := h2; obtain ⟨base, g⟩ := ho; exact ⟨base, c, g⟩
     | rowc sz' es' c' => obtain ⟨rfl, rfl, rfl⟩ := h2; exact ho
     | it _ _ => exact h2.elim
   | it l p =>
     cases b' with
     | var y => exact h2.elim
     | row _ _ => exact h2.elim
     | rowc _ _ _ => exact h2.elim
     | it l' p' => obtain ⟨rfl, rfl⟩ := h2; exact ho
 · obtain ⟨x', h1, _⟩ := hs n x hn;obtain ⟨y', h2, _⟩ := hs m y hm;exact h.inj n m x' y' b h1 h2
def Afm (s : FS) : List (Nat × SV) → Prop
 | [] => True
 | (n, x) :: l => Imp (s.t n) x ∧ Afm s l
def Ux (s : FS) : List (Nat × Option Blk) → Prop
 | [] => True
 | (n, some b) :: l => An6 (s.h n) b ∧ Ux s l
 | (n, none) :: l => Ux s l
theorem Aqa {T : List (Nat × SV)} {H : List (Nat × Option Blk)} (h1 : Afm s T) (h2 : Ux s H) : Weak s (mk T H) := by
 refine ⟨fun n => ?_, fun n b' hb => ?_⟩
 · simp only [mk]
   induction T with
   | nil => exact Imp.dead _
   | cons p l ih =>
     obtain ⟨j, x⟩ := p;simp only [Afm] at h1;simp only [lk];split
     · rename_i e; subst e; exact h1.1
     · exact ih h1.2
 · simp only [mk] at hb
   induction H with
   | nil => simp [lk] at hb
   | cons p l ih =>
     obtain ⟨j, x⟩ := p;cases x with
     | none =>
       simp only [Ux] at h2;simp only [lk] at hb;split at hb
       · cases hb
       · exact ih h2 hb
     | some c =>
       simp only [Ux] at h2;simp only [lk] at hb;split at hb
       · rename_i e; subst e; cases hb; exact h2.1
       · exact ih h2.2 hb
mutual
def SV.ren (n m : Nat) : SV → SV
 | .p k o => if k = n then .p m o else if k = m then .dead else .p k o
 | .ps k o => if k = n then .ps m o else if k = m then .dead else .ps k o
 | .pr k z i o => if k = n then .pr m z i o else if k = m then .dead else .pr k z i o
 | .os k => if k = n then .os m else if k = m then .dead else .os k
 | .ov k z a b => if k = n then .ov m z a b else if k = m then .dead else .ov k z a b
 | .agg l => .agg (SV.renL n m l)
 | .tup l => .tup (SV.renL n m l)
 | .fn f l => .fn f (SV.renL n m l)
 | x => x
def SV.renL (n m : Nat) : List SV → List SV
 | [] => []
 | x :: l => SV.ren n m x :: SV.renL n m l
end
def Blk.ren (n m : Nat) : Blk → Blk
 | .var x => .var (x.ren n m)
 | b => b
mutual
theorem Se (n m : Nat) : ∀ x : SV, (x.ren n m).width = x.width
 | .pv x => by simp only [SV.ren]
 | .vec k cs => by simp only [SV.ren]
 | .agg l => by simp only [SV.ren, SV.width]; exact Vz n m l
 | .tup l => by simp only [SV.ren, SV.width]
 | .p k off => by simp only [SV.ren]; split <;> (try split) <;> simp only [SV.width]
 | .ps k off => by simp only [SV.ren]; split <;> (try split) <;> simp only [SV.width]
 | .pr k sz i off => by simp only [SV.ren]; split <;> (try split) <;> simp only [SV.width]
 | .pi sz es i off => by simp only [SV.ren]
 | .os k => by simp only [SV.ren]; split <;> (try split) <;> simp only [SV.width]
 | .ov k z a b => by simp only [SV.ren]; split <;> (try split) <;> simp only [SV.width]
 | .fn f cap => by simp only [SV.ren, SV.width]
 | .dead => by simp only [SV.ren]
theorem Vz (n m : Nat) : ∀ l : List SV, SV.widthL (SV.renL n m l) = SV.widthL l
 | [] => by simp only [SV.renL]
 | x :: l => by simp only [SV.renL, SV.widthL, Se n m x, Vz n m l]
end
mutual
theorem Conc.ren {ρ : Nat → Value} {n m : Nat} : ∀ {x : SV} {v}, Conc V ρ x v → Conc V (upd ρ m (ρ n)) (x.ren n m) v
 | .pv x, v, h => by simp only [SV.ren, Conc] at *; exact h
 | .vec k cs, v, h => by simp only [SV.ren, Conc] at *; exact h
 | .agg l, v, h => by simp only [SV.ren, Conc] at *; obtain ⟨vs, a, b⟩ := h; exact ⟨vs, a, Cells.ren b⟩
 | .tup l, v, h => by simp only [SV.ren, Conc] at *; obtain ⟨vs, a, b⟩ := h; exact ⟨vs, a, ConcL.ren b⟩
 | .p k off, v, h => by
   simp only [SV.ren]; split
   · rename_i e; subst e; simp only [Conc, Az] at *; exact h
   · split
     · simp only [Conc]
     · rename_i hn; simp only [Conc] at *; rw [Bv hn]; exact h
 | .ps k off, v, h => by
   simp only [SV.ren]; split
   · rename_i e; subst e; simp only [Conc, Az] at *; exact h
   · split
     · simp only [Conc]
     · rename_i hn; simp only [Conc] at *; rw [Bv hn]; exact h
 | .pr k sz i off, v, h => by
   simp only [SV.ren]; split
   · rename_i e; subst e; simp only [Conc, Az] at *; exact h
   · split
     · simp only [Conc]
     · rename_i hn; simp only [Conc] at *; rw [Bv hn]; exact h
 | .pi sz es i off, v, h => by simp only [SV.ren, Conc] at *; exact h
 | .os k, v, h => by
   simp only [SV.ren]; split
   · rename_i e; subst e; simp only [Conc, Az] at *; exact h
   · split
     · simp only [Conc]
     · rename_i hn; simp only [Conc] at *; rw [Bv hn]; exact h
 | .ov k z lo hi, v, h => by
   simp only [SV.ren]; split
   · rename_i e; subst e; simp only [Conc, Az] at *; exact h
   · split
     · simp only [Conc]
     · rename_i hn; simp only [Conc] at *; rw [Bv hn]; exact h
 | .fn f cap, v, h => by simp only [SV.ren, Conc] at *; obtain ⟨vs, a, b⟩ := h; exact ⟨vs, a, ConcL.ren b⟩
 | .dead, v, h => by simp only [SV.ren, Conc]
theorem ConcL.ren {ρ : Nat → Value} {n m : Nat} : ∀ {l : List SV} {vs}, ConcL V ρ l vs → ConcL V (upd ρ m (ρ n)) (SV.renL n m l) vs
 | [], vs, h => by simp only [SV.renL, ConcL] at *; exact h
 | x :: l, vs, h => by simp only [SV.renL, ConcL] at *; obtain ⟨u, us, a, b, c⟩ := h; exact ⟨u, us, a, Conc.ren b, ConcL.ren c⟩
theorem Cells.ren {ρ : Nat → Value} {n m : Nat} : ∀ {l : List SV} {vs}, Cells V ρ l vs → Cells V (upd ρ m (ρ n)) (SV.renL n m l) vs
 | [], vs, h => by simp only [SV.renL, Cells] at *; exact h
 | x :: l, vs, h => by
   simp only [SV.renL, Cells] at *;obtain ⟨u, us, a, b, c, d, e⟩ := h;exact ⟨u, us, a, Conc.ren b, by rw [Se]; exact c, d, Cells.ren e⟩
end
def FS.ren (s : FS) (n m : Nat) : FS := ⟨fun k => (s.t k).ren n m, fun k => if k = m then (s.h n).map (Blk.ren n m) else if k = n then none else (s.h k).map (Blk.ren n m)⟩
theorem RelR.ren (h : RelR F N ρ s a w) {n m : Nat} (hne : n ≠ m) (hm : s.h m = none) : RelR F N (Fw.upd ρ m (ρ n)) (s.ren n m) a w := by
 have hh : ∀ k x, (s.ren n m).h k = some x → ∃ k' y, s.h k' = some y ∧ x = y.ren n m ∧ Fw.upd ρ m (ρ n) k = ρ k' ∧ k' = (if k = m then n else k) ∧ (k ≠ m → k ≠ n) := fun k x hx => by
  simp only [FS.ren] at hx;split at hx
  · rename_i e;obtain ⟨y, h1, h2⟩ := Option.map_eq_some_iff.1 hx;exact ⟨n, y, h1, h2.symm, by rw [e, Az], by rw [if_pos e], fun h => absurd e h⟩
  · rename_i e;split at hx
    · cases hx
    · rename_i e2;obtain ⟨y, h1, h2⟩ := Option.map_eq_some_iff.1 hx;exact ⟨k, y, h1, h2.symm, Bv e, by rw [if_neg e], fun _ => e2⟩
 have how : ∀ b, Cb (Fw.upd ρ m (ρ n)) (s.ren n m).h b ↔ Cb ρ s.h b := fun b => by
  constructor
  · rintro ⟨k, x, h1, h2⟩;obtain ⟨k', y, h3, _, h4, _⟩ := hh k x h1;exact ⟨k', y, h3, by rw [← h4]; exact h2⟩
  · rintro ⟨k, x, h1, h2⟩;by_cases e : k = n
    · subst e; exact ⟨m, x.ren k m, by simp [FS.ren, h1], by rw [Az]; exact h2⟩
    · have e2 : k ≠ m := fun e2 => by subst e2; rw [hm] at h1; cases h1
      exact ⟨k, x.ren n m, by simp [FS.ren, e, e2, h1], by rw [Bv e2]; exact h2⟩
 have hV : Am w (F.out (Fw.upd ρ m (ρ n)) (s.ren n m).h) = Am w (F.out ρ s.h) := by
  congr 1;funext b;exact propext (or_congr_left (how b))
 refine ⟨h.fr, fun b hb => h.may b ((how b).1 hb), fun k x hx => ?_, fun k l x y b hk hl hbk hbl => ?_, fun k => by rw [hV]; exact (h.tmps k).ren, h.size, h.defers⟩
 · obtain ⟨k', y, h1, rfl, h2, _⟩ := hh k x hx;rw [hV];have ho := h.own k' y h1;cases y with
   | var x =>
     obtain ⟨b, vs, ty, fr, u, g1, g2, g3, g4, g5, g6, g7⟩ := ho;exact ⟨b, vs, ty, fr, u, by rw [h2]; exact g1, g2, g3, g4.ren, g5, by rw [Se]; exact g6, g7⟩
   | row sz es =>
     obtain ⟨base, cap, g1, g2⟩ := ho;exact ⟨base, cap, by rw [h2]; exact g1, g2⟩
   | rowc sz es c =>
     obtain ⟨base, g1, g2⟩ := ho;exact ⟨base, by rw [h2]; exact g1, g2⟩
   | it l p =>
     obtain ⟨b, g1, g2⟩ := ho;exact ⟨b, by rw [h2]; exact g1, g2⟩
 · obtain ⟨k', y1, h1, _, h2, h3, h4⟩ := hh k x hk;obtain ⟨l', y2, g1, _, g2, g3, g4⟩ := hh l y hl;have := h.inj k' l' y1 y2 b h1 g1 (by rw [← h2]; exact hbk) (by rw [← g2]; exact hbl);rw [h3, g3] at this;by_cases e1 : k = m <;> by_cases e2 : l = m
   · rw [e1, e2]
   · rw [if_pos e1, if_neg e2] at this; exact absurd this.symm (g4 e2)
   · rw [if_neg e1, if_pos e2] at this; exact absurd this (h4 e1)
   · rw [if_neg e1, if_neg e2] at this; exact this
theorem RelR.nilrow (h : RelR F N ρ s a w) {t n z sz : Nat} (ht : s.t t = .pv (.sl true z [])) (hs : 0 < sz) : ∃ ρ', RelR F N ρ' (((s.kill n).seth n (some (.row sz []))).set t (.os n)) a w := by
 have hc := h.tmps t;rw [ht] at hc;simp only [Conc] at hc;have hv : ∃ base, F.val a t = .slice base 0 0 := by
  generalize F.val a t = v at hc;cases hc with
  | sl full sz es b cap cs bl off arr hcap hfull hsz ha hcs hel =>
    have := hfull rfl;simp at this;subst this;exact ⟨b, rfl⟩
 obtain ⟨base, hv⟩ := hv;obtain ⟨hR, hV⟩ := h.adopt (Grew.refl w) n (.row sz []) (.slice base 0 0) (fun b hb => by cases base <;> simp [Cf] at hb) fun hV => ⟨base, 0, by rw [Az]; rfl, Nat.le_refl _, hs, by simp, fun h => absurd rfl h⟩
 refine ⟨_, hR.fr, hR.may, hR.own, hR.inj, fun k => ?_, hR.size, hR.defers⟩;simp only [FS.set];by_cases hk : k = t
 · subst hk;simp only [if_true, Conc, Az];exact ⟨hv, by rw [hv]; trivial⟩
 · simp only [hk, if_false]; exact hR.tmps k
mutual
def SV.frzv (n : Nat) (sz : Nat) (cs : List PV) : SV → SV
 | .p m o => if n = m then .pi sz [cs] 0 o else .p m o
 | .ps m o => if n = m then .pi sz [cs] 0 o else .ps m o
 | .agg l => .agg (SV.frzvL n sz cs l)
 | .tup l => .tup (SV.frzvL n sz cs l)
 | .fn f l => .fn f (SV.frzvL n sz cs l)
 | x => x
def SV.frzvL (n : Nat) (sz : Nat) (cs : List PV) : List SV → List SV
 | [] => []
 | x :: l => SV.frzv n sz cs x :: SV.frzvL n sz cs l
end
def Blk.frzv (n : Nat) (sz : Nat) (cs : List PV) : Blk → Blk
 | .var x => .var (x.frzv n sz cs)
 | b => b
def FS.frzv (s : FS) (n : Nat) (sz : Nat) (cs : List PV) : FS := ⟨fun m => (s.t m).frzv n sz cs, fun m => if m = n then none else (s.h m).map (Blk.frzv n sz cs)⟩
mutual
theorem Pw (n sz : Nat) (cs : List PV) : ∀ x : SV, (x.frzv n sz cs).width = x.width
 | .pv x => by simp only [SV.frzv]
 | .vec m cs => by simp only [SV.frzv]
 | .agg l => by simp only [SV.frzv, SV.width]; exact T3 n sz cs l
 | .tup l => by simp only [SV.frzv, SV.width]
 | .p m off => by simp only [SV.frzv]; split <;> simp only [SV.width]
 | .ps m off => by simp only [SV.frzv]; split <;> simp only [SV.width]
 | .pr m sz i off => by simp only [SV.frzv]
 | .pi sz es i off => by simp only [SV.frzv]
 | .os m => by simp only [SV.frzv]
 | .ov m z a b => by simp only [SV.frzv]
 | .fn f cap => by simp only [SV.frzv, SV.width]
 | .dead => by simp only [SV.frzv]
theorem T3 (n sz : Nat) (cs : List PV) : ∀ l : List SV, SV.widthL (SV.frzvL n sz cs l) = SV.widthL l
 | [] => by simp only [SV.frzvL]
 | x :: l => by simp only [SV.frzvL, SV.widthL, Pw n sz cs x, T3 n sz cs l]
end
mutual
theorem Conc.frzv {V V' : View} (hV : V.le V') {ρ : Nat → Value} {n sz : Nat} {cs : List PV} (hp : ∀ off v, Conc V ρ (.p n off) v → Conc V' ρ (.pi sz [cs] 0 off) v) : ∀ {x : SV} {v}, Conc V ρ x v → Conc V' ρ (x.frzv n sz cs) v
 | .pv x, v, h => by simp only [SV.frzv]; exact h.mono hV
 | .vec m cs, v, h => by simp only [SV.frzv]; exact h.mono hV
 | .agg l, v, h => by simp only [SV.frzv, Conc] at *; obtain ⟨vs, a, b⟩ := h; exact ⟨vs, a, Cells.frzv hV hp b⟩
 | .tup l, v, h => by simp only [SV.frzv, Conc] at *; obtain ⟨vs, a, b⟩ := h; exact ⟨vs, a, ConcL.frzv hV hp b⟩
 | .p m off, v, h => by
   simp only [SV.frzv]; split
   · rename_i e; subst e; exact hp _ _ h
   · exact h.mono hV
 | .ps m off, v, h => by
   simp only [SV.frzv]; split
   · rename_i e; subst e; exact hp _ _ (by simpa only [Conc] using h)
   · exact h.mono hV
 | .pr m sz i off, v, h => by simp only [SV.frzv]; exact h.mono hV
 | .pi sz es i off, v, h => by simp only [SV.frzv]; exact h.mono hV
 | .ov m z lo hi, v, h => by simp only [SV.frzv]; exact h.mono hV
 | .os m, v, h => by simp only [SV.frzv]; exact h.mono hV
 | .fn f cap, v, h => by simp only [SV.frzv, Conc] at *; obtain ⟨vs, a, b⟩ := h; exact ⟨vs, a, ConcL.frzv hV hp b⟩
 | .dead, v, h => by simp only [SV.frzv, Conc]
theorem ConcL.frzv {V V' : View} (hV : V.le V') {ρ : Nat → Value} {n sz : Nat} {cs : List PV} (hp : ∀ off v, Conc V ρ (.p n off) v → Conc V' ρ (.pi sz [cs] 0 off) v) : ∀ {l : List SV} {vs}, ConcL V ρ l vs → ConcL V' ρ (SV.frzvL n sz cs l) vs
 | [], vs, h => by simp only [SV.frzvL, ConcL] at *; exact h
 | x :: l, vs, h => by simp only [SV.frzvL, ConcL] at *; obtain ⟨u, us, a, b, c⟩ := h; exact ⟨u, us, a, Conc.frzv hV hp b, ConcL.frzv hV hp c⟩
theorem Cells.frzv {V V' : View} (hV : V.le V') {ρ : Nat → Value} {n sz : Nat} {cs : List PV} (hp : ∀ off v, Conc V ρ (.p n off) v → Conc V' ρ (.pi sz [cs] 0 off) v) : ∀ {l : List SV} {vs}, Cells V ρ l vs → Cells V' ρ (SV.frzvL n sz cs l) vs
 | [], vs, h => by simp only [SV.frzvL, Cells] at *; exact h
 | x :: l, vs, h => by
   simp only [SV.frzvL, Cells] at *;obtain ⟨u, us, a, b, c, d, e⟩ := h;exact ⟨u, us, a, Conc.frzv hV hp b, by rw [Pw]; exact c, d, Cells.frzv hV hp e⟩
end
theorem A2j (hR : RelR F N ρ s a w) {n : Nat} {x : SV} {cs : List PV} (hn : s.h n = some (.var x)) (hcs : x.cells? = some cs) {V' : View} (hV' : (vw F w ρ (s.seth n none)).le V') (off : Nat) (v : Value)
 (h : Conc (vw F w ρ s) ρ (.p n off) v) : Conc V' ρ (.pi x.width [cs] 0 off) v := by
 simp only [Conc] at h ⊢;obtain ⟨b, hb, rfl⟩ := h;obtain ⟨b', vs, ty, fr, u, k1, k2, k3, k4, k5, k6, k7⟩ := hR.own n _ hn;rw [k1] at hb;simp only [Value.pointer.injEq, Option.some.injEq, Addr.mk.injEq, and_true] at hb;subst hb;have hp := Conc.cells k4 hcs;refine ⟨b', 0, ⟨vs⟩, by simp, hV' b' ⟨vs⟩ ?_, fun c hc => ?_⟩
 · unfold vw Am;rw [if_neg]
   · exact Mw k2 k3
   · rintro (⟨m, y, g1, g2⟩ | g)
     · simp only [FS.seth] at g1;split at g1
       · cases g1
       · rename_i hm;exact hm (hR.inj m n y _ b' g1 hn g2 (by rw [k1]; rfl))
     · exact hR.shown ⟨n, _, hn, by rw [k1]; rfl⟩ g
 · simp only [List.getElem?_cons_zero, Option.some.injEq] at hc;subst hc;have hl : cs.length = x.width := by rw [hp.1, ← k5]; exact k6
   refine ⟨hl, ?_⟩;have e : (vs.drop (0 + 0 * x.width)).take x.width = vs := by simp [k6 ▸ List.take_length]
   rw [e, k5];exact (hp.mono (hR.del n).2).mono hV'
theorem RelR.frzv (hR : RelR F N ρ s a w) {n : Nat} {x : SV} {cs : List PV} (hn : s.h n = some (.var x)) (hcs : x.cells? = some cs) : RelR F N ρ (s.frzv n x.width cs) a w := by
 have how : ∀ b, Cb ρ (s.frzv n x.width cs).h b ↔ Cb ρ (s.seth n none).h b := fun b => by
  constructor
  · rintro ⟨m, y, h1, h2⟩;simp only [FS.frzv] at h1;split at h1
    · cases h1
    · rename_i e;obtain ⟨z, hz, _⟩ := Option.map_eq_some_iff.1 h1;exact ⟨m, z, by simp only [FS.seth, e, if_false]; exact hz, h2⟩
  · rintro ⟨m, y, h1, h2⟩;simp only [FS.seth] at h1;split at h1
    · cases h1
    · rename_i e; exact ⟨m, y.frzv n x.width cs, by simp [FS.frzv, e, h1], h2⟩
 have hVeq : vw F w ρ (s.frzv n x.width cs) = vw F w ρ (s.seth n none) := by
  show Am w _ = Am w _;congr 1;funext b;exact propext (or_congr_left (how b))
 obtain ⟨hR1, hV⟩ := hR.del n;have hV' : (vw F w ρ s).le (vw F w ρ (s.frzv n x.width cs)) := by rw [hVeq]; exact hV
 have hp := fun off v h => A2j hR hn hcs (V' := vw F w ρ (s.frzv n x.width cs)) (by rw [hVeq]; exact fun _ _ h => h) off v h;have hh : ∀ m y, (s.frzv n x.width cs).h m = some y → ∃ z, s.h m = some z ∧ y = z.frzv n x.width cs ∧ m ≠ n := fun m y hy => by
  simp only [FS.frzv] at hy;split at hy
  · cases hy
  · rename_i e;obtain ⟨z, h1, h2⟩ := Option.map_eq_some_iff.1 hy;exact ⟨z, h1, h2.symm, e⟩
 refine ⟨hR.fr, fun b hb => hR1.may b ((how b).1 hb), fun m y hy => ?_, fun m k y z b hm hk => ?_, fun m => (hR.tmps m).frzv hV' hp, hR.size, hR.defers⟩
 · obtain ⟨z, h1, rfl, hne⟩ := hh m y hy;have ho := hR.own m z h1;cases z with
   | var z =>
     obtain ⟨b, vs, ty, fr, u, g1, g2, g3, g4, g5, g6, g7⟩ := ho;exact ⟨b, vs, ty, fr, u, g1, g2, g3, g4.frzv hV' hp, g5, by rw [Pw]; exact g6, g7⟩
   | row sz es => exact ho.congr hV' (fun _ _ => rfl)
   | rowc sz es c => exact ho.congr hV' (fun _ _ => rfl)
   | it l p => exact ho.congr hV' (fun _ _ => rfl)
 · obtain ⟨y', h1, _⟩ := hh m y hm;obtain ⟨z', h2, _⟩ := hh k z hk;exact hR.inj m k y' z' b h1 h2
theorem RelR.nilvar (h : RelR F N ρ s a w) {m n z sz : Nat} (hm : s.h m = some (.var (.pv (.sl true z [])))) (hmn : m ≠ n) (hs : 0 < sz) : ∃ ρ', RelR F N ρ' (((s.kill n).seth n (some (.row sz []))).seth m (some (.var (.os n)))) a w := by
 obtain ⟨b, vs, ty, fr, u, g1, g2, g3, g4, g5, g6, g7⟩ := h.own m _ hm;simp only [Conc] at g4;have hv : ∃ base, u = .slice base 0 0 := by
  cases g4 with
  | sl full sz es b cap cs bl off arr hcap hfull hsz ha hcs hel =>
    have := hfull rfl;simp at this;subst this;exact ⟨b, rfl⟩
 obtain ⟨base, rfl⟩ := hv;obtain ⟨hR, hV⟩ := h.adopt (Grew.refl w) n (.row sz []) (.slice base 0 0) (fun b hb => by cases base <;> simp [Cf] at hb) fun hV => ⟨base, 0, by rw [Az]; rfl, Nat.le_refl _, hs, by simp, fun h => absurd rfl h⟩
 have hm2 : ((s.kill n).seth n (some (.row sz []))).h m = some (.var (.pv (.sl true z []))) := by
  simp only [FS.seth, FS.kill];rw [if_neg hmn, hm]; rfl
 exact ⟨_, hR.redesc hm2 ⟨b, vs, ty, fr, .slice base 0 0, by rw [Bv hmn]; exact g1, g2, g3, by simp [Conc, Az, A3], g5, g6, g7⟩⟩
inductive Wk : FS → FS → Prop where
 | weak {s s' : FS} (h : Weak s s') : Wk s s'
 | ren {s s' : FS} (n m : Nat) (hne : n ≠ m) (hm : s.h m = none) (h : Wk (s.ren n m) s') : Wk s s'
 | frz {s s' : FS} (n sz : Nat) (es : List (List PV)) (hn : s.h n = some (.row sz es)) (h : Wk (s.frz n (.sl false sz es)) s') : Wk s s'
 | frzv {s s' : FS} (n : Nat) (x : SV) (cs : List PV) (hn : s.h n = some (.var x)) (hc : x.cells? = some cs) (h : Wk (s.frzv n x.width cs) s') : Wk s s'
 | nilv {s s' : FS} (m n z sz : Nat) (hm : s.h m = some (.var (.pv (.sl true z [])))) (hmn : m ≠ n) (hs : 0 < sz) (h : Wk (((s.kill n).seth n (some (.row sz []))).seth m (some (.var (.os n)))) s') : Wk s s'
 | nil {s s' : FS} (t n z sz : Nat) (ht : s.t t = .pv (.sl true z [])) (hs : 0 < sz) (h : Wk (((s.kill n).seth n (some (.row sz []))).set t (.os n)) s') : Wk s s'
theorem RelX.wk0 {s' : FS} (h : ∀ {F : Fr}, Rel F N s a w → Rel F N s' a w) : RelX X N s a w → RelX X N s' a w := fun ⟨F, hX, hR⟩ => ⟨F, hX, h hR⟩
theorem Rel.wk {s' : FS} (hw : Wk s s') : ∀ {a : Act} {w : World}, Rel F N s a w → Rel F N s' a w := by
 induction hw with
 | weak h => exact fun ⟨ρ, hR⟩ => ⟨ρ, hR.weak h⟩
 | ren n m hne hm _ ih => exact fun ⟨ρ, hR⟩ => ih ⟨_, hR.ren hne hm⟩
 | nil t n z sz ht hs _ ih => exact fun ⟨ρ, hR⟩ => ih (hR.nilrow ht hs)
 | nilv m n z sz hm hmn hs _ ih => exact fun ⟨ρ, hR⟩ => ih (hR.nilvar hm hmn hs)
 | frz n sz es hn _ ih => exact fun ⟨ρ, hR⟩ => ih ⟨ρ, (hR.frz hn).1⟩
 | frzv n x cs hn hc _ ih => exact fun ⟨ρ, hR⟩ => ih ⟨ρ, hR.frzv hn hc⟩
theorem RelX.wk {s' : FS} (hw : Wk s s') {a : Act} {w : World} (h : RelX X N s a w) : RelX X N s' a w := RelX.wk0 (fun h => h.wk hw) h
theorem Atg {T : Nat → Prop} (h : ∃ n, T n) : ∃ n, T n ∧ ∀ m, T m → n ≤ m := by
 obtain ⟨n, hn⟩ := h
 induction n using Nat.strongRecOn with
 | _ n ih =>
   by_cases hx : ∃ m, m < n ∧ T m
   · obtain ⟨m, h1, h2⟩ := hx; exact ih m h1 h2
   · refine ⟨n, hn, fun m hm => ?_⟩;rcases Nat.lt_or_ge m n with h | h
     · exact absurd ⟨m, h, hm⟩ hx
     · exact h
theorem Ak {T : List (Nat × SV)} {H : List (Nat × Option Blk)} (h1 : Afm s T) (h2 : Ux s H) : Wk s (mk T H) := .weak (Aqa h1 h2)
def Akx {α : Type} (I : α → FS) (J : α → Prop) (m : α → Nat) (x : α) (Q : C3) : C3
 | .normal, s => ∃ y, J y ∧ m y < m x ∧ Wk s (I y)
 | e, s => Q e s
theorem A0 (hm : P.follows .mixedOrders = true) {α : Type} (I : α → FS) (J : α → Prop) (m : α → Nat) (x₀ : α) {c : C} {Q : C3} (h0 : J x₀) (hw : Wk s (I x₀))
 (hround : ∀ x, J x → sx (H1 P r X N) c (Akx I J m x Q) (I x)) : (H1 P r X N).loop c Q s := by
 intro code hc a w hR
 classical
 let T : Act → World → Nat → Prop := fun a w n => ∃ x, J x ∧ RelX X N (I x) a w ∧ m x = n
 let μ : Act → World → Nat := fun a w => if h : ∃ n, T a w n then (Atg h).choose else 0
 refine wpIn_loop (fun a w => ∃ x, J x ∧ RelX X N (I x) a w) μ ⟨x₀, h0, hR.wk hw⟩ fun a w ⟨x, hJ, hRx⟩ => ?_;have hex : ∃ n, T a w n := ⟨m x, x, hJ, hRx, rfl⟩
 obtain ⟨⟨x', hJ', hR', hmx⟩, _⟩ := (Atg hex).choose_spec;have hμ : μ a w = m x' := by simp only [μ, dif_pos hex]; exact hmx.symm
 refine wpIn_mono (Nd hm hc (hround x' hJ') hR') fun e a' w' he => ?_;cases e with
 | normal =>
   obtain ⟨s', hs', y, hJy, hlt, hwk⟩ := he;have hy : T a' w' (m y) := ⟨y, hJy, hs'.wk hwk, rfl⟩
   refine ⟨⟨y, hJy, hs'.wk hwk⟩, ?_⟩;have hex' : ∃ n, T a' w' n := ⟨_, hy⟩
   have : μ a' w' ≤ m y := by simp only [μ, dif_pos hex']; exact (Atg hex').choose_spec.2 _ hy
   omega
 | exit id => exact he
 | ret => exact he
 | goto _ => exact he
 | panic _ => exact he
 | outgrown => exact he
end Go.Proofs.YthiamojjhdcegaaGreat.Fw
