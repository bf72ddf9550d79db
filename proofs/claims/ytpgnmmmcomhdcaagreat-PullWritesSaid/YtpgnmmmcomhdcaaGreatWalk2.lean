/- What the functions compute that the laws of this seat Zc. -/
import Derived.Test.YtpgnmmmcomhdcaaGreatWalk1
import Derived.OpenShut
import Derived.ShutString
import Derived.ChangeOld
import Derived.SizedLaws
import Derived.ChangeOld
import Derived.Lib.Bytealg
import Derived.OpenShut
import Derived.ShutString
import Derived.SizedLaws
set_option linter.unusedVariables false
set_option linter.unusedSimpArgs false
set_option linter.unusedSectionVars false
set_option maxRecDepth 100000
namespace Go.Proofs.YtpgnmmmcomhdcaaGreat.Fw
open Go.RowKit Go.Proofs
def Wd (e : Evt) (k : Nat) : FS := mk [(3, .pv (.i .i64 k)), (1, .p 1 0)] [(1, some (.var (.vec 21 (B9 e))))]
theorem At9 {a b : Nat} (ha : a < 4294967296) (hb : 1 ≤ b ∧ b ≤ 1048576) (h : ¬ a + 1 = b) : ¬ IntKind.u32.wrap ((a : Int) + 1) = (b : Int) := by
 by_cases h1 : a + 1 < 4294967296
 · rw [Nv (by omega)]; omega
 · have : (a : Int) + 1 = 4294967296 := by omega
   rw [this];have : IntKind.u32.wrap 4294967296 = 0 := by decide
   rw [this]; omega
set_option maxHeartbeats 40000000 in
theorem Akm (e : Evt) (he : ev e) (hdep : ∀ i, i < 8 → e.dep i < 4294967296) {h d} : FunOk Tryz.prog 25 [.vec 21 (B9 e)] h d (.pv (.b (A4 e))) [] := by
 refine Aq Ao fn25 (by simp) rfl rfl fun F => ?_;have hl := Ac e;obtain ⟨hg, hb, hgn, hbn, hdl⟩ := he;by_cases r1 : e.rep < 1
 · have eb := C8 (e := e) fun h => by have := h.1; omega
   simp (disch := omega) only [ir25, E2, r1, eb, go_sem]
 by_cases r2 : 8 < e.rep
 · have eb := C8 (e := e) fun h => by have := h.2.1; omega
   simp (disch := omega) only [ir25, E2, r1, r2, eb, go_sem]
 by_cases r3 : (e.seq : Int) < 1
 · have eb := C8 (e := e) fun h => by have := h.2.2.1; omega
   simp (disch := omega) only [ir25, E2, Fv, r1, r2, r3, eb, go_sem]
 by_cases r4 : 1048576 < (e.seq : Int)
 · have eb := C8 (e := e) fun h => by have := h.2.2.2.1; omega
   simp (disch := omega) only [ir25, E2, Fv, r1, r2, r3, r4, eb, go_sem]
 obtain ⟨k, hk⟩ : ∃ k : Nat, e.rep = (k : Int) + 1 := ⟨(e.rep - 1).toNat, by omega⟩
 have hk8 : k < 8 := by omega
 have ekn : (e.rep - 1).toNat = k := by omega
 have egv : Kl e.dep ((k : Int) + 1) = e.dep k := by
  have e1 : ((k : Int) + 1 - 1).toNat = k := by omega
  simp [Kl, e1]; omega
 have hdk := hdep k hk8;by_cases r5 : e.dep k + 1 = e.seq;rotate_left
 · have eb := C8 (e := e) fun h => by have := h.2.2.2.2.1; rw [ekn] at this; omega
   have hw := At9 hdk (by omega) r5;simp (disch := omega) only [ir25, E2, Fv, K8, Dq, hk, r3, r4, eb, go_sem];refine Aa (Ach _ _) ?_;simp (disch := omega) only [egv, hw, Fv, eb, go_sem]
 have r5' : (e.dep k : Int) + 1 = (e.seq : Int) := by omega
 simp (disch := omega) only [ir25, E2, Fv, K8, Dq, hk, r3, r4, go_sem];refine Aa (Ach _ _) ?_;simp (disch := omega) only [egv, r5', Fv, go_sem];refine A2 Ao (Wd e) (fun k => k ≤ 8 ∧ ∀ i, i < k → e.dep i ≤ 1048576) (fun k => 8 - k) 0 (by simp) (Au ?_ ?_) fun j hj => ?_
 · simp (disch := omega) only [go_sem]
 · simp (disch := omega) only [go_sem]
 obtain ⟨hj1, hj2⟩ := hj;by_cases hlt : j < 8
 · by_cases hd : 1048576 < (e.dep j : Int)
   · have eb := Pe (e := e) fun h => by have := h j hlt; omega
     simp (disch := omega) only [Wd, Fu, hd, eb, go_sem]
   · simp (disch := omega) only [Wd, Fu, hd, go_sem];refine Az (j + 1) _ _ rfl ⟨by omega, fun i hi => ?_⟩ (by omega) ?_ ?_
     · by_cases e : i = j
       · subst e; omega
       · exact hj2 i (by omega)
     · simp (disch := omega) only [go_sem]
     · simp (disch := omega) only [go_sem]
 obtain rfl : j = 8 := by omega
 have hD : Kb e := hj2;simp (disch := omega) only [Wd, Ac, go_sem];refine Aa (Px _ _ _) ?_;simp (disch := omega) only [Ac, go_sem];refine Aa (Ap _ _) ?_;by_cases hz' : Bo e.drep e.dseq = false
 all_goals first
  | (have hpl : Bv e = Cg e.dep e.drep e.dseq := by simp only [Bv, hz', Bool.false_or]
     simp (disch := omega) only [hz', go_sem];refine Aa (Px _ _ _) ?_)
  | (have hz : Bo e.drep e.dseq = true := by simpa using hz'
     have hpl : Bv e = true := by simp only [Bv, hz, Bool.true_or]
     simp (disch := omega) only [hz, go_sem])
 all_goals by_cases hgl0 : (e.gone.l.length : Int) ≤ 8
 all_goals first
  | (have hgl : Dm e.gone.l 8 e.dep = E8 e.dep e.gone.l := by simp only [Dm, hgl0, decide_true, Bool.true_and]
     (try simp only [Ek, Ej, Ei, Eh, Eg, Ef, Ee, Ed]); simp (disch := omega) only [hgl0, go_sem]
     refine Aa (Ake (l := e.gone.l) hg hgn) ?_;simp (disch := omega) only [hgl0, go_sem])
  | (have hgl : Dm e.gone.l 8 e.dep = false := by simp only [Dm, hgl0, decide_false, Bool.false_and]
     (try simp only [Ek, Ej, Ei, Eh, Eg, Ef, Ee, Ed]); simp (disch := omega) only [hgl0, go_sem])
 all_goals refine Aa (Ake (l := e.base.l) hb hbn) ?_
 all_goals by_cases ho1 : 0 ≤ e.off
 rotate_left
 all_goals by_cases ho2 : e.off ≤ 200
 all_goals try (exfalso; omega)
 all_goals first
  | (have hso : Cb e.off = true := decide_eq_true ⟨ho1, ho2⟩
     simp (disch := omega) only [hgl0, ho1, ho2, go_sem])
  | (have hso : Cb e.off = false := decide_eq_false (by omega)
     simp (disch := omega) only [hgl0, ho1, ho2, go_sem])
 all_goals
  by_cases hkr : 1 ≤ e.kind ∧ e.kind ≤ 9;rotate_left
  · have eb := C8 (e := e) fun h => by have := h.2.2.2.2.2; omega
    have hn1 : ¬ e.kind = 1 := by omega
    have hn2 : ¬ e.kind = 2 := by omega
    have hn3 : ¬ e.kind = 3 := by omega
    have hn4 : ¬ e.kind = 4 := by omega
    have hn5 : ¬ e.kind = 5 := by omega
    have hn6 : ¬ e.kind = 6 := by omega
    have hn7 : ¬ e.kind = 7 := by omega
    have hn8 : ¬ e.kind = 8 := by omega
    have hn9 : ¬ e.kind = 9 := by omega
    (try simp only [Ek, Ej, Ei, Eh, Eg, Ef, Ee, Ed]); simp (disch := omega) only [Ac, hn1, hn2, hn3, hn4, hn5, hn6, hn7, hn8, hn9, eb, go_sem]
  have hB : Fm e := ⟨by omega, by omega, by omega, by omega, by rw [ekn]; omega, by omega, by omega⟩
  have hkk : e.kind = 1 ∨ e.kind = 2 ∨ e.kind = 3 ∨ e.kind = 4 ∨ e.kind = 5 ∨ e.kind = 6 ∨ e.kind = 7 ∨ e.kind = 8 ∨ e.kind = 9 := by omega
  rcases hkk with hki | hki | hki | hki | hki | hki | hki | hki | hki
  · have ez := Yb hB hD hki;by_cases s0' : Bv e = false
    · first
       | exact absurd (hpl.symm.trans s0') (by decide)
       | (have s0b := hpl.symm.trans s0'
          simp only [s0', decide_true, decide_false, Bool.true_and, Bool.false_and, Bool.and_true, Bool.and_false, Bool.and_self, Bool.not_true, Bool.not_false] at ez
          (try simp only [Ek, Ej, Ei, Eh, Eg, Ef, Ee, Ed]); simp (disch := omega) only [Ac, hki, s0b, ez, go_sem])
    have s0 : Bv e = true := by simpa using s0'
    have s0b := hpl.symm.trans s0
    first
     | exact absurd s0b (by decide)
     | ((try simp only [Ek, Ej, Ei, Eh, Eg, Ef, Ee, Ed]); simp (disch := omega) only [Ac, hki, s0b, go_sem]
        refine Aa (Wx _) ?_;by_cases s1' : Cc e.name = false
        · simp only [s0, s1', decide_true, decide_false, Bool.true_and, Bool.false_and, Bool.and_true, Bool.and_false, Bool.and_self, Bool.not_true, Bool.not_false] at ez;simp (disch := omega) only [Ac, s0b, s1', ez, go_sem]
        have s1 : Cc e.name = true := by simpa using s1'
        simp (disch := omega) only [Ac, s0b, s1, go_sem];refine Aa (Aem e) ?_;simp only [s0, s1, decide_true, decide_false, Bool.true_and, Bool.false_and, Bool.and_true, Bool.and_false, Bool.and_self, Bool.not_true, Bool.not_false] at ez;simp (disch := omega) only [s0b, s1, ez, go_sem])
  · have ez := Ya hB hD hki;by_cases s0' : Bv e = false
    · first
       | exact absurd (hpl.symm.trans s0') (by decide)
       | (have s0b := hpl.symm.trans s0'
          simp only [s0', decide_true, decide_false, Bool.true_and, Bool.false_and, Bool.and_true, Bool.and_false, Bool.and_self, Bool.not_true, Bool.not_false] at ez
          (try simp only [Ek, Ej, Ei, Eh, Eg, Ef, Ee, Ed]); simp (disch := omega) only [Ac, hki, s0b, ez, go_sem])
    have s0 : Bv e = true := by simpa using s0'
    have s0b := hpl.symm.trans s0
    first
     | exact absurd s0b (by decide)
     | ((try simp only [Ek, Ej, Ei, Eh, Eg, Ef, Ee, Ed]); simp (disch := omega) only [Ac, hki, s0b, go_sem]
        refine Aa (Wx _) ?_;by_cases s1' : Cc e.name = false
        · simp only [s0, s1', decide_true, decide_false, Bool.true_and, Bool.false_and, Bool.and_true, Bool.and_false, Bool.and_self, Bool.not_true, Bool.not_false] at ez;simp (disch := omega) only [Ac, s0b, s1', ez, go_sem]
        have s1 : Cc e.name = true := by simpa using s1'
        simp (disch := omega) only [Ac, s0b, s1, go_sem];refine Aa (Aem e) ?_;simp only [s0, s1, decide_true, decide_false, Bool.true_and, Bool.false_and, Bool.and_true, Bool.and_false, Bool.and_self, Bool.not_true, Bool.not_false] at ez;simp (disch := omega) only [s0b, s1, ez, go_sem])
  · have ez := X9 hB hD hki;by_cases s0' : Cg e.dep e.orep e.oseq = false
    · simp only [s0', decide_true, decide_false, Bool.true_and, Bool.false_and, Bool.and_true, Bool.and_false, Bool.and_self, Bool.not_true, Bool.not_false] at ez
      (try simp only [Ek, Ej, Ei, Eh, Eg, Ef, Ee, Ed]); simp (disch := omega) only [Ac, hki, s0', ez, go_sem]
    have s0 : Cg e.dep e.orep e.oseq = true := by simpa using s0'
    by_cases s1' : E8 e.dep e.base.l = false
    · simp only [s0, s1', decide_true, decide_false, Bool.true_and, Bool.false_and, Bool.and_true, Bool.and_false, Bool.and_self, Bool.not_true, Bool.not_false] at ez
      (try simp only [Ek, Ej, Ei, Eh, Eg, Ef, Ee, Ed]); simp (disch := omega) only [Ac, hki, s0, s1', ez, go_sem]
    have s1 : E8 e.dep e.base.l = true := by simpa using s1'
    by_cases s2 : (e.base.l.length : Int) ≤ 1;rotate_left
    · simp only [s0, s1, s2, decide_true, decide_false, Bool.true_and, Bool.false_and, Bool.and_true, Bool.and_false, Bool.and_self, Bool.not_true, Bool.not_false] at ez
      (try simp only [Ek, Ej, Ei, Eh, Eg, Ef, Ee, Ed]); simp (disch := omega) only [Ac, hki, s0, s1, s2, ez, go_sem]
    by_cases s3' : Cb e.off = false
    · first
       | exact absurd (hso.symm.trans s3') (by decide)
       | (have s3b := hso.symm.trans s3'
          simp only [s0, s1, s2, s3', decide_true, decide_false, Bool.true_and, Bool.false_and, Bool.and_true, Bool.and_false, Bool.and_self, Bool.not_true, Bool.not_false] at ez
          (try simp only [Ek, Ej, Ei, Eh, Eg, Ef, Ee, Ed]); simp (disch := omega) only [Ac, hki, s0, s1, s2, s3b, ez, go_sem])
    have s3 : Cb e.off = true := by simpa using s3'
    have s3b := hso.symm.trans s3
    first
     | exact absurd s3b (by decide)
     | (by_cases s4 : e.data = []
        · simp only [s0, s1, s2, s3, s4, decide_true, decide_false, Bool.true_and, Bool.false_and, Bool.and_true, Bool.and_false, Bool.and_self, Bool.not_true, Bool.not_false] at ez
          (try simp only [Ek, Ej, Ei, Eh, Eg, Ef, Ee, Ed]); simp (disch := omega) only [Ac, hki, s0, s1, s2, s4, ez, go_sem]
        by_cases s5 : (e.data.length : Int) ≤ 200 - e.off;rotate_left
        · simp only [s0, s1, s2, s3, s4, s5, decide_true, decide_false, Bool.true_and, Bool.false_and, Bool.and_true, Bool.and_false, Bool.and_self, Bool.not_true, Bool.not_false] at ez
          (try simp only [Ek, Ej, Ei, Eh, Eg, Ef, Ee, Ed]); simp (disch := omega) only [Ac, hki, s0, s1, s2, s4, s5, ez, go_sem]
        (try simp only [Ek, Ej, Ei, Eh, Eg, Ef, Ee, Ed]); simp (disch := omega) only [Ac, hki, s0, s1, s2, s4, s5, go_sem]
        refine Aa (Acf e) ?_;simp only [s0, s1, s2, s3, s4, s5, decide_true, decide_false, Bool.true_and, Bool.false_and, Bool.and_true, Bool.and_false, Bool.and_self, Bool.not_true, Bool.not_false] at ez;simp (disch := omega) only [s0, s1, s2, s4, s5, ez, go_sem])
  · have ez := X8 hB hD hki;by_cases s0' : Cg e.dep e.orep e.oseq = false
    · simp only [s0', decide_true, decide_false, Bool.true_and, Bool.false_and, Bool.and_true, Bool.and_false, Bool.and_self, Bool.not_true, Bool.not_false] at ez
      (try simp only [Ek, Ej, Ei, Eh, Eg, Ef, Ee, Ed]); simp (disch := omega) only [Ac, hki, s0', ez, go_sem]
    have s0 : Cg e.dep e.orep e.oseq = true := by simpa using s0'
    by_cases s1' : E8 e.dep e.base.l = false
    · simp only [s0, s1', decide_true, decide_false, Bool.true_and, Bool.false_and, Bool.and_true, Bool.and_false, Bool.and_self, Bool.not_true, Bool.not_false] at ez
      (try simp only [Ek, Ej, Ei, Eh, Eg, Ef, Ee, Ed]); simp (disch := omega) only [Ac, hki, s0, s1', ez, go_sem]
    have s1 : E8 e.dep e.base.l = true := by simpa using s1'
    by_cases s2 : (e.base.l.length : Int) ≤ 1;rotate_left
    · simp only [s0, s1, s2, decide_true, decide_false, Bool.true_and, Bool.false_and, Bool.and_true, Bool.and_false, Bool.and_self, Bool.not_true, Bool.not_false] at ez
      (try simp only [Ek, Ej, Ei, Eh, Eg, Ef, Ee, Ed]); simp (disch := omega) only [Ac, hki, s0, s1, s2, ez, go_sem]
    by_cases s3' : Cb e.off = false
    · first
       | exact absurd (hso.symm.trans s3') (by decide)
       | (have s3b := hso.symm.trans s3'
          simp only [s0, s1, s2, s3', decide_true, decide_false, Bool.true_and, Bool.false_and, Bool.and_true, Bool.and_false, Bool.and_self, Bool.not_true, Bool.not_false] at ez
          (try simp only [Ek, Ej, Ei, Eh, Eg, Ef, Ee, Ed]); simp (disch := omega) only [Ac, hki, s0, s1, s2, s3b, ez, go_sem])
    have s3 : Cb e.off = true := by simpa using s3'
    have s3b := hso.symm.trans s3
    first
     | exact absurd s3b (by decide)
     | ((try simp only [Ek, Ej, Ei, Eh, Eg, Ef, Ee, Ed]); simp (disch := omega) only [Ac, hki, s0, s1, s2, go_sem]
        refine Aa (Agg e) ?_;simp only [s0, s1, s2, s3, decide_true, decide_false, Bool.true_and, Bool.false_and, Bool.and_true, Bool.and_false, Bool.and_self, Bool.not_true, Bool.not_false] at ez;simp (disch := omega) only [s0, s1, s2, ez, go_sem])
  · have ez := X7 hB hD hki;by_cases s0' : Cg e.dep e.orep e.oseq = false
    · simp only [s0', decide_true, decide_false, Bool.true_and, Bool.false_and, Bool.and_true, Bool.and_false, Bool.and_self, Bool.not_true, Bool.not_false] at ez
      (try simp only [Ek, Ej, Ei, Eh, Eg, Ef, Ee, Ed]); simp (disch := omega) only [Ac, hki, s0', ez, go_sem]
    have s0 : Cg e.dep e.orep e.oseq = true := by simpa using s0'
    by_cases s1' : E8 e.dep e.base.l = false
    · simp only [s0, s1', decide_true, decide_false, Bool.true_and, Bool.false_and, Bool.and_true, Bool.and_false, Bool.and_self, Bool.not_true, Bool.not_false] at ez
      (try simp only [Ek, Ej, Ei, Eh, Eg, Ef, Ee, Ed]); simp (disch := omega) only [Ac, hki, s0, s1', ez, go_sem]
    have s1 : E8 e.dep e.base.l = true := by simpa using s1'
    by_cases s2 : (2 : Int) ≤ (e.base.l.length : Int);rotate_left
    · simp only [s0, s1, s2, decide_true, decide_false, Bool.true_and, Bool.false_and, Bool.and_true, Bool.and_false, Bool.and_self, Bool.not_true, Bool.not_false] at ez
      (try simp only [Ek, Ej, Ei, Eh, Eg, Ef, Ee, Ed]); simp (disch := omega) only [Ac, hki, s0, s1, s2, ez, go_sem]
    by_cases s3 : (e.base.l.length : Int) ≤ 8;rotate_left
    · simp only [s0, s1, s2, s3, decide_true, decide_false, Bool.true_and, Bool.false_and, Bool.and_true, Bool.and_false, Bool.and_self, Bool.not_true, Bool.not_false] at ez
      (try simp only [Ek, Ej, Ei, Eh, Eg, Ef, Ee, Ed]); simp (disch := omega) only [Ac, hki, s0, s1, s2, s3, ez, go_sem]
    by_cases s4 : (e.data.length : Int) ≤ 200;rotate_left
    · simp only [s0, s1, s2, s3, s4, decide_true, decide_false, Bool.true_and, Bool.false_and, Bool.and_true, Bool.and_false, Bool.and_self, Bool.not_true, Bool.not_false] at ez
      (try simp only [Ek, Ej, Ei, Eh, Eg, Ef, Ee, Ed]); simp (disch := omega) only [Ac, hki, s0, s1, s2, s3, s4, ez, go_sem]
    (try simp only [Ek, Ej, Ei, Eh, Eg, Ef, Ee, Ed]); simp (disch := omega) only [Ac, hki, s0, s1, s2, s3, s4, go_sem]
    refine Aa (Agh e) ?_;simp only [s0, s1, s2, s3, s4, decide_true, decide_false, Bool.true_and, Bool.false_and, Bool.and_true, Bool.and_false, Bool.and_self, Bool.not_true, Bool.not_false] at ez;simp (disch := omega) only [s0, s1, s2, s3, s4, ez, go_sem]
  · have ez := X6 hB hD hki;by_cases s0' : Cg e.dep e.orep e.oseq = false
    · simp only [s0', decide_true, decide_false, Bool.true_and, Bool.false_and, Bool.and_true, Bool.and_false, Bool.and_self, Bool.not_true, Bool.not_false] at ez
      (try simp only [Ek, Ej, Ei, Eh, Eg, Ef, Ee, Ed]); simp (disch := omega) only [Ac, hki, s0', ez, go_sem]
    have s0 : Cg e.dep e.orep e.oseq = true := by simpa using s0'
    by_cases s1' : Dm e.gone.l 8 e.dep = false
    · first
       | exact absurd (hgl.symm.trans s1') (by decide)
       | (have s1b := hgl.symm.trans s1'
          simp only [s0, s1', decide_true, decide_false, Bool.true_and, Bool.false_and, Bool.and_true, Bool.and_false, Bool.and_self, Bool.not_true, Bool.not_false] at ez
          (try simp only [Ek, Ej, Ei, Eh, Eg, Ef, Ee, Ed]); simp (disch := omega) only [Ac, hki, s0, s1b, ez, go_sem])
    have s1 : Dm e.gone.l 8 e.dep = true := by simpa using s1'
    have s1b := hgl.symm.trans s1
    first
     | exact absurd s1b (by decide)
     | ((try simp only [Ek, Ej, Ei, Eh, Eg, Ef, Ee, Ed]); simp (disch := omega) only [Ac, hki, s0, s1b, go_sem]
        refine Aa (Akg e) ?_;simp only [s0, s1, decide_true, decide_false, Bool.true_and, Bool.false_and, Bool.and_true, Bool.and_false, Bool.and_self, Bool.not_true, Bool.not_false] at ez;simp (disch := omega) only [s0, s1b, ez, go_sem])
  · have ez := X5 hB hD hki;by_cases s0' : Cg e.dep e.orep e.oseq = false
    · simp only [s0', decide_true, decide_false, Bool.true_and, Bool.false_and, Bool.and_true, Bool.and_false, Bool.and_self, Bool.not_true, Bool.not_false] at ez
      (try simp only [Ek, Ej, Ei, Eh, Eg, Ef, Ee, Ed]); simp (disch := omega) only [Ac, hki, s0', ez, go_sem]
    have s0 : Cg e.dep e.orep e.oseq = true := by simpa using s0'
    by_cases s1' : Dm e.gone.l 8 e.dep = false
    · first
       | exact absurd (hgl.symm.trans s1') (by decide)
       | (have s1b := hgl.symm.trans s1'
          simp only [s0, s1', decide_true, decide_false, Bool.true_and, Bool.false_and, Bool.and_true, Bool.and_false, Bool.and_self, Bool.not_true, Bool.not_false] at ez
          (try simp only [Ek, Ej, Ei, Eh, Eg, Ef, Ee, Ed]); simp (disch := omega) only [Ac, hki, s0, s1b, ez, go_sem])
    have s1 : Dm e.gone.l 8 e.dep = true := by simpa using s1'
    have s1b := hgl.symm.trans s1
    first
     | exact absurd s1b (by decide)
     | (by_cases s2' : Bv e = false
        · first
           | exact absurd (hpl.symm.trans s2') (by decide)
           | (have s2b := hpl.symm.trans s2'
              simp only [s0, s1, s2', decide_true, decide_false, Bool.true_and, Bool.false_and, Bool.and_true, Bool.and_false, Bool.and_self, Bool.not_true, Bool.not_false] at ez
              (try simp only [Ek, Ej, Ei, Eh, Eg, Ef, Ee, Ed]); simp (disch := omega) only [Ac, hki, s0, s1b, s2b, ez, go_sem])
        have s2 : Bv e = true := by simpa using s2'
        have s2b := hpl.symm.trans s2
        first
         | exact absurd s2b (by decide)
         | ((try simp only [Ek, Ej, Ei, Eh, Eg, Ef, Ee, Ed]); simp (disch := omega) only [Ac, hki, s0, s1b, s2b, go_sem]
            refine Aa (Wx _) ?_;by_cases s3' : Cc e.name = false
            · simp only [s0, s1, s2, s3', decide_true, decide_false, Bool.true_and, Bool.false_and, Bool.and_true, Bool.and_false, Bool.and_self, Bool.not_true, Bool.not_false] at ez;simp (disch := omega) only [Ac, s0, s1b, s2b, s3', ez, go_sem]
            have s3 : Cc e.name = true := by simpa using s3'
            simp (disch := omega) only [Ac, s0, s1b, s2b, s3, go_sem];refine Aa (Agf e) ?_;simp only [s0, s1, s2, s3, decide_true, decide_false, Bool.true_and, Bool.false_and, Bool.and_true, Bool.and_false, Bool.and_self, Bool.not_true, Bool.not_false] at ez;simp (disch := omega) only [s0, s1b, s2b, s3, ez, go_sem]))
  · have ez := X4 hB hD hki;by_cases s0 : 1 ≤ e.ward;rotate_left
    · simp only [s0, decide_true, decide_false, Bool.true_and, Bool.false_and, Bool.and_true, Bool.and_false, Bool.and_self, Bool.not_true, Bool.not_false] at ez
      (try simp only [Ek, Ej, Ei, Eh, Eg, Ef, Ee, Ed]); simp (disch := omega) only [Ac, hki, s0, ez, go_sem]
    by_cases s1 : e.ward ≤ 4;rotate_left
    · simp only [s0, s1, decide_true, decide_false, Bool.true_and, Bool.false_and, Bool.and_true, Bool.and_false, Bool.and_self, Bool.not_true, Bool.not_false] at ez
      (try simp only [Ek, Ej, Ei, Eh, Eg, Ef, Ee, Ed]); simp (disch := omega) only [Ac, hki, s0, s1, ez, go_sem]
    (try simp only [Ek, Ej, Ei, Eh, Eg, Ef, Ee, Ed]); simp (disch := omega) only [Ac, hki, s0, s1, go_sem]
    refine Aa (Aqd e) ?_;simp only [s0, s1, decide_true, decide_false, Bool.true_and, Bool.false_and, Bool.and_true, Bool.and_false, Bool.and_self, Bool.not_true, Bool.not_false] at ez;simp (disch := omega) only [s0, s1, ez, go_sem]
  · have ez := X3 hB hD hki
    (try simp only [Ek, Ej, Ei, Eh, Eg, Ef, Ee, Ed]); simp (disch := omega) only [Ac, hki, go_sem]
    refine Aa (Aqe e) ?_;simp only [decide_true, decide_false, Bool.true_and, Bool.false_and, Bool.and_true, Bool.and_false, Bool.and_self, Bool.not_true, Bool.not_false] at ez;simp (disch := omega) only [ez, go_sem]
structure Msg where
 k : Int
 fr : Int
 to : Int
 kn : Vc
 tb : Nat → Vc
 f : Bool
 z : Nat
 evs : List Evt
def Dc (m : Msg) : List PV := [.i .i64 m.k, .i .i64 m.fr, .i .i64 m.to] ++ vE m.kn ++ tE m.tb ++ [.sl m.f m.z (m.evs.map B9)]
def Me (m : Msg) : List SV := [.pv (.i .i64 m.k), .pv (.i .i64 m.fr), .pv (.i .i64 m.to), .vec 8 (vE m.kn), .vec 64 (tE m.tb), .pv (.sl m.f m.z (m.evs.map B9))]
theorem Iu (m : Msg) : (Dc m).length = 76 := by simp [Dc, vE, tE, Cu]
theorem Jg (m : Msg) : SV.cellsL? (Me m) = some (Dc m) := rfl
theorem Awr (m : Msg) (K : KK) : LoadK (some (Dc m)) 0 1 false K = K (.pv (.i .i64 m.k)) [] := by
 simp only [LoadK, Jq, eq_iff_iff];exact ⟨fun h => h.2.2, fun h => ⟨by simp [Dc, vE, tE, Cu], .inr trivial, h⟩⟩
theorem Awq (m : Msg) (K : KK) : LoadK (some (Dc m)) 1 1 false K = K (.pv (.i .i64 m.fr)) [] := by
 simp only [LoadK, Jq, eq_iff_iff];exact ⟨fun h => h.2.2, fun h => ⟨by simp [Dc, vE, tE, Cu], .inr trivial, h⟩⟩
theorem Awp (m : Msg) (K : KK) : LoadK (some (Dc m)) 2 1 false K = K (.pv (.i .i64 m.to)) [] := by
 simp only [LoadK, Jq, eq_iff_iff];exact ⟨fun h => h.2.2, fun h => ⟨by simp [Dc, vE, tE, Cu], .inr trivial, h⟩⟩
theorem Aqz (m : Msg) (K : KK) : LoadK (some (Dc m)) 75 1 false K = K (.pv (.sl m.f m.z (m.evs.map B9))) [] := by
 simp only [LoadK, Jq, eq_iff_iff];exact ⟨fun h => h.2.2, fun h => ⟨by simp [Dc, vE, tE, Cu], .inr trivial, h⟩⟩
theorem Awo (m : Msg) (K : KK) : LoadK (some (Dc m)) 3 8 true K = K (.vec 8 (vE m.kn)) [] := by
 simp only [LoadK, Jq, eq_iff_iff];exact ⟨fun h => h.2.2, fun h => ⟨by simp [Dc, vE, tE, Cu], .inl trivial, h⟩⟩
theorem Awm (m : Msg) (K : KK) : LoadK (some (Dc m)) 11 64 true K = K (.vec 64 (tE m.tb)) [] := by
 simp only [LoadK, Jq, eq_iff_iff];exact ⟨fun h => h.2.2, fun h => ⟨by simp [Dc, vE, tE, Cu], .inl trivial, h⟩⟩
attribute [go_sem] Awr Awq Awp Aqz Awo Awm Iu
theorem Acs (n : Nat) (m : Msg) : SV.killL n (Me m) = Me m := rfl
theorem Ait (m : Msg) : SV.widthL (Me m) = 76 := rfl
theorem Ae8 (m : Msg) : SV.flatBL (Me m) = true := rfl
theorem Ae5 (n : Nat) (v : PV) (m : Msg) : SV.frzL n v (Me m) = Me m := rfl
attribute [go_sem] Acs Ait Ae8 Ae5
def mv (m : Msg) : Prop := (m.evs = [] ∨ m.z = 21) ∧ m.evs.length ≤ 1000 ∧ (∀ e ∈ m.evs, ev e ∧ ∀ i, i < 8 → e.dep i < 4294967296) ∧ (∀ i, i < 8 → m.kn i < 4294967296) ∧ ∀ i, i < 8 → ∀ j, j < 8 → m.tb i j < 4294967296
def Mp (m : Msg) : Prop := (m.k = 1 ∨ m.k = 2) ∧ (1 ≤ m.fr ∧ m.fr ≤ 8) ∧ (1 ≤ m.to ∧ m.to ≤ 8) ∧ m.fr ≠ m.to ∧ m.evs.length ≤ 8 ∧ (m.k = 1 → m.evs.length = 0)
noncomputable def C3 (m : Msg) : Bool := open Classical in decide (Mp m) && m.evs.all A4
theorem Bl {m : Msg} (h : ¬ Mp m) : C3 m = false := by simp [C3, h]
theorem Gg {m : Msg} (h : Mp m) : C3 m = m.evs.all A4 := by simp [C3, h]
def H9 (n : Int) : Bool := decide (1 ≤ n ∧ n ≤ 8)
theorem Wv (n : Int) {h d} : FunOk Tryz.prog 21 [.pv (.i .i64 n)] h d (.pv (.b (H9 n))) [] := by
 refine Aq Ao fn21 (by simp) rfl rfl fun F => ?_;by_cases h1 : 1 ≤ n
 · have e : H9 n = decide (n ≤ 8) := by simp [H9, h1]
   simp (disch := omega) only [ir21, h1, e, go_sem]
 · have e : H9 n = false := by simp [H9, h1]
   simp (disch := omega) only [ir21, h1, e, go_sem]
theorem Av6 (e : Evt) (he : ev e) {h d} : FunOk Tryz.prog 23 [.vec 21 (B9 e)] h d (.pv (.b (!A4 e))) [] := by
 refine Aq Ao fn23 (by simp) rfl rfl fun F => ?_;simp (disch := omega) only [ir23, go_sem];refine Aa (Aeq e he) ?_;simp (disch := omega) only [go_sem]
def Abr (f : Bool) (z : Nat) (l : List Evt) (k : Nat) : FS := mk [(8, .pv (.i .i64 k)), (7, .pv (.i .i64 l.length)), (0, .pv (.sl f z (l.map B9))), (1, .fn (.func 23) [])] []
theorem Aki {f : Bool} {z : Nat} {l : List Evt} (hz : l = [] ∨ z = 21) (hl : ∀ e ∈ l, ev e) (hn : l.length ≤ 1000) :
 ∃ n : Int, (0 ≤ n ↔ l.all A4 = false) ∧ ∀ h d, FunOk Tryz.prog 45 [.pv (.sl f z (l.map B9)), .fn (.func 23) []] h d (.pv (.i .i64 n)) [] := by
 refine ⟨if l.findIdx (fun e => !A4 e) < l.length then (l.findIdx (fun e => !A4 e) : Int) else -1, ?_, ?_⟩
 · by_cases hi : l.findIdx (fun e => !A4 e) < l.length
   · rw [if_pos hi];obtain ⟨x, hx, hp⟩ := List.findIdx_lt_length.1 hi;refine ⟨fun _ => ?_, fun _ => by omega⟩;rw [List.all_eq_false];exact ⟨x, hx, by simpa using hp⟩
   · rw [if_neg hi];refine ⟨fun h => by omega, fun h => ?_⟩;rw [List.all_eq_false] at h;obtain ⟨x, hx, hp⟩ := h;exact absurd (List.findIdx_lt_length.2 ⟨x, hx, by simpa using hp⟩) hi
 intro h d;refine Aq Ao fn45 (by simp) rfl rfl fun F => ?_;simp (disch := omega) only [ir45, List.length_map, go_sem];refine A2 Ao (Abr f z l) (fun k => k ≤ l.length ∧ ∀ j, (hj : j < l.length) → j < k → A4 l[j] = true) (fun k => l.length - k) 0 (by simp) (Au ?_ ?_) fun k hk => ?_
 · simp (disch := omega) only [go_sem]
 · simp (disch := omega) only [go_sem]
 obtain ⟨hk1, hk2⟩ := hk;by_cases hlt : k < l.length
 · have hz2 : z = 21 := hz.resolve_left fun e => by subst e; simp at hlt
   subst hz2;have he : (l.map B9)[k]? = some (B9 l[k]) := by simp [hlt]
   have hv := Ac l[k];simp (disch := omega) only [Abr, List.length_map, he, Ev, go_sem];refine Aa (Av6 l[k] (hl _ (List.getElem_mem hlt))) ?_;by_cases hp : A4 l[k] = true
   · simp (disch := omega) only [hp, go_sem];refine Az (k + 1) _ _ rfl ⟨by omega, fun j hj hjk => ?_⟩ (by omega) ?_ ?_
     · by_cases e : j = k
       · subst e; exact hp
       · exact hk2 j hj (by omega)
     · simp (disch := omega) only [go_sem]
     · simp (disch := omega) only [go_sem]
   · have hp' : A4 l[k] = false := by simpa using hp
     have e : l.findIdx (fun e => !A4 e) = k := (List.findIdx_eq hlt).2 ⟨by simp [hp'], fun j hj => by simp [hk2 j (by omega) hj]⟩;simp (disch := omega) only [hp', e, hlt, go_sem]
 · obtain rfl : k = l.length := by omega
   have e : l.findIdx (fun e => !A4 e) = l.length := List.findIdx_eq_length.2 fun x hx => by
    obtain ⟨j, hj, rfl⟩ := List.getElem_of_mem hx;simp [hk2 j hj hj]
   simp (disch := omega) only [Abr, e, hlt, go_sem]
theorem Aep {f : Bool} {z : Nat} {l : List Evt} (hz : l = [] ∨ z = 21) (hl : ∀ e ∈ l, ev e) (hn : l.length ≤ 1000) {h d} :
 FunOk Tryz.prog 22 [.pv (.sl f z (l.map B9)), .fn (.func 23) []] h d (.pv (.b (!l.all A4))) [] := by
 refine Aq Ao fn22 (by simp) rfl rfl fun F => ?_;simp (disch := omega) only [ir22, go_sem];obtain ⟨n, hn', hc⟩ := Aki (f := f) (z := z) hz hl hn;refine Aa (hc _ _) ?_;cases ha : l.all A4
 · have h0 : 0 ≤ n := hn'.2 ha;simp (disch := omega) only [h0, go_sem]
 · have h0 : ¬ 0 ≤ n := fun h => by rw [hn'.1 h] at ha; cases ha
   simp (disch := omega) only [h0, go_sem]
set_option maxHeartbeats 8000000 in
theorem Ok (m : Msg) (hm : mv m) {h d} : FunOk Tryz.prog 7 [.vec 76 (Dc m)] h d (.pv (.b (C3 m))) [] := by
 refine Aq Ao fn7 (by simp) rfl rfl fun F => ?_;obtain ⟨h1, h2, h3, h4, h5⟩ := hm;by_cases k1 : m.k = 1 ∨ m.k = 2;rotate_left
 · have e := Bl (m := m) fun h => k1 h.1;have n1 : ¬ m.k = 1 := fun h => k1 (.inl h);have n2 : ¬ m.k = 2 := fun h => k1 (.inr h);simp (disch := omega) only [ir7, List.length_map, n1, n2, e, go_sem]
 rcases k1 with hk | hk
 ·
  simp (disch := omega) only [ir7, List.length_map, hk, go_sem];refine Aa (Wv m.fr) ?_;by_cases r1 : 1 ≤ m.fr ∧ m.fr ≤ 8;rotate_left
  · have e := Bl (m := m) fun h => r1 h.2.1;have er : H9 m.fr = false := by simp only [H9, r1, decide_false]
    simp (disch := omega) only [er, e, go_sem]
  have er : H9 m.fr = true := by simp only [H9, r1, and_self, decide_true]
  simp (disch := omega) only [er, go_sem];refine Aa (Wv m.to) ?_;by_cases r2 : 1 ≤ m.to ∧ m.to ≤ 8;rotate_left
  · have e := Bl (m := m) fun h => r2 h.2.2.1;have er : H9 m.to = false := by simp only [H9, r2, decide_false]
    simp (disch := omega) only [er, e, go_sem]
  have er : H9 m.to = true := by simp only [H9, r2, and_self, decide_true]
  by_cases r3 : m.fr = m.to
  · have e := Bl (m := m) fun h => h.2.2.2.1 r3;simp (disch := omega) only [er, r3, e, go_sem]
  by_cases r4 : (8 : Int) < (m.evs.length : Int)
  · have e := Bl (m := m) fun h => by have := h.2.2.2.2.1; omega
    simp (disch := omega) only [er, r3, r4, e, go_sem]
  by_cases r5 : (0 : Int) < (m.evs.length : Int)
  · have e := Bl (m := m) fun h => by have := h.2.2.2.2.2 hk; omega
    simp (disch := omega) only [er, r3, r4, hk, r5, e, List.length_map, go_sem]
  have e := Gg (m := m) ⟨.inl hk, r1, r2, r3, by omega, fun _ => by omega⟩;simp (disch := omega) only [er, r3, r4, hk, r5, List.length_map, go_sem];refine Aa (Aep h1 (fun e he => (h3 e he).1) h2) ?_;simp (disch := omega) only [e, Bool.not_not, go_sem]
 ·
  simp (disch := omega) only [ir7, List.length_map, hk, go_sem];refine Aa (Wv m.fr) ?_;by_cases r1 : 1 ≤ m.fr ∧ m.fr ≤ 8;rotate_left
  · have e := Bl (m := m) fun h => r1 h.2.1;have er : H9 m.fr = false := by simp only [H9, r1, decide_false]
    simp (disch := omega) only [er, e, go_sem]
  have er : H9 m.fr = true := by simp only [H9, r1, and_self, decide_true]
  simp (disch := omega) only [er, go_sem];refine Aa (Wv m.to) ?_;by_cases r2 : 1 ≤ m.to ∧ m.to ≤ 8;rotate_left
  · have e := Bl (m := m) fun h => r2 h.2.2.1;have er : H9 m.to = false := by simp only [H9, r2, decide_false]
    simp (disch := omega) only [er, e, go_sem]
  have er : H9 m.to = true := by simp only [H9, r2, and_self, decide_true]
  by_cases r3 : m.fr = m.to
  · have e := Bl (m := m) fun h => h.2.2.2.1 r3;simp (disch := omega) only [er, r3, e, go_sem]
  by_cases r4 : (8 : Int) < (m.evs.length : Int)
  · have e := Bl (m := m) fun h => by have := h.2.2.2.2.1; omega
    simp (disch := omega) only [er, r3, r4, e, go_sem]
  have e := Gg (m := m) ⟨.inr hk, r1, r2, r3, by omega, fun h => by omega⟩;simp (disch := omega) only [er, r3, r4, hk, List.length_map, go_sem];refine Aa (Aep h1 (fun e he => (h3 e he).1) h2) ?_;simp (disch := omega) only [e, Bool.not_not, go_sem]
abbrev v0 : Vc := fun _ => 0
theorem Hu (v base : Vc) (hv : ∀ i, i < 8 → v i < 4294967296) (hb : ∀ i, i < 8 → base i < 4294967296) : (A6 v base).length ≤ 42 := by
 have := I5 v base hv hb 8 (by omega);simp [A6]; omega
def La (m : Msg) : List UInt8 := [UInt8.ofNat m.k.toNat, UInt8.ofNat m.fr.toNat, UInt8.ofNat m.to.toNat]
def Ku (m : Msg) (k : Nat) : List (List UInt8) := (List.range k).map fun i => A6 (m.tb i) m.kn
def Gw (m : Msg) (k j : Nat) : List (List UInt8) := [La m, A6 m.kn v0] ++ (Ku m k ++ (m.evs.take j).map O8)
def Bs (m : Msg) : List (List UInt8) := [La m, A6 m.kn v0] ++ (Ku m 8 ++ m.evs.map O8)
def C9 (m : Msg) : List UInt8 := Cv (Bs m)
theorem My (m : Msg) (k : Nat) : Ku m (k + 1) = Ku m k ++ [A6 (m.tb k) m.kn] := by simp [Ku, List.range_succ]
theorem O0 {m : Msg} (hc : C3 m = true) : Mp m := Classical.byContradiction fun hn => by rw [Bl hn] at hc; cases hc
theorem Xv {m : Msg} (hc : C3 m = true) : ∀ e ∈ m.evs, A4 e = true := by
 rw [Gg (O0 hc), List.all_eq_true] at hc; exact hc
theorem O5 (m : Msg) (k j : Nat) : (Gw m k j).length = 2 + k + min j m.evs.length := by simp [Gw, Ku]; omega
theorem Amc (m : Msg) (k : Nat) : (Gw m (k + 1) 0).map bE = (Gw m k 0).map bE ++ [[PV.sl false 1 (Ad (A6 (m.tb k) m.kn))]] := by
 simp [Gw, My, bE]
theorem Ar4 {m : Msg} {j : Nat} (h : j < m.evs.length) : (Gw m 8 (j + 1)).map bE = (Gw m 8 j).map bE ++ [[PV.sl false 1 (Ad (O8 m.evs[j]))]] := by
 simp only [Gw, List.take_add_one, List.getElem?_eq_getElem h, List.map_append, List.map_cons, List.map_nil, Option.toList_some, bE, List.append_assoc, List.cons_append, List.nil_append]
theorem Aac (m : Msg) : Gw m 8 m.evs.length = Bs m := by simp [Gw, Bs]
theorem Ax3 {e : Evt} (h : A4 e = true) : (O8 e).length ≤ 3636 := Nat.le_trans (Ft _) (Hz (F8 h))
theorem Aca {L : List (List UInt8)} {c : Nat} (h : ∀ b ∈ L, b.length ≤ c) : Bn L ≤ (c + 3) * L.length := by
 induction L with
 | nil => simp [Bn]
 | cons b l ih =>
   have h1 := h b List.mem_cons_self;have h2 := ih fun x hx => h x (List.mem_cons_of_mem _ hx);simp only [Bn, List.length_cons, Nat.mul_add, Nat.mul_one];omega
theorem J3 {m : Msg} (hm : mv m) (hc : C3 m = true) : ∀ b ∈ Bs m, b.length ≤ 3636 := fun b hb => by
 obtain ⟨h1, h2, h3, h4, h5⟩ := hm;have v0ok : ∀ i, i < 8 → v0 i < 4294967296 := fun i _ => by show 0 < _; omega
 simp only [Bs, Ku, List.mem_append, List.mem_cons, List.not_mem_nil, or_false, List.mem_map, List.mem_range] at hb;rcases hb with (hb | hb) | ⟨i, hi, hb⟩ | ⟨e, he, hb⟩
 · subst hb; simp [La]
 · subst hb; have := Hu m.kn v0 h4 v0ok; omega
 · subst hb; have := Hu (m.tb i) m.kn (h5 i hi) h4; omega
 · subst hb; exact Ax3 (Xv hc e he)
theorem Ld (m : Msg) : (Bs m).length = 10 + m.evs.length := by simp [Bs, Ku]; omega
theorem J2 {m : Msg} (hm : mv m) (hc : C3 m = true) : Bn (Bs m) ≤ 65502 := by
 have h1 := Aca (J3 hm hc);have h2 := (O0 hc).2.2.2.2.1;have h3 := Ld m;rw [h3] at h1;omega
theorem Wu (m : Msg) (hm : mv m) (hc : C3 m = false) {h d} : FunOk Tryz.prog 6 [.vec 76 (Dc m)] h d (.tup [.pv (.sl true 0 []), .pv (.i .i64 7)]) [] := by
 refine Aq Ao fn6 (by simp) rfl rfl fun F => ?_;simp (disch := omega) only [ir6, go_sem];refine Aa (Ok m hm) ?_;simp (disch := omega) only [hc, go_sem]
def Aun (m : Msg) (k : Nat) : FS := mk [(31, .pv (.i .i64 k)), (30, .vec 64 (tE m.tb)), (4, .os 50), (1, .p 1 0)] [(1, some (.var (.vec 76 (Dc m)))), (50, some (.row 1 ((Gw m k 0).map bE)))]
def Auo (m : Msg) (k : Nat) : FS := mk [(45, .pv (.i .i64 k)), (44, .pv (.i .i64 m.evs.length)), (43, .pv (.sl m.f m.z (m.evs.map B9))), (4, .os 50), (1, .p 1 0)] [(1, some (.var (.vec 76 (Dc m)))), (50, some (.row 1 ((Gw m 8 k).map bE)))]
theorem Vp {n : Int} (h0 : 0 ≤ n) (h1 : n ≤ 8) : IntKind.u8.wrap n = ((UInt8.ofNat n.toNat).toNat : Int) := by
 obtain ⟨k, rfl⟩ : ∃ k : Nat, n = k := ⟨n.toNat, by omega⟩
 rw [Int.toNat_natCast]; exact Bw k
set_option maxHeartbeats 8000000 in
theorem Zj (m : Msg) (hm : mv m) (hc : C3 m = true) {h d} : FunOk Tryz.prog 6 [.vec 76 (Dc m)] h d (.tup [.os d, .pv (.i .i64 0)]) [.new d (.row 1 (Ad (C9 m)))] := by
 refine Tq Ao fn6 (by simp) rfl (.inr (Ka _)) rfl fun F => ?_;have hH := O0 hc;have hE := Xv hc;obtain ⟨h1, h2, h3, h4, h5⟩ := id hm;obtain ⟨q1, q2, q3, q4, q5, q6⟩ := hH;have w1 := Vp (n := m.k) (by omega) (by omega);have w2 := Vp (n := m.fr) (by omega) (by omega);have w3 := Vp (n := m.to) (by omega) (by omega);simp (disch := omega) only [ir6, go_sem];refine Aa (Ok m hm) ?_;simp (disch := omega) only [hc, w1, w2, w3, go_sem];have v0ok : ∀ i, i < 8 → v0 i < 4294967296 := fun i _ => by show 0 < _; omega
 refine Aa (S3 m.kn v0 h4 v0ok) ?_;have e1 : [[PV.i IntKind.u8 ((UInt8.ofNat m.k.toNat).toNat : Int)], [PV.i IntKind.u8 ((UInt8.ofNat m.fr.toNat).toNat : Int)], [PV.i IntKind.u8 ((UInt8.ofNat m.to.toNat).toNat : Int)]] = Ad (La m) := rfl;simp (disch := omega) only [e1, go_sem];refine A2 Ao (Aun m) (fun k => k ≤ 8) (fun k => 8 - k) 0 (by simp) (Dt 28 50 (by decide) rfl (Au ?_ ?_)) fun k hk => ?_
 · simp (disch := omega) only [go_sem]
 · simp (disch := omega) only [go_sem];rfl
 by_cases hlt : k < 8
 · have hr := My m k;simp (disch := omega) only [Aun, hlt, go_sem];refine Aa (S3 (m.tb k) m.kn (h5 k hlt) h4) ?_;have hl := O5 m k 0;have hf := Amc m k;simp (disch := omega) only [List.length_map, go_sem];refine ⟨k + 1, by omega, by omega, Dt 40 50 (by decide) rfl (Au ?_ ?_)⟩
   · simp (disch := omega) only [go_sem]
   · simp (disch := omega) only [hf, go_sem]
 obtain rfl : k = 8 := by omega
 simp (disch := omega) only [Aun, List.length_map, go_sem];refine A2 Ao (Auo m) (fun k => k ≤ m.evs.length) (fun k => m.evs.length - k) 0 (by simp) (Au ?_ ?_) fun j hj => ?_
 · simp (disch := omega) only [go_sem]
 · simp (disch := omega) only [go_sem]
 by_cases hlj : j < m.evs.length
 · have hz2 : m.z = 21 := h1.resolve_left fun e => by rw [e] at hlj; simp at hlj
   have he : (m.evs.map B9)[j]? = some (B9 m.evs[j]) := by simp [hlj]
   have hl := O5 m 8 j;have hf := Ar4 hlj;have hmem := List.getElem_mem hlj;have hce := hE _ hmem;have hev := (h3 _ hmem).1;have hvl := Ac m.evs[j];generalize m.evs[j] = e at *;simp (disch := omega) only [Auo, List.length_map, hz2, he, Ev, hlj, go_sem];refine Aa (Aek e hev hce) ?_;simp (disch := omega) only [List.length_map, go_sem];refine ⟨j + 1, by omega, by omega, Dt 60 50 (by decide) rfl (Au ?_ ?_)⟩
   · simp (disch := omega) only [hz2, go_sem]
   · simp (disch := omega) only [hf, go_sem]
 obtain rfl : j = m.evs.length := by omega
 have hal := Aac m;simp (disch := omega) only [Auo, hal, go_sem];have hfl := J3 hm hc;have hfp := J2 hm hc;refine Aa (Acd (f := false) (z := 1) (L := Bs m) rfl rfl (T3 _) (.inr rfl) (by omega) fun b hb => by have := hfl b hb; omega) ?_;simp (disch := omega) only [C9, go_sem]
end Go.Proofs.YtpgnmmmcomhdcaaGreat.Fw
namespace Go.Proofs.YtpgnmmmcomhdcaaGreat.Fw
open Go.RowKit Go.Proofs
variable {P : Program} {F : Fr} {N : Nat} {ρ ρ' : Nat → Value} {s : FS} {a : Act} {w w' : World} {V V' : View}
def PImp (x y : PV) : Prop := ∀ (V : View) (v : Value), PConc V x v → PConc V y v
theorem PImp.refl (x : PV) : PImp x x := fun _ _ h => h
def PImpL : List PV → List PV → Prop
 | [], [] => True
 | x :: l, y :: m => PImp x y ∧ PImpL l m
 | _, _ => False
def PImpR : List (List PV) → List (List PV) → Prop
 | [], [] => True
 | x :: l, y :: m => PImpL x y ∧ PImpR l m
 | _, _ => False
theorem PImpL.refl : ∀ l : List PV, PImpL l l
 | [] => trivial
 | x :: l => ⟨.refl x, PImpL.refl l⟩
theorem PImpR.refl : ∀ l : List (List PV), PImpR l l
 | [] => trivial
 | x :: l => ⟨.refl x, PImpR.refl l⟩
theorem PImpL.len : ∀ {l m : List PV}, PImpL l m → l.length = m.length
 | [], [], _ => rfl
 | x :: l, y :: m, h => by simp [PImpL.len h.2]
 | [], _ :: _, h => h.elim
 | _ :: _, [], h => h.elim
theorem PImpR.len : ∀ {l m : List (List PV)}, PImpR l m → l.length = m.length
 | [], [], _ => rfl
 | x :: l, y :: m, h => by simp [PImpR.len h.2]
 | [], _ :: _, h => h.elim
 | _ :: _, [], h => h.elim
theorem PImpL.get : ∀ {l m : List PV} {j : Nat} {y : PV}, PImpL l m → m[j]? = some y → ∃ x, l[j]? = some x ∧ PImp x y
 | x :: l, z :: m, 0, y, h, hy => by simp at hy; subst hy; exact ⟨x, by simp, h.1⟩
 | x :: l, z :: m, j + 1, y, h, hy => by
   obtain ⟨u, h1, h2⟩ := PImpL.get (j := j) h.2 (by simpa using hy);exact ⟨u, by simpa using h1, h2⟩
 | [], [], j, y, _, hy => by simp at hy
 | [], _ :: _, _, _, h, _ => h.elim
 | _ :: _, [], _, _, h, _ => h.elim
theorem PImpR.get : ∀ {l m : List (List PV)} {j : Nat} {y : List PV}, PImpR l m → m[j]? = some y → ∃ x, l[j]? = some x ∧ PImpL x y
 | x :: l, z :: m, 0, y, h, hy => by simp at hy; subst hy; exact ⟨x, by simp, h.1⟩
 | x :: l, z :: m, j + 1, y, h, hy => by
   obtain ⟨u, h1, h2⟩ := PImpR.get (j := j) h.2 (by simpa using hy);exact ⟨u, by simpa using h1, h2⟩
 | [], [], j, y, _, hy => by simp at hy
 | [], _ :: _, _, _, h, _ => h.elim
 | _ :: _, [], _, _, h, _ => h.elim
theorem Ap5 {f f' : Bool} {z z' : Nat} {es es' : List (List PV)} (hf : f' = true → f = true) (hz : es = [] ∨ z = z') (h : PImpR es es') : PImp (.sl f z es) (.sl f' z' es') := by
 intro V v hv;cases hv with
 | sl full sz es a cap cs bl off arr hcap hfull hsz ha hcs hel =>
   have hl := h.len;have hne : es' ≠ [] → es ≠ [] := fun e1 e2 => by subst e2; exact e1 (List.eq_nil_of_length_eq_zero hl.symm)
   rw [hl];refine .sl f' z' es' a cap cs bl off arr (by omega) (fun e => by rw [hfull (hf e)]; exact hl) (fun c hc => ?_) (fun e => ha (hne e)) (fun i j hi hj => ?_) fun i j c x hi hx => ?_
   · obtain ⟨j, hj⟩ := List.mem_iff_getElem?.1 hc;obtain ⟨u, h1, h2⟩ := h.get hj;rw [← h2.len, hsz u (List.mem_of_getElem? h1)];exact hz.resolve_left (hne (List.ne_nil_of_mem hc))
   · have e : z = z' := hz.resolve_left (hne fun e => by subst e; simp at hi);subst e;exact hcs i j (by omega) hj
   · obtain ⟨u, h1, h2⟩ := h.get hi;obtain ⟨y, h3, h4⟩ := h2.get hx;exact h4 V _ (hel i j u y h1 h3)
def ImpS : List SV → List SV → Prop
 | [], [] => True
 | x :: l, y :: m => (Imp x y ∧ x.width = y.width) ∧ ImpS l m
 | _, _ => False
theorem ImpS.cells : ∀ {l m : List SV} {vs : List Value}, ImpS l m → Cells V ρ l vs → Cells V ρ m vs
 | [], [], vs, _, h => h
 | x :: l, y :: m, vs, h, k => by
   simp only [Cells] at k ⊢;obtain ⟨u, us, rfl, k1, k2, k3, k4⟩ := k;exact ⟨u, us, rfl, h.1.1 V ρ u k1, by rw [← h.1.2]; exact k2, k3, h.2.cells k4⟩
 | [], _ :: _, _, h, _ => h.elim
 | _ :: _, [], _, h, _ => h.elim
theorem Ajr {N' : Nat} {a' : Act} {s' : FS} (hR' : RelR ⟨w, fun _ => False, F.out ρ s.h, fun _ => undef, []⟩ N' ρ' s' a' w') {n sz : Nat} {es : List (List PV)} (hn : s'.h n = some (.row sz es)) : PConc (vw F w' ρ s) (.sl false sz es) (ρ' n) :=
 (H8 hR' hn).mono (A9 fun b c ho hc => ⟨fun hb => ho (.inr hb), hc⟩)
theorem Z9 (hm : P.follows .mixedOrders = true) {f N' : Nat} {rs : List Rv} {c : C} (hf : A5 P f = some (N', rs, c)) {args : List SV} {h : Nat → Option Blk} {d : Nat} {sz : Nat} {es : List (List PV)} (hlen : args.length ≤ N')
 (hargs : SV.closedL args = true) (hrun : ∀ F, sx (env P F N') c (Aa9 rs fun y g => (∃ n, y = .os n ∧ g n = some (.row sz es)) ∨ ∃ z, y = .pv (.sl true z []) ∧ es = [] ∧ 0 < sz) (mk (C4 0 args) [])) :
 FunOk P f args h d (.pv (.sl false sz es)) [] := by
 obtain ⟨h1, h2, h3⟩ := Bh hargs;refine ⟨C1 hf, fun F N ρ s a w hR hh vs hc => ?_⟩;refine Calls.mono (D9 hm hf (h := h) hlen h2 Mz (by rw [h3]; exact hrun) hR hh hc) fun e w' he => ?_;obtain ⟨v, rfl, hg, N'', ρ', s', a', y, hR', hy, hyy⟩ := he;rw [h1, Dx] at hR' hy;refine ⟨v, ρ, rfl, hR.grew hg, ?_⟩;rcases hyy with ⟨n, rfl, hn⟩ | ⟨z, rfl, rfl, hsz⟩
 · simp only [Conc] at hy ⊢;rw [hy.1];exact Ajr hR' hn
 · simp only [Conc] at hy ⊢;exact (Ap5 (by simp) (.inl rfl) (.refl [])) _ _ (hy.mono (Ns hR'))
theorem DeepOk.frz {f : Nat} {args args' : List SV} {h h' : Nat → Option Blk} {d d' : Nat} {x : SV} {u : List HU} {n sz : Nat} {es : List (List PV)} (hn : h n = some (.row sz es)) (ha : SV.frzL n (.sl false sz es) args = args')
 (hh' : ∀ k ∈ A3 args', (if k = n then none else (h k).map (Blk.frz n (.sl false sz es))) = h' k) (hf : FunOk P f args' h' d' x u) : DeepOk P f args h d x (.frz n (.sl false sz es) :: u) := by
 refine ⟨hf.1, fun F N ρ s a w hR hh vs hv => ?_⟩;subst ha;have hs : s.h n = some (.row sz es) := by rw [hh]; exact hn
 obtain ⟨hR', hV, hV2⟩ := hR.frz hs;have hp := (H8 hR hs).mono hV2;exact hf.2 F N ρ (s.frz n (.sl false sz es)) a w hR' (fun k hk => by rw [← hh' k hk]; simp only [FS.frz, hh]) vs (ConcL.frz hV hp hv)
theorem FunOk.deep {f : Nat} {args : List SV} {h : Nat → Option Blk} {d d' : Nat} {x : SV} {u : List HU} (hf : FunOk P f args h d x u) : DeepOk P f args h d' x u :=
 ⟨hf.1, fun F N ρ s a w hR hh vs hv => hf.2 F N ρ s a w hR (fun k _ => by rw [hh]) vs hv⟩
end Go.Proofs.YtpgnmmmcomhdcaaGreat.Fw
namespace Go.Proofs.YtpgnmmmcomhdcaaGreat.Fw
open Go.RowKit Go.Proofs
def Afk : List SV → List PV → Prop
 | [], cs => cs = []
 | .pv x :: l, cs => ∃ r, cs = x :: r ∧ Afk l r
 | .vec n c :: l, cs => c.length = n ∧ ∃ r, cs = c ++ r ∧ Afk l r
 | _ :: _, _ => False
theorem Qe {V : View} {ρ : Nat → Value} : ∀ {l : List SV} {cs : List PV} {vs : List Value}, Afk l cs → PCells V cs vs → Cells V ρ l vs
 | [], cs, vs, h, hp => by
   have h : cs = [] := h;subst h;simp only [Cells];exact List.eq_nil_of_length_eq_zero hp.1.symm
 | .pv x :: l, cs, vs, h, hp => by
   obtain ⟨r, rfl, h⟩ := h;simp only [Cells];obtain ⟨v, hv, hx⟩ := hp.2 0 x rfl;cases vs with
   | nil => cases hv
   | cons u us =>
     have : u = v := by simpa using hv
     subst this;have hf : An u = [u] := by have := hx.one; cases u <;> simp_all [An, Ay]
     refine ⟨u, us, by rw [hf]; rfl, by simp only [Conc]; exact hx, by rw [hf]; rfl, fun c hc => ?_, Qe h ⟨by simpa using hp.1, fun j y hy => by simpa using hp.2 (j + 1) y (by simpa using hy)⟩⟩;rw [hf] at hc;rw [List.mem_singleton.1 hc];exact hx.one
 | .vec n c :: l, cs, vs, h, hp => by
   obtain ⟨hn, r, rfl, h⟩ := h;simp only [Cells];have hl : c.length + r.length = vs.length := by simpa using hp.1
   have hA : PCells V c (vs.take n) := ⟨by simp; omega, fun j y hy => by
    have hj := (List.getElem?_eq_some_iff.1 hy).1;obtain ⟨v, h1, h2⟩ := hp.2 j y (by rw [List.getElem?_append_left hj]; exact hy);exact ⟨v, by rw [List.getElem?_take_of_lt (by omega)]; exact h1, h2⟩⟩
   refine ⟨.agg ⟨vs.take n⟩, vs.drop n, (List.take_append_drop n vs).symm, by simp only [Conc]; exact ⟨_, rfl, by simp; omega, hA⟩, by simp [An, SV.width]; omega, fun x hx => hA.one x hx, Qe h ⟨by simp; omega, fun j y hy => by
    obtain ⟨v, h1, h2⟩ := hp.2 (n + j) y (by rw [List.getElem?_append_right (by omega)]; simpa [hn] using hy);exact ⟨v, by rw [List.getElem?_drop]; exact h1, h2⟩⟩⟩
 | .agg _ :: _, _, _, h, _ => h.elim
 | .tup _ :: _, _, _, h, _ => h.elim
 | .p _ _ :: _, _, _, h, _ => h.elim
 | .ps _ _ :: _, _, _, h, _ => h.elim
 | .pr _ _ _ _ :: _, _, _, h, _ => h.elim
 | .pi _ _ _ _ :: _, _, _, h, _ => h.elim
 | .os _ :: _, _, _, h, _ => h.elim
 | .ov _ _ _ _ :: _, _, _, h, _ => h.elim
 | .fn _ _ :: _, _, _, h, _ => h.elim
 | .dead :: _, _, _, h, _ => h.elim
theorem Arg {l : List SV} {cs : List PV} {n : Nat} (h : Afk l cs) : Imp (.vec n cs) (.agg l) := by
 intro V ρ v hv;simp only [Conc] at hv ⊢;obtain ⟨vs, rfl, _, hp⟩ := hv;exact ⟨vs, rfl, Qe h hp⟩
def J8 (m : Msg) : Msg := { m with f := m.evs.isEmpty, z := if m.evs.isEmpty then 0 else 21, evs := m.evs.map Bt }
def evS (l : List Evt) (k : Nat) : SV := if k = 0 then .pv (.sl true 0 []) else if k = l.length then .pv (.sl false 21 (l.map B9)) else .os 60
def evK (l : List Evt) (k : Nat) : Option Blk := if k = 0 ∨ k = l.length then none else some (.row 21 ((l.take k).map B9))
theorem Amn (l : List Evt) : evS l 0 = .pv (.sl true 0 []) := if_pos rfl
theorem Amt (l : List Evt) : evK l 0 = none := if_pos (.inl rfl)
theorem Amm {l : List Evt} {k : Nat} (h : 0 < k ∧ k < l.length) : evS l k = .os 60 := by unfold evS; rw [if_neg (by omega), if_neg (by omega)]
theorem Ams {l : List Evt} {k : Nat} (h : 0 < k ∧ k < l.length) : evK l k = some (.row 21 ((l.take k).map B9)) := if_neg (by omega)
theorem Aml {l : List Evt} {k : Nat} (h : 0 < k ∧ k = l.length) : evS l k = .pv (.sl false 21 (l.map B9)) := by unfold evS; rw [if_neg (by omega), if_pos h.2]
theorem Amr {l : List Evt} {k : Nat} (h : 0 < k ∧ k = l.length) : evK l k = none := if_pos (.inr h.2)
def tbM (m : Msg) (t : Nat → Vc) : Msg := { m with tb := t, f := true, z := 0, evs := [] }
theorem Afx (m : Msg) (t : Nat → Vc) {k : Nat} (hk : k < 8) (v : Vc) : splice (Dc (tbM m t)) (11 + k * 8) (vE v) = Dc (tbM m (Md t k v)) := by
 have e : tE (Md t k v) = splice (tE t) (k * 8) (vE v) := (Uz hk t v).symm;simp only [splice, Dc, tbM] at e ⊢;rw [e];have hk2 : k = 0 ∨ k = 1 ∨ k = 2 ∨ k = 3 ∨ k = 4 ∨ k = 5 ∨ k = 6 ∨ k = 7 := by omega
 rcases hk2 with rfl | rfl | rfl | rfl | rfl | rfl | rfl | rfl <;> rfl
def Mx (m : Msg) (x : SV) : List SV := [.pv (.i .i64 m.k), .pv (.i .i64 m.fr), .pv (.i .i64 m.to), .vec 8 (vE m.kn), .vec 64 (tE m.tb), x]
abbrev A0h : List SV := [.pv (.i .i64 0), .pv (.i .i64 0), .pv (.i .i64 0), .vec 8 (vE fun _ => 0), .vec 64 (tE fun _ _ => 0), .pv (.sl true 0 [])]
theorem Abj (m : Msg) : C9 (J8 m) = C9 m := by
 have e : (J8 m).evs.map O8 = m.evs.map O8 := by show (m.evs.map Bt).map O8 = _; rw [List.map_map]; exact List.map_congr_left fun e _ => rfl
 unfold C9 Bs;rw [e]; rfl
theorem Ak2 {m : Msg} (h : mv m) : mv (J8 m) := by
 obtain ⟨h1, h2, h3, h4, h5⟩ := h;refine ⟨?_, by show (m.evs.map Bt).length ≤ _; simpa using h2, fun e he => ?_, h4, h5⟩
 · show m.evs.map Bt = [] ∨ (if m.evs.isEmpty then 0 else 21) = 21;cases m.evs <;> simp
 · obtain ⟨x, hx, rfl⟩ := List.mem_map.1 (show e ∈ m.evs.map Bt from he);exact ⟨Am7 (h3 x hx).1, (h3 x hx).2⟩
theorem Ah2 (m : Msg) : C3 (J8 m) = C3 m := by
 have e : (J8 m).evs.all A4 = m.evs.all A4 := by
  show (m.evs.map Bt).all A4 = _;rw [List.all_map];congr 1;funext x;exact Q5 x
 have hH : Mp (J8 m) ↔ Mp m := by
  unfold Mp;rw [show (J8 m).evs.length = m.evs.length from List.length_map _];exact Iff.rfl
 by_cases h : Mp m
 · rw [Gg h, Gg (hH.2 h), e]
 · rw [Bl h, Bl fun g => h (hH.1 g)]
theorem Zk (m : Msg) (hm : mv m) (hc : C3 m = true) {x : SV} (hx : .agg (Me (J8 m)) = x) {h d} : FunOk Tryz.prog 6 [x] h d (.tup [.os d, .pv (.i .i64 0)]) [.new d (.row 1 (Ad (C9 m)))] := by
 subst hx;have hwr := Zj (J8 m) (Ak2 hm) ((Ah2 m).trans hc) (h := h) (d := d);rw [Abj] at hwr;exact hwr.imp ⟨Ow (Jg _) (Iu _), trivial⟩ (by simp [A3, tn])
theorem Aet (e : Evt) (K : KK) : Ol (cut (Sn e) 0 21) true (some (B9 e)) 0 21 K = K (.agg (Sn e)) [] := (rfl)
def Apf (m : Msg) (l : List UInt8) (k : Nat) : FS := mk [(89, .pv (.i .i64 k)), (88, .pv (.i .i64 m.evs.length)), (87, .pv (.sl false 1 ((m.evs.map O8).map bE))), (2, .p 2 0), (6, .p 6 0), (0, .pv (.sl false 1 (Ad l)))] [(6, some (.var (.agg (Mx m (evS (m.evs.map Bt) k))))), (60, evK (m.evs.map Bt) k), (2, some (.var (.agg A0h)))]
def Aup (m : Msg) (l : List UInt8) (E : List (List PV)) (k : Nat) : FS := mk [(65, .pv (.i .i64 k)), (2, .p 2 0), (4, .os 50), (6, .p 6 0), (0, .pv (.sl false 1 (Ad l)))] [(6, some (.var (.vec 76 (Dc (tbM m fun i => if i < k then m.tb i else v0))))), (50, some (.row 1 E)), (2, some (.var (.agg A0h)))]
set_option maxHeartbeats 8000000 in
theorem Aqa (m : Msg) (hm : mv m) (hc : C3 m = true) {h d} : FunOk Tryz.prog 9 [.pv (.sl false 1 (Ad (C9 m)))] h d (.tup [.agg (Me (J8 m)), .pv (.i .i64 0)]) [] := by
 refine I1 Ao fn9 (by simp) rfl rfl fun F => ?_;have hH := O0 hc;have hE := Xv hc;obtain ⟨h1, h2, h3, h4, h5⟩ := id hm;obtain ⟨q1, q2, q3, q4, q5, q6⟩ := hH;have hfl := J3 hm hc;have hfp := J2 hm hc;have hfn := Ld m;have hpl := Ft (Bs m);have hu : Cj (C9 m) [] 18 = (Bs m, 0) := Mr (Bs m) 18 (fun b hb => by have := hfl b hb; omega) (by omega);have hwl : (C9 m).length ≤ 65502 := by unfold C9; omega
 have hel : ((Bs m).map bE).length = 10 + m.evs.length := by simp [hfn]
 have f0 : ((Bs m).map bE)[0]? = some [.sl false 1 (Ad (La m))] := by simp [Bs, bE]
 have f1 : ((Bs m).map bE)[Int.toNat 1]? = some [.sl false 1 (Ad (A6 m.kn v0))] := by simp [Bs, bE]
 have ft : ∀ k, k < 8 → ((Bs m).map bE)[2 + k]? = some [.sl false 1 (Ad (A6 (m.tb k) m.kn))] := fun k hk => by
  rw [show 2 + k = k + 1 + 1 by omega];simp only [Bs, Ku, bE, List.cons_append, List.nil_append, List.map_cons, List.getElem?_cons_succ, List.map_append, List.map_map];rw [List.getElem?_append_left (by simpa using hk)];simp [hk]; rfl
 have fe : ((Bs m).map bE).drop 10 = (m.evs.map O8).map bE := by
  have : Bs m = ([La m, A6 m.kn v0] ++ Ku m 8) ++ m.evs.map O8 := by simp [Bs]
  rw [this, List.map_append, List.drop_left' (by simp [Ku])]
 have b0 : (Ad (La m))[0]? = some [.i .u8 ((UInt8.ofNat m.k.toNat).toNat : Int)] := rfl;have b1 : (Ad (La m))[Int.toNat 1]? = some [.i .u8 ((UInt8.ofNat m.fr.toNat).toNat : Int)] := rfl;have b2 : (Ad (La m))[Int.toNat 2]? = some [.i .u8 ((UInt8.ofNat m.to.toNat).toNat : Int)] := rfl;have bl : (Ad (La m)).length = 3 := rfl;have wb : ∀ n : Int, 0 ≤ n → n ≤ 8 → IntKind.i64.wrap ((UInt8.ofNat n.toNat).toNat : Int) = n := fun n h0 h8 => by
  rw [G3 (by omega), Int.toNat_of_nonneg h0]; exact Da (by omega)
 have w1 := wb m.k (by omega) (by omega);have w2 := wb m.fr (by omega) (by omega);have w3 := wb m.to (by omega) (by omega);have v0ok : ∀ i, i < 8 → v0 i < 4294967296 := fun i _ => by show 0 < _; omega
 have gk := Jw m.kn v0 h4 v0ok;have gke : vE (Gt (A6 m.kn v0) v0).1 = vE m.kn := Po gk.2;have skl := Hu m.kn v0 h4 v0ok;generalize hEE : (Bs m).map bE = E at *;simp (disch := omega) only [ir9, go_sem];refine Aa (Sz (f := false) (z := 1) (b := C9 m) (most := 18) (.inr rfl) (by omega)) ?_;rw [hu, hEE]
 (try simp only [Ek, Ej, Ei, Eh, Eg, Ef, Ee, Ed]); simp (disch := omega) only [hel, f0, b0, b1, b2, bl, w1, w2, w3, Ti, C6, f1, go_sem]
 refine Aa (Acg v0 v0ok (by omega) rfl rfl (.inr rfl)) ?_;simp (disch := omega) only [gk.1, gke, go_sem];refine A2 Ao (Aup m (C9 m) E) (fun k => k ≤ 8) (fun k => 8 - k) 0 (by simp) (Dt 16 50 (by decide) rfl (Au ?_ ?_)) fun k hk => ?_
 · simp (disch := omega) only [go_sem]
 · simp (disch := omega) only [go_sem];refine Ow ?_ (Iu _);rw [Dc, show tE (tbM m fun i => if i < 0 then m.tb i else v0).tb = tE (fun _ _ => 0) from Ao4 m.tb (fun _ => v0) rfl];rfl
 by_cases hlt : k < 8
 · have fk := ft k hlt;have en : ((2 : Int) + (k : Int)) = ((2 + k : Nat) : Int) := by omega
   have gt := Jw (m.tb k) m.kn (h5 k hlt) h4;have gte : vE (Gt (A6 (m.tb k) m.kn) m.kn).1 = vE (m.tb k) := Po gt.2;have tl := Hu (m.tb k) m.kn (h5 k hlt) h4;have hsp := Afx m (fun i => if i < k then m.tb i else v0) hlt (m.tb k);have hkn : ∀ t, (tbM m t).kn = m.kn := fun _ => rfl;simp (disch := omega) only [Aup, hlt, en, fk, hel, Ti, hkn, go_sem];refine Aa (Acg (l := A6 (m.tb k) m.kn) m.kn h4 (by omega) rfl rfl (.inr rfl)) ?_;simp (disch := omega) only [gt.1, gte, hsp, go_sem];refine Az (k + 1) _ _ rfl (by omega) (by omega) ?_ ?_
   · simp (disch := omega) only [go_sem]
   · simp (disch := omega) only [go_sem];refine Arf ?_;rw [Dc, Dc, show tE (tbM m (Md (fun i => if i < k then m.tb i else v0) k (m.tb k))).tb = tE (tbM m fun i => if i < k + 1 then m.tb i else v0).tb from Abn _ _ _ fun i hi => rfl];rfl
 obtain rfl : k = 8 := by omega
 have htb : tE (tbM m fun i => if i < 8 then m.tb i else v0).tb = tE m.tb := Aud _ _ (Nat.le_refl 8);have etk : List.take (10 + m.evs.length) E = E := List.take_of_length_le (by omega);have e10 : Int.toNat 10 = 10 := rfl;simp (disch := omega) only [Aup, hel, etk, e10, fe, List.length_map, go_sem];refine A2 Ao (Apf m (C9 m)) (fun k => k ≤ m.evs.length) (fun k => m.evs.length - k) 0 (by simp) (Au ?_ ?_) fun k hk => ?_
 · simp (disch := omega) only [go_sem]
 · simp (disch := omega) only [Mx, Amn, Amt, go_sem];refine Arg ⟨_, rfl, _, rfl, _, rfl, Lq _, _, rfl, Ux _, [.sl true 0 []], ?_, _, rfl, rfl⟩;rw [← htb]; rfl
 by_cases hlt : k < m.evs.length
 · have he : ((m.evs.map O8).map bE)[k]? = some [.sl false 1 (Ad (O8 m.evs[k]))] := by simp [hlt]; rfl
   have hmem := List.getElem_mem hlt;have hce := hE _ hmem;have hev := (h3 _ hmem).1;have ht : ((m.evs.map Bt).take (k + 1)).map B9 = ((m.evs.map Bt).take k).map B9 ++ [B9 (Bt m.evs[k])] := by
    rw [List.take_add_one, List.getElem?_eq_getElem (by simpa using hlt)]; simp
   have hvl := Ac (Bt m.evs[k]);have hkl : ((m.evs.map Bt).take k).length ≤ 8 := by simp; omega
   have hkl' : (((m.evs.map Bt).take k).map B9).length ≤ 8 := by simpa using hkl
   have hz := Ac (Bt m.evs[k]);generalize m.evs[k] = e at *;generalize hN : m.evs.map Bt = N at *;have hNl : N.length = m.evs.length := by rw [← hN]; simp
   simp (disch := omega) only [Apf, Mx, hlt, he, Ti, List.length_map, hN, go_sem];refine Aa (Age e hce hev) ?_;by_cases hk0 : k = 0
   · subst hk0;rw [List.take_zero, List.map_nil, List.nil_append, Nat.zero_add] at ht;have h0 : ([B9 (Bt e)] = []) = False := by simp
     simp (disch := omega) only [Amn, Amt, U0, Aet, hz, h0, go_sem];by_cases hn : 1 < m.evs.length
     · have sS := Amm (l := N) (k := 1) ⟨by omega, by omega⟩;have sK := Ams (l := N) (k := 1) ⟨by omega, by omega⟩;refine ⟨1, by omega, by omega, Dt 105 60 (by decide) rfl (Au ?_ ?_)⟩
       · simp (disch := omega) only [go_sem]
       · simp (disch := omega) only [ht, Mx, sS, sK, hN, go_sem]
     · have sS := Aml (l := N) (k := 1) ⟨by omega, by omega⟩;have sK := Amr (l := N) (k := 1) ⟨by omega, by omega⟩;have htk : N.take (1) = N := List.take_of_length_le (by omega);rw [htk] at ht;refine ⟨1, by omega, by omega, Sb 105 rfl (Au ?_ ?_)⟩
       · simp (disch := omega) only [hN, go_sem]
       · simp (disch := omega) only [ht, Mx, sS, sK, hN, go_sem]
   · have sS0 := Amm (l := N) (k := k) ⟨by omega, by omega⟩;have sK0 := Ams (l := N) (k := k) ⟨by omega, by omega⟩;simp (disch := omega) only [sS0, sK0, U0, Aet, hz, go_sem];by_cases hn : k + 1 < m.evs.length
     · have sS := Amm (l := N) (k := k + 1) ⟨by omega, by omega⟩;have sK := Ams (l := N) (k := k + 1) ⟨by omega, by omega⟩;refine ⟨k + 1, by omega, by omega, Dt 105 60 (by decide) rfl (Au ?_ ?_)⟩
       · simp (disch := omega) only [go_sem]
       · simp (disch := omega) only [ht, Mx, sS, sK, hN, go_sem]
     · have sS := Aml (l := N) (k := k + 1) ⟨by omega, by omega⟩;have sK := Amr (l := N) (k := k + 1) ⟨by omega, by omega⟩;have htk : N.take (k + 1) = N := List.take_of_length_le (by omega);rw [htk] at ht;refine ⟨k + 1, by omega, by omega, Sb 105 rfl (Au ?_ ?_)⟩
       · simp (disch := omega) only [hN, go_sem]
       · simp (disch := omega) only [ht, Mx, sS, sK, hN, go_sem]
 obtain rfl : k = m.evs.length := by omega
 by_cases h0 : m.evs = []
 · have hcan : Me (J8 m) = Mx m (.pv (.sl true 0 [])) := by simp [Me, J8, Mx, h0]
   have hl0 : m.evs.length = 0 := by simp [h0]
   simp (disch := omega) only [Apf, hl0, Amn, Amt, Mx, go_sem];refine Aa (Zk m hm hc (congrArg SV.agg hcan)) ?_;simp (disch := omega) only [go_sem];refine Aa (Aeo (f := false) (g := false) (y := 1) (z := 1) (a := C9 m) (b := C9 m) rfl rfl (.inr rfl) (.inr rfl) (by omega) (by omega)) ?_
   (try simp only [Ek, Ej, Ei, Eh, Eg, Ef, Ee, Ed]); simp (disch := omega) only [hcan, Mx, go_sem]
   refine ⟨_, .same _, ?_⟩
   (try simp only [Ek, Ej, Ei, Eh, Eg, Ef, Ee, Ed]); simp (disch := omega) only [go_sem]
 have hpos := List.length_pos_iff.2 h0;have sS := Aml (l := m.evs.map Bt) (k := m.evs.length) ⟨hpos, by simp⟩;have sK := Amr (l := m.evs.map Bt) (k := m.evs.length) ⟨hpos, by simp⟩;have hcan : Me (J8 m) = Mx m (.pv (.sl false 21 ((m.evs.map Bt).map B9))) := by
  have : m.evs.isEmpty = false := by simp [h0]
  simp only [Me, J8, Mx, this]; rfl
 simp (disch := omega) only [Apf, sS, sK, Mx, go_sem];refine Aa (Zk m hm hc (congrArg SV.agg hcan)) ?_;simp (disch := omega) only [go_sem];refine Aa (Aeo (f := false) (g := false) (y := 1) (z := 1) (a := C9 m) (b := C9 m) rfl rfl (.inr rfl) (.inr rfl) (by omega) (by omega)) ?_
 (try simp only [Ek, Ej, Ei, Eh, Eg, Ef, Ee, Ed]); simp (disch := omega) only [hcan, Mx, go_sem]
 refine ⟨_, .same _, ?_⟩
 (try simp only [Ek, Ej, Ei, Eh, Eg, Ef, Ee, Ed]); simp (disch := omega) only [go_sem]
noncomputable def E6 (l m : List Evt) : Bool := decide (l.length = m.length) && (l.zip m).all fun p => Cm p.1 p.2
def A2z (f : Bool) (z : Nat) (l : List Evt) : Prop := (l = [] ∨ z = 21) ∧ l.length ≤ 1000 ∧ ∀ e ∈ l, ev e
def Sk (f g : Bool) (y z : Nat) (l m : List Evt) (k : Nat) : FS := mk [(5, .pv (.i .i64 k)), (0, .pv (.sl f y (l.map B9))), (1, .pv (.sl g z (m.map B9)))] []
set_option maxHeartbeats 2000000 in
theorem Akd {f g : Bool} {y z : Nat} {l m : List Evt} (hl : A2z f y l) (hm : A2z g z m) {h d} :
 FunOk Tryz.prog 33 [.pv (.sl f y (l.map B9)), .pv (.sl g z (m.map B9))] h d (.pv (.b (E6 l m))) [] := by
 refine Aq Ao fn33 (by simp) rfl rfl fun F => ?_;obtain ⟨l1, l2, l3⟩ := hl;obtain ⟨m1, m2, m3⟩ := hm;by_cases hn : l.length = m.length;rotate_left
 · have e : E6 l m = false := by simp [E6, hn]
   have hz : ¬ (l.length : Int) = (m.length : Int) := by omega
   simp (disch := omega) only [ir33, List.length_map, hz, e, go_sem]
 have hz : (l.length : Int) = (m.length : Int) := by omega
 have e0 : E6 l m = (l.zip m).all fun p => Cm p.1 p.2 := by simp [E6, hn]
 simp (disch := omega) only [ir33, List.length_map, hz, go_sem];refine A2 Ao (Sk f g y z l m) (fun k => k ≤ l.length ∧ ∀ j, (h1 : j < l.length) → (h2 : j < m.length) → j < k → Cm l[j] m[j] = true) (fun k => l.length - k) 0 (by simp) (Au ?_ ?_) fun k hk => ?_
 · simp (disch := omega) only [go_sem]
 · simp (disch := omega) only [go_sem]
 obtain ⟨hk1, hk2⟩ := hk;by_cases hlt : k < l.length
 · have hlm : k < m.length := by omega
   have hy2 : y = 21 := l1.resolve_left fun e => by subst e; simp at hlt
   have hz2 : z = 21 := m1.resolve_left fun e => by subst e; simp at hlm
   subst hy2 hz2;have he : (l.map B9)[k]? = some (B9 l[k]) := by simp [hlt]
   have hf : (m.map B9)[k]? = some (B9 m[k]) := by simp [hlm]
   have ha := l3 _ (List.getElem_mem hlt);have hb := m3 _ (List.getElem_mem hlm);simp (disch := omega) only [Sk, List.length_map, he, hf, Ev, go_sem];refine Aa (Akb l[k] m[k] ⟨ha.1, ha.2.1, ha.2.2.1, ha.2.2.2.1⟩ ⟨hb.1, hb.2.1, hb.2.2.1, hb.2.2.2.1⟩) ?_;by_cases hs : Cm l[k] m[k] = true
   · simp (disch := omega) only [hs, go_sem];refine Az (k + 1) _ _ rfl ⟨by omega, fun j h1 h2 hjk => ?_⟩ (by omega) ?_ ?_
     · by_cases e : j = k
       · subst e; exact hs
       · exact hk2 j h1 h2 (by omega)
     · simp (disch := omega) only [go_sem]
     · simp (disch := omega) only [go_sem]
   · have hs' : Cm l[k] m[k] = false := by simpa using hs
     have e : E6 l m = false := by
      rw [e0, List.all_eq_false];exact ⟨(l[k], m[k]), List.mem_iff_getElem.2 ⟨k, by simp; omega, by simp⟩, by simp [hs']⟩
     simp (disch := omega) only [hs', e, go_sem]
 · obtain rfl : k = l.length := by omega
   have e : E6 l m = true := by
    rw [e0, List.all_eq_true];intro p hp;obtain ⟨j, hj, rfl⟩ := List.getElem_of_mem hp;have hj' : j < l.length ∧ j < m.length := by simp at hj; omega
    rw [List.getElem_zip];exact hk2 j hj'.1 hj'.2 hj'.1
   simp (disch := omega) only [Sk, List.length_map, e, go_sem]
noncomputable def E5 (a b : Msg) : Bool := decide (a.k = b.k) && (decide (a.fr = b.fr) && (decide (a.to = b.to) && (decide (vEq a.kn b.kn) && (decide (tEq a.tb b.tb) && E6 a.evs b.evs))))
set_option maxHeartbeats 8000000 in
theorem Ap9 (a b : Msg) (ha : mv a) (hb : mv b) {h d} : FunOk Tryz.prog 11 [.vec 76 (Dc a), .vec 76 (Dc b)] h d (.pv (.b (E5 a b))) [] := by
 refine Aq Ao fn11 (by simp) rfl rfl fun F => ?_;by_cases c1 : a.k = b.k;rotate_left
 · have e : E5 a b = false := by simp [E5, c1]
   simp (disch := omega) only [ir11, c1, e, go_sem]
 by_cases c2 : a.fr = b.fr;rotate_left
 · have e : E5 a b = false := by simp [E5, c2]
   simp (disch := omega) only [ir11, c1, c2, e, go_sem]
 by_cases c3 : a.to = b.to;rotate_left
 · have e : E5 a b = false := by simp [E5, c3]
   simp (disch := omega) only [ir11, c1, c2, c3, e, go_sem]
 by_cases c4 : vEq a.kn b.kn;rotate_left
 · have e : E5 a b = false := by simp [E5, c4]
   simp (disch := omega) only [ir11, c1, c2, c3, c4, Bj, Cf, e, go_sem]
 by_cases c5 : tEq a.tb b.tb;rotate_left
 · have e : E5 a b = false := by simp [E5, c5]
   simp (disch := omega) only [ir11, c1, c2, c3, c4, c5, Bj, Cf, Xt, Ab9, e, go_sem]
 have e : E5 a b = E6 a.evs b.evs := by simp [E5, c1, c2, c3, c4, c5]
 simp (disch := omega) only [ir11, c1, c2, c3, c4, c5, Bj, Cf, Xt, Ab9, go_sem];refine Aa (Akd ⟨ha.1, ha.2.1, fun e he => (ha.2.2.1 e he).1⟩ ⟨hb.1, hb.2.1, fun e he => (hb.2.2.1 e he).1⟩) ?_;simp (disch := omega) only [e, go_sem]
theorem Akc (a b : Msg) (ha : mv a) (hb : mv b) {h d} : FunOk Tryz.prog 11 [.agg (Me a), .vec 76 (Dc b)] h d (.pv (.b (E5 a b))) [] :=
 (Ap9 a b ha hb).imp ⟨Ow (Jg a) (Iu a), Imp.refl _, trivial⟩ (by simp [A3, tn])
theorem Y4 : ∀ l : List Evt, (l.zip (l.map Bt)).all (fun p => Cm p.1 p.2) = true
 | [] => rfl
 | e :: l => by simp only [List.map_cons, List.zip_cons_cons, List.all_cons, Y4 l, Af1, Bool.and_self]
theorem Ab1 (m : Msg) : E5 m (J8 m) = true := by
 have e : E6 m.evs (m.evs.map Bt) = true := by
  unfold E6;rw [Y4, List.length_map]; simp
 have h1 : vEq m.kn m.kn := fun _ _ => rfl;have h2 : tEq m.tb m.tb := fun _ _ _ _ => rfl;show (decide (m.k = m.k) && (decide (m.fr = m.fr) && (decide (m.to = m.to) && (decide (vEq m.kn m.kn) && (decide (tEq m.tb m.tb) && E6 m.evs (m.evs.map Bt)))))) = true;rw [e];simp [h1, h2]
mutual
theorem Aeb {π : Nat → Nat} : ∀ {x : SV}, x.closed = true → x.rn π = x
 | .pv _, _ => rfl
 | .vec _ _, _ => rfl
 | .pi _ _ _ _, _ => rfl
 | .dead, _ => rfl
 | .agg l, h => by simp only [SV.closed] at h; simp only [SV.rn, Sr h]
 | .tup l, h => by simp only [SV.closed] at h; simp only [SV.rn, Sr h]
 | .fn f l, h => by simp only [SV.closed] at h; simp only [SV.rn, Sr h]
 | .p _ _, h => by simp [SV.closed] at h
 | .ps _ _, h => by simp [SV.closed] at h
 | .pr _ _ _ _, h => by simp [SV.closed] at h
 | .os _, h => by simp [SV.closed] at h
 | .ov _ _ _ _, h => by simp [SV.closed] at h
theorem Sr {π : Nat → Nat} : ∀ {l : List SV}, SV.closedL l = true → SV.rnL π l = l
 | [], _ => rfl
 | x :: l, h => by
   simp only [SV.closedL, Bool.and_eq_true] at h;simp only [SV.rnL, Aeb h.1, Sr h.2]
end
mutual
theorem Az8 : ∀ {x : SV}, x.closed = true → tn x = []
 | .pv _, _ => rfl
 | .vec _ _, _ => rfl
 | .pi _ _ _ _, _ => rfl
 | .dead, _ => rfl
 | .agg l, h => by simp only [SV.closed] at h; simp only [tn, Nx h]
 | .tup l, h => by simp only [SV.closed] at h; simp only [tn, Nx h]
 | .fn f l, h => by simp only [SV.closed] at h; simp only [tn, Nx h]
 | .p _ _, h => by simp [SV.closed] at h
 | .ps _ _, h => by simp [SV.closed] at h
 | .pr _ _ _ _, h => by simp [SV.closed] at h
 | .os _, h => by simp [SV.closed] at h
 | .ov _ _ _ _, h => by simp [SV.closed] at h
theorem Nx : ∀ {l : List SV}, SV.closedL l = true → A3 l = []
 | [], _ => rfl
 | x :: l, h => by
   simp only [SV.closedL, Bool.and_eq_true] at h;simp only [A3, Az8 h.1, Nx h.2, List.append_nil]
end
theorem Atk (a m : Nat) : sw1 a m a = m := if_pos rfl
theorem FunOk.io {P : Program} {f : Nat} {a : List SV} {c c' x : SV} (hf : ∀ h d, h 900 = some (.var c) → FunOk P f (.p 900 0 :: a) h d x [.upd 900 (.var c')]) (ha : SV.closedL a = true) (hx : x.closed = true) (hc : c.closed = true) (hc' : c'.closed = true) {g : Nat} {h : Nat → Option Blk} {d : Nat} (hg : h g = some (.var c)) :
 FunOk P f (.p g 0 :: a) h d x [.upd g (.var c')] := by
 have h1 := (hf (fun k => h (sw1 900 g k)) d (by show h (sw1 900 g 900) = _; rw [Atk]; exact hg)).rn (π := sw1 900 g) (Ad3 900 g) (d' := d);simp only [SV.rnL, SV.rn, HU.rn, Blk.rn, List.map_cons, List.map_nil, Atk, Sr ha, Aeb hx, Aeb hc'] at h1;refine h1.at fun n hn => ?_;simp only [A3, tn, Nx ha, List.append_nil, List.mem_singleton] at hn;subst hn;simp only [Ad3, hg, Option.map_some, Blk.rn, Aeb hc]
theorem FunOk.quiet {P : Program} {f : Nat} {args : List SV} {h : Nat → Option Blk} {d g : Nat} {x : SV} {blk : Blk} (hf : FunOk P f args h d x [.upd g blk]) (hg : h g = some blk) (hin : g ∈ A3 args) : FunOk P f args h d x [] :=
 ⟨hf.1, fun F N ρ s a w hR hh vs hc => by
  have hs : s.h g = some blk := (hh g hin).trans hg;have e : s.hup [.upd g blk] = s := FS.ext' (fun _ => rfl) fun n => by
   simp only [FS.hup, FS.seth];split
   · rename_i e; rw [e]; exact hs.symm
   · rfl
  have := hf.2 F N ρ s a w hR hh vs hc;rw [e] at this;exact this⟩
theorem Zs (m : Msg) (K : KK) : Ol (cut (Me m) 0 76) true (some (Dc m)) 0 76 K = K (.agg (Me m)) [] := (rfl)
structure Act where
 kind : Int
 m : Msg
 at_ : Int
abbrev Aji : Sh := .st [.int .i64, .int .i64, .int .i64, .arr 8 (.int .u32), .arr 8 (.arr 8 (.int .u32)), .sl Ajj]
def okE (e : Evt) : Prop := (∀ i, i < 8 → e.dep i < 4294967296) ∧ e.gone.ok ∧ e.base.ok
def okM (m : Msg) : Prop := (m.evs = [] ∨ m.z = 21) ∧ (∀ e ∈ m.evs, okE e) ∧ (∀ i, i < 8 → m.kn i < 4294967296) ∧ ∀ i, i < 8 → ∀ j, j < 8 → m.tb i j < 4294967296
theorem Aze {cs : List PV} (h : GC Aji cs) : ∃ m : Msg, cs = Dc m ∧ okM m := by
 simp only [GC] at h;simp only [GCL] at h;obtain ⟨c0, r0, rfl, ⟨n0, rfl, w0⟩, c1, r1, rfl, ⟨n1, rfl, w1⟩, c2, r2, rfl, ⟨n2, rfl, w2⟩, c3, r3, rfl, g3, c4, r4, rfl, g4, c5, r5, rfl, g5, rfl⟩ := h;obtain ⟨a, rfl, ha⟩ := Aok (by simp only [GC]; exact g3);obtain ⟨t, rfl, ht⟩ := A33 (by simp only [GC]; exact g4);obtain ⟨es, rfl, l6, g6⟩ := Aol (s := Ajj) (by simp only [GC]; exact g5);obtain ⟨m6, rfl, h6⟩ := X1 (f := B9) Azf g6;exact ⟨⟨n0, n1, n2, a, t, false, 21, m6⟩, by simp [Dc]; rfl, .inr rfl, fun e he => ⟨(h6 e he).1, (h6 e he).2.1, (h6 e he).2.2.1⟩, ha, ht⟩
def Axq (e : Evt) : Prop := e.name.length ≤ 30 ∧ e.data.length ≤ 250 ∧ e.gone.l.length ≤ 10 ∧ e.base.l.length ≤ 10
end Go.Proofs.YtpgnmmmcomhdcaaGreat.Fw
namespace Go.Proofs.YtpgnmmmcomhdcaaGreat.Fw
open Go.RowKit Go.Proofs
section iov
variable {P : Program}
end iov
end Go.Proofs.YtpgnmmmcomhdcaaGreat.Fw
namespace Go.Proofs.YtpgnmmmcomhdcaaGreat.Fw
open Go.RowKit Go.Proofs
theorem Af4 (e x : Evt) : Cm (Bt e) x = Cm e x := rfl
theorem Af3 (l m : List Evt) : E6 (l.map Bt) m = E6 l m := by
 unfold E6;rw [List.length_map];congr 1
 induction l generalizing m with
 | nil => rfl
 | cons e l ih =>
   cases m with
   | nil => rfl
   | cons x m => simp only [List.map_cons, List.zip_cons_cons, List.all_cons, Af4, ih]
theorem Af2 (m w : Msg) : E5 (J8 m) w = E5 m w := by
 show (decide (m.k = w.k) && (decide (m.fr = w.fr) && (decide (m.to = w.to) && (decide (vEq m.kn w.kn) && (decide (tEq m.tb w.tb) && E6 (m.evs.map Bt) w.evs))))) = _;rw [Af3]; rfl
def Ai2 (m : Msg) (k : Nat) : FS := mk [(3, .pv (.i .i64 k)), (1, .p 1 0)] [(1, some (.var (.vec 76 (Dc m))))]
set_option maxHeartbeats 8000000 in
theorem Lw (m : Msg) (hm : mv m) {h d} : FunOk Tryz.prog 8 [.vec 76 (Dc m)] h d (.pv (.b (C3 m))) [] := by
 refine Aq Ao fn8 (by simp) rfl rfl fun F => ?_;obtain ⟨h1, h2, h3, h4, h5⟩ := hm;by_cases a1 : m.k < 1
 · have e := Bl (m := m) fun h => by have := h.1; omega
   simp (disch := omega) only [ir8, a1, e, go_sem]
 by_cases a2 : 2 < m.k
 · have e := Bl (m := m) fun h => by have := h.1; omega
   simp (disch := omega) only [ir8, a1, a2, e, go_sem]
 by_cases a3 : m.fr < 1
 · have e := Bl (m := m) fun h => by have := h.2.1; omega
   simp (disch := omega) only [ir8, a1, a2, a3, e, go_sem]
 by_cases a4 : 8 < m.fr
 · have e := Bl (m := m) fun h => by have := h.2.1; omega
   simp (disch := omega) only [ir8, a1, a2, a3, a4, e, go_sem]
 by_cases a5 : m.to < 1
 · have e := Bl (m := m) fun h => by have := h.2.2.1; omega
   simp (disch := omega) only [ir8, a1, a2, a3, a4, a5, e, go_sem]
 by_cases a6 : 8 < m.to
 · have e := Bl (m := m) fun h => by have := h.2.2.1; omega
   simp (disch := omega) only [ir8, a1, a2, a3, a4, a5, a6, e, go_sem]
 by_cases a7 : m.fr = m.to
 · have e := Bl (m := m) fun h => h.2.2.2.1 a7;have a3' : ¬ m.to < 1 := a5;simp (disch := omega) only [ir8, a1, a2, a3, a4, a5, a6, a7, e, go_sem]
 by_cases a8 : (8 : Int) < (m.evs.length : Int)
 · have e := Bl (m := m) fun h => by have := h.2.2.2.2.1; omega
   simp (disch := omega) only [ir8, List.length_map, a1, a2, a3, a4, a5, a6, a7, a8, e, go_sem]
 by_cases k1 : m.k = 1
 · by_cases a9 : (0 : Int) < (m.evs.length : Int)
   · have e := Bl (m := m) fun h => by have := h.2.2.2.2.2 k1; omega
     simp (disch := omega) only [ir8, List.length_map, k1, a3, a4, a5, a6, a7, a8, a9, e, go_sem]
   have hH : Mp m := ⟨.inl k1, by omega, by omega, a7, by omega, fun _ => by omega⟩
   simp (disch := omega) only [ir8, List.length_map, k1, a3, a4, a5, a6, a7, a8, a9, go_sem];refine A2 Ao (Ai2 m) (fun k => k ≤ m.evs.length) (fun k => m.evs.length - k) 0 (by simp) (Au ?_ ?_) fun k hk => ?_
   · simp (disch := omega) only [go_sem]
   · simp (disch := omega) only [go_sem]
   obtain rfl : k = m.evs.length := by omega
   have e : C3 m = true := by
    rw [Gg hH, List.all_eq_true];intro x hx;obtain ⟨j, hj, rfl⟩ := List.getElem_of_mem hx;omega
   simp (disch := omega) only [Ai2, List.length_map, e, go_sem]
 · have hH : Mp m := ⟨.inr (by omega), by omega, by omega, a7, by omega, fun h => absurd h k1⟩
   simp (disch := omega) only [ir8, List.length_map, k1, a1, a2, a3, a4, a5, a6, a7, a8, go_sem];refine A2 Ao (Ai2 m) (fun k => k ≤ m.evs.length ∧ ∀ j, (hj : j < m.evs.length) → j < k → A4 m.evs[j] = true) (fun k => m.evs.length - k) 0 (by simp) (Au ?_ ?_) fun k hk => ?_
   · simp (disch := omega) only [go_sem]
   · simp (disch := omega) only [go_sem]
   obtain ⟨hk1, hk2⟩ := hk;by_cases hlt : k < m.evs.length
   · have hz2 : m.z = 21 := h1.resolve_left fun e => by rw [e] at hlt; simp at hlt
     have he : (m.evs.map B9)[k]? = some (B9 m.evs[k]) := by simp [hlt]
     have hmem := List.getElem_mem hlt;simp (disch := omega) only [Ai2, List.length_map, hz2, he, Ev, go_sem];refine Aa (Akm m.evs[k] (h3 _ hmem).1 (h3 _ hmem).2) ?_;by_cases hp : A4 m.evs[k] = true
     · simp (disch := omega) only [hp, go_sem];refine Az (k + 1) _ _ rfl ⟨by omega, fun j hj hjk => ?_⟩ (by omega) ?_ ?_
       · by_cases e : j = k
         · subst e; exact hp
         · exact hk2 j hj (by omega)
       · simp (disch := omega) only [go_sem]
       · simp (disch := omega) only [go_sem]
     · have hp' : A4 m.evs[k] = false := by simpa using hp
       have e : C3 m = false := by
        rw [Gg hH, List.all_eq_false];exact ⟨_, hmem, by simp [hp']⟩
       simp (disch := omega) only [hp', e, go_sem]
   · obtain rfl : k = m.evs.length := by omega
     have e : C3 m = true := by
      rw [Gg hH, List.all_eq_true];intro x hx;obtain ⟨j, hj, rfl⟩ := List.getElem_of_mem hx;exact hk2 j hj hj
     simp (disch := omega) only [Ai2, List.length_map, e, go_sem]
theorem Aho (m : Msg) (k : Nat) : (Gw m (k + 1) 0).map sE = (Gw m k 0).map sE ++ [[PV.s (A6 (m.tb k) m.kn)]] := by
 have e : (Gw m (k + 1) 0) = Gw m k 0 ++ [A6 (m.tb k) m.kn] := by unfold Gw; rw [My, List.take_zero]; simp
 rw [e, List.map_append]; rfl
theorem Amd {m : Msg} {j : Nat} (h : j < m.evs.length) : (Gw m 8 (j + 1)).map sE = (Gw m 8 j).map sE ++ [[PV.s (O8 m.evs[j])]] := by
 have e : Gw m 8 (j + 1) = Gw m 8 j ++ [O8 m.evs[j]] := by
  simp only [Gw, List.take_add_one, List.getElem?_eq_getElem h, List.map_append, List.map_cons, List.map_nil, Option.toList_some, List.append_assoc, List.cons_append, List.nil_append]
 rw [e, List.map_append]; rfl
theorem Awn (m : Msg) {k : Nat} (hk : k < 8) (K : KK) : LoadK (some (Dc m)) (11 + k * 8) 8 true K = K (.vec 8 (vE (m.tb k))) [] := by
 have e : ((Dc m).drop (11 + k * 8)).take 8 = vE (m.tb k) := by
  obtain rfl | rfl | rfl | rfl | rfl | rfl | rfl | rfl : k = 0 ∨ k = 1 ∨ k = 2 ∨ k = 3 ∨ k = 4 ∨ k = 5 ∨ k = 6 ∨ k = 7 := by omega
  all_goals rfl
 simp only [LoadK, Jq, eq_iff_iff, e];exact ⟨fun h => h.2.2, fun h => ⟨by rw [Iu]; omega, .inl trivial, h⟩⟩
def Aul (m : Msg) (k : Nat) : FS := mk [(4, .pv (.i .i64 k)), (3, .os 50), (1, .p 1 0)] [(1, some (.var (.vec 76 (Dc m)))), (50, some (.row 1 ((Gw m k 0).map sE)))]
def Aum (m : Msg) (k : Nat) : FS := mk [(5, .pv (.i .i64 k)), (3, .os 50), (1, .p 1 0)] [(1, some (.var (.vec 76 (Dc m)))), (50, some (.row 1 ((Gw m 8 k).map sE)))]
set_option maxHeartbeats 8000000 in
theorem Agc (m : Msg) (hm : mv m) (hc : C3 m = true) {h d} : FunOk Tryz.prog 10 [.vec 76 (Dc m)] h d (.pv (.s (C9 m))) [] := by
 refine Aq Ao fn10 (by simp) rfl rfl fun F => ?_;have hH := O0 hc;have hE := Xv hc;obtain ⟨h1, h2, h3, h4, h5⟩ := id hm;obtain ⟨q1, q2, q3, q4, q5, q6⟩ := hH;have w1 := Vp (n := m.k) (by omega) (by omega);have w2 := Vp (n := m.fr) (by omega) (by omega);have w3 := Vp (n := m.to) (by omega) (by omega);have v0ok : ∀ i, i < 8 → v0 i < 4294967296 := fun i _ => by show 0 < _; omega
 have e1 : [[PV.i IntKind.u8 ((UInt8.ofNat m.k.toNat).toNat : Int)], [PV.i IntKind.u8 ((UInt8.ofNat m.fr.toNat).toNat : Int)], [PV.i IntKind.u8 ((UInt8.ofNat m.to.toNat).toNat : Int)]] = Ad (La m) := rfl;simp (disch := omega) only [ir10, w1, w2, w3, e1, go_sem];refine Aa (Pw m.kn v0 h4 v0ok) ?_;simp (disch := omega) only [go_sem];refine A2 Ao (Aul m) (fun k => k ≤ 8) (fun k => 8 - k) 0 (by simp) (Dt 23 50 (by decide) rfl (Au ?_ ?_)) fun k hk => ?_
 · simp (disch := omega) only [go_sem]
 · simp (disch := omega) only [go_sem];rfl
 by_cases hlt : k < 8
 · have hR := Awn m hlt;simp (disch := omega) only [Aul, hlt, hR, go_sem];refine Aa (Pw (m.tb k) m.kn (h5 k hlt) h4) ?_;have hl := O5 m k 0;have hf := Aho m k;simp (disch := omega) only [List.length_map, go_sem];refine ⟨k + 1, by omega, by omega, Dt 37 50 (by decide) rfl (Au ?_ ?_)⟩
   · simp (disch := omega) only [go_sem]
   · simp (disch := omega) only [hf, go_sem]
 obtain rfl : k = 8 := by omega
 simp (disch := omega) only [Aul, go_sem];refine A2 Ao (Aum m) (fun k => k ≤ m.evs.length) (fun k => m.evs.length - k) 0 (by simp) (Au ?_ ?_) fun j hj => ?_
 · simp (disch := omega) only [go_sem]
 · simp (disch := omega) only [go_sem]
 by_cases hlj : j < m.evs.length
 · have hz2 : m.z = 21 := h1.resolve_left fun e => by rw [e] at hlj; simp at hlj
   have he : (m.evs.map B9)[j]? = some (B9 m.evs[j]) := by simp [hlj]
   have hl := O5 m 8 j;have hf := Amd hlj;have hmem := List.getElem_mem hlj;have hce := hE _ hmem;have hev := (h3 _ hmem).1;have hvl := Ac m.evs[j];generalize m.evs[j] = e at *;simp (disch := omega) only [Aum, List.length_map, hz2, he, Ev, hlj, go_sem];refine Aa (Aka e hev (F8 hce)) ?_;simp (disch := omega) only [List.length_map, go_sem];refine ⟨j + 1, by omega, by omega, Dt 53 50 (by decide) rfl (Au ?_ ?_)⟩
   · simp (disch := omega) only [hz2, go_sem]
   · simp (disch := omega) only [hf, go_sem]
 obtain rfl : j = m.evs.length := by omega
 have hal := Aac m;simp (disch := omega) only [Aum, List.length_map, hal, go_sem];have hfl := J3 hm hc;have hfp := J2 hm hc;have hfn := Ld m;refine Aa (Ael (L := Bs m) rfl rfl (by omega) (by omega) fun b hb => by have := hfl b hb; omega) ?_;simp (disch := omega) only [C9, go_sem]
def Abe (l : List Evt) : Prop := l.length ≤ 25 ∧ ∀ e ∈ l, Axq e
noncomputable def Vg (l : List Evt) : Bool := open Classical in decide (Abe l)
theorem Ae6 {l : List Evt} (h : Abe l) : Vg l = true := by simp [Vg, h]
theorem Xu {l : List Evt} (h : ¬ Abe l) : Vg l = false := by simp [Vg, h]
def Mu (f : Bool) (z : Nat) (l : List Evt) (k : Nat) : FS := mk [(10, .pv (.i .i64 k)), (9, .pv (.i .i64 l.length)), (8, .pv (.sl f z (l.map B9)))] []
set_option maxHeartbeats 2000000 in
theorem Aqg {f : Bool} {z : Nat} {l : List Evt} (hz : l = [] ∨ z = 21) {h d} : FunOk Tryz.prog 5 [.pv (.sl f z (l.map B9))] h d (.pv (.b (Vg l))) [] := by
 refine Aq Ao fn5 (by simp) rfl rfl fun F => ?_;by_cases h30 : 25 < (l.length : Int)
 · have hf := Xu (l := l) fun h => by have := h.1; omega
   simp (disch := omega) only [ir5, List.length_map, hf, go_sem]
 simp (disch := omega) only [ir5, List.length_map, go_sem];refine A2 Ao (Mu f z l) (fun k => k ≤ l.length ∧ ∀ j e, j < k → l[j]? = some e → Axq e) (fun k => l.length - k) 0 ⟨by simp, fun j e hj => absurd hj (Nat.not_lt_zero j)⟩ (Au ?_ ?_) fun k hk => ?_
 · simp (disch := omega) only [List.length_map, go_sem]
 · simp (disch := omega) only [go_sem]
 obtain ⟨hk1, hk2⟩ := hk;by_cases hlt : k < l.length
 · have hx' : l[k]? = some l[k] := List.getElem?_eq_getElem hlt;have he : (l.map B9)[k]? = some (B9 l[k]) := by rw [List.getElem?_map, hx']; rfl
   have hm := List.getElem_mem hlt;have hz2 : z = 21 := hz.resolve_left fun e => by rw [e] at hlt; simp at hlt
   generalize l[k] = e at *;have hel := Ac e;have hg : e.gone.pv = .sl e.gone.f e.gone.z (e.gone.l.map Hj) := rfl;have hb : e.base.pv = .sl e.base.f e.base.z (e.base.l.map Hj) := rfl;have hno : ¬ Axq e → Vg l = false := fun q => Xu fun h => q (h.2 e hm);by_cases c1 : 30 < (e.name.length : Int)
   · have hf := hno fun q => by have := q.1; omega
     simp (disch := omega) only [Mu, List.length_map, hz2, he, Ev, hel, L0, c1, hf, go_sem]
   by_cases c2 : 250 < (e.data.length : Int)
   · have hf := hno fun q => by have := q.2.1; omega
     simp (disch := omega) only [Mu, List.length_map, hz2, he, Ev, hel, L0, c1, Oq, c2, hf, go_sem]
   by_cases c3 : 10 < (e.gone.l.length : Int)
   · have hf := hno fun q => by have := q.2.2.1; omega
     simp (disch := omega) only [Mu, List.length_map, hz2, he, Ev, hel, L0, c1, Oq, c2, Rw, hg, c3, hf, go_sem]
   by_cases c4 : 10 < (e.base.l.length : Int)
   · have hf := hno fun q => by have := q.2.2.2; omega
     simp (disch := omega) only [Mu, List.length_map, hz2, he, Ev, hel, L0, c1, Oq, c2, Rw, hg, c3, W6, hb, c4, hf, go_sem]
   simp (disch := omega) only [Mu, List.length_map, hz2, he, Ev, hel, L0, c1, Oq, c2, Rw, hg, c3, W6, hb, c4, go_sem];refine Az (k + 1) _ _ rfl ⟨by omega, fun j x hj hjx => ?_⟩ (by omega) ?_ ?_
   · by_cases ej : j = k
     · subst ej; rw [hx'] at hjx; cases hjx; exact ⟨by omega, by omega, by omega, by omega⟩
     · exact hk2 j x (by omega) hjx
   · simp (disch := omega) only [hz2, go_sem]
   · simp (disch := omega) only [go_sem]
 · obtain rfl : k = l.length := by omega
   have hf := Ae6 (l := l) ⟨by omega, fun e he => by
    obtain ⟨j, hj⟩ := List.mem_iff_getElem?.1 he;exact hk2 j e (List.getElem?_eq_some_iff.1 hj).1 hj⟩
   simp (disch := omega) only [Mu, hf, go_sem]
theorem Ab2 (m : Msg) : E5 (J8 m) m = true := by
 rw [Af2];have h := Ab1 m;have e : E5 m (J8 m) = E5 m m := by
  show (decide (m.k = m.k) && (decide (m.fr = m.fr) && (decide (m.to = m.to) && (decide (vEq m.kn m.kn) && (decide (tEq m.tb m.tb) && E6 m.evs (m.evs.map Bt)))))) = _;have e2 : ∀ l m : List Evt, E6 l (m.map Bt) = E6 l m := by
   intro l m;unfold E6;rw [List.length_map];congr 1
   induction l generalizing m with
   | nil => rfl
   | cons e l ih =>
     cases m with
     | nil => rfl
     | cons x m => simp only [List.map_cons, List.zip_cons_cons, List.all_cons, ih]; rfl
  rw [e2]; rfl
 rw [← e]; exact h
theorem Av4 {f : Bool} {z : Nat} {es : List (List PV)} {h d} (hz : es = [] ∨ z = 15) (hb : es.length ≤ 1000) : FunOk Tryz.prog 69 [.pv (.sl f z es)] h d (.os d) [.new d (.row 15 es)] := by
 refine Z8 Ao fn69 (by simp) rfl (.inl rfl) fun F => ?_;simp (disch := omega) only [ir69, go_sem];intro b hb';cases b
 · simp (disch := omega) only [go_sem]
 · have he : es = [] := by
    cases es with
    | nil => rfl
    | cons c l => exact absurd (hb' (by simp)) (by simp)
   subst he
   (try simp only [Ek, Ej, Ei, Eh, Eg, Ef, Ee, Ed]); simp (disch := omega) only [go_sem]
   first | exact ⟨_, rfl⟩ | decide
theorem Av2 {f : Bool} {z : Nat} {es : List (List PV)} {h d} (hz : es = [] ∨ z = 11) (hb : es.length ≤ 1000) : FunOk Tryz.prog 70 [.pv (.sl f z es)] h d (.pv (.sl false 11 es)) [] := by
 refine Z9 Ao fn70 (by simp) rfl fun F => ?_;simp (disch := omega) only [ir70, go_sem];intro b hb';cases b
 · simp (disch := omega) only [go_sem]
 · have he : es = [] := by
    cases es with
    | nil => rfl
    | cons c l => exact absurd (hb' (by simp)) (by simp)
   subst he
   (try simp only [Ek, Ej, Ei, Eh, Eg, Ef, Ee, Ed]); simp (disch := omega) only [go_sem]
   first | exact ⟨_, rfl⟩ | decide
theorem Av3 {f : Bool} {z : Nat} {es : List (List PV)} {h d} (hz : es = [] ∨ z = 2) (hb : es.length ≤ 1000) : FunOk Tryz.prog 74 [.pv (.sl f z es)] h d (.pv (.sl false 2 es)) [] := by
 refine Z9 Ao fn74 (by simp) rfl fun F => ?_;simp (disch := omega) only [ir74, go_sem];intro b hb';cases b
 · simp (disch := omega) only [go_sem]
 · have he : es = [] := by
    cases es with
    | nil => rfl
    | cons c l => exact absurd (hb' (by simp)) (by simp)
   subst he
   (try simp only [Ek, Ej, Ei, Eh, Eg, Ef, Ee, Ed]); simp (disch := omega) only [go_sem]
   first | exact ⟨_, rfl⟩ | decide
def Asm (j f : Nat) (args : List SV) : Kn := match args with
 | [.pv (.sl _ z es)] => if es.length ≤ 1000 then
    if f = 69 ∧ (es.isEmpty = true ∨ z = 15) then some (.os j, [.new j (.row 15 es)])
    else if f = 70 ∧ (es.isEmpty = true ∨ z = 11) then some (.pv (.sl false 11 es), [])
    else if f = 74 ∧ (es.isEmpty = true ∨ z = 2) then some (.pv (.sl false 2 es), [])
    else none
   else none
 | _ => none
def M2 : R7 := fun _ f args H => Asm (Amb H [] 1000 500000) f args
def Ff : R7 := fun d f args _ => Asm d f args
theorem Afc {j f : Nat} {args : List SV} {x : SV} {u : List HU} {h d} (e : Asm j f args = some (x, u)) : FunOk Tryz.prog f args h d x u := by
 unfold Asm at e;split at e
 · split at e
   · rename_i hb;split at e
     · rename_i hf; cases e; rw [hf.1]; exact Av4 (Ur hf.2) hb
     · split at e
       · rename_i hf; cases e; rw [hf.1]; exact Av2 (Ur hf.2) hb
       · split at e
         · rename_i hf; cases e; rw [hf.1]; exact Av3 (Ur hf.2) hb
         · cases e
       all_goals cases e
   · cases e
 · cases e
theorem Ap7 : Azc Tryz.prog M2 := fun d f args H x u h => FunOk.deep (d := d) (Afc h)
theorem Aeh : Ate Tryz.prog Ff := fun d f args H x u h => Afc h
theorem Wj {f : Nat} {args : List SV} {x : SV} {u : List HU} (n : Nat) {H : HL} {d : Nat} (e : Ea Tryz.prog Ff (Km Tryz.prog M2 Ff n) d f args H = some (x, u)) : FunOk Tryz.prog f args (fun k => lk none k H) d x u :=
 Vn Ao Aeh (Amj Ao Ap7 Aeh n) e
def Arb : Kn → Bool
 | some (.pv (.b true), []) => true
 | _ => false
theorem Ara {r : Kn} (h : Arb r = true) : r = some (.pv (.b true), []) := by
 unfold Arb at h;split at h
 · rfl
 · cases h
def z8 : List PV := List.replicate 8 (.i .u32 0)
def k8 : List PV := .i .u32 1 :: List.replicate 7 (.i .u32 0)
def z64 : List PV := List.replicate 64 (.i .u32 0)
def k64 : List PV := .i .u32 1 :: List.replicate 63 (.i .u32 0)
def b8 : List SV := List.replicate 8 (.pv (.b false))
def evi : List PV := [.i .i64 1, .i .u32 1]
def Tu : List PV := evi ++ z8 ++ [.i .i64 1, .i .i64 0, .i .u32 0, .i .i64 0, .i .u32 0, .s [97], .sl false 2 [], .sl false 2 [], .i .i64 0, .s [], .i .i64 0]
def Av8 : List PV := evi ++ [.b false] ++ evi ++ [.s [97]] ++ z8 ++ [.sl true 0 []]
def Ax5 : List PV := evi ++ [.i .i64 0, .i .u32 0, .s [97]] ++ evi ++ z8
def Na : SV := .agg [.vec 8 k8, .pv (.sl false 15 [Av8]), .pv (.sl false 15 [Ax5]), .vec 8 (List.replicate 8 (.i .i64 0)), .agg b8, .vec 8 z8, .pv (.sl false 21 [Tu])]
def Ajm : SV := .agg [.pv (.i .i64 0), .pv (.i .i64 0), .pv (.i .i64 0), .vec 8 (List.replicate 8 (.i .u32 0)), .vec 64 (List.replicate 64 (.i .u32 0)), .pv (.sl true 0 [])]
def K6 (k a b : Int) (v t : List PV) (x : SV) : List SV := [.pv (.i .i64 k), .pv (.i .i64 a), .pv (.i .i64 b), .vec 8 v, .vec 64 t, x]
def evs : SV := .agg (Tu.map .pv)
theorem A5g (n : Nat) : SV.killL n b8 = b8 := rfl
theorem A4l : SV.widthL b8 = 8 := rfl
theorem A5s : SV.flatBL b8 = true := rfl
attribute [go_sem] A5g A4l A5s
theorem A13 (n : Nat) : SV.kill n Na = Na := rfl
theorem A0k (a b : Nat) : SV.ren a b Na = Na := rfl
theorem Amk : Tu.length = 21 := rfl
theorem Ax2 : (Tu.drop 0).take 21 = Tu := rfl
theorem A2v : (Tu.drop 0).take 2 = evi := rfl
theorem A14 (n : Nat) : SV.kill n evs = evs := rfl
theorem Az1 : evs.width = 21 := rfl
theorem A2r : evs.flatB = true := rfl
theorem A29 : evs.cells? = some Tu := rfl
theorem Aws (K : KK) : Iw evs 0 21 true K = K evs [] := rfl
theorem Awv (K : KK) : LoadK (some Tu) 0 21 true K = K (.vec 21 Tu) [] := propext ⟨fun h => h.2.2, fun h => ⟨Nat.le_refl _, .inl rfl, h⟩⟩
theorem Awu (K : KK) : LoadK (some Tu) 0 2 true K = K (.vec 2 evi) [] := propext ⟨fun h => h.2.2, fun h => ⟨by rw [Amk]; decide, .inl rfl, h⟩⟩
theorem Awt (K : KK) : Ol (cut evs.segs 0 21) true (some Tu) 0 21 K = K evs [] := rfl
theorem Axi (h : Nat → Option Blk) : Rh h evs = some (Tu, []) := rfl
theorem Az3 : (vE fun _ => 0) = z8 := rfl
theorem Azy : z8 ++ (z8 ++ (z8 ++ (z8 ++ (z8 ++ (z8 ++ (z8 ++ z8)))))) = z64 := rfl
theorem Azz : z64.length = 64 := rfl
attribute [go_sem] Az3 Azy Azz
attribute [go_sem] Awt Axi Awv Awu A13 A0k Amk Ax2 A2v A14 Az1 A2r A29 Aws
theorem Wi {f : Nat} {args : List SV} {x : SV} (n : Nat) {h d} (hc : SV.closedL args = true) (e : Ea Tryz.prog Ff (Km Tryz.prog M2 Ff n) 0 f args [] = some (x, [])) : FunOk Tryz.prog f args h d x [] :=
 let ⟨h1, h2⟩ := Wj n e
 ⟨h1, fun F N ρ s a w hR _ => h2 F N ρ s a w hR (by rw [D8 hc]; simp)⟩
theorem Ava {f : Nat} {args : List SV} (n : Nat) {h d} (hc : SV.closedL args = true) (e : Arb (Ea Tryz.prog Ff (Km Tryz.prog M2 Ff n) 0 f args []) = true) : FunOk Tryz.prog f args h d (.pv (.b true)) [] := Wi n hc (Ara e)
theorem Y7 {f : Nat} {args : List SV} {x : SV} {u : List HU} (n : Nat) {g : Nat} {b : Blk} {h d} (hg : h g = some b) (hc : (A3 args).all (· == g) = true) (e : Ea Tryz.prog Ff (Km Tryz.prog M2 Ff n) d f args [(g, some b)] = some (x, u)) : FunOk Tryz.prog f args h d x u := by
 obtain ⟨h1, h2⟩ := Wj n e;refine ⟨h1, fun F N ρ s a w hR hh => h2 F N ρ s a w hR fun n hn => ?_⟩;have : n = g := by simpa using List.all_eq_true.1 hc n hn
 subst this;rw [hh n hn, hg]; simp [lk]
theorem Avr : Arb (Ea Tryz.prog Ff (Km Tryz.prog M2 Ff 60) 0 7 [.agg (K6 1 2 1 z8 z64 (.pv (.sl true 0 [])))] []) = true := by kernel_rfl
theorem Avo : Ea Tryz.prog Ff (Km Tryz.prog M2 Ff 60) 33 38 [.p 900 0, .vec 8 z8] [(900, some (.var Na))] = some (.tup [.fn (.func 75) [.p 34 0, .p 33 0], .pv (.i .i64 0)], [.new 34 (.it [] 0), .new 33 (.it [] 0), .upd 34 (.var (.pv (.sl true 21 [Tu]))), .upd 33 (.var (.vec 8 z8)), .upd 900 (.var Na)]) := by kernel_rfl
theorem A4x : Ea Tryz.prog Ff (Km Tryz.prog M2 Ff 60) 45 15 [.p 900 0, .vec 64 z64, .pv (.i .i64 1), .pv (.i .i64 2)] [(900, some (.var Na))] = some (.agg (K6 1 1 2 k8 k64 (.pv (.sl true 0 []))), []) := by kernel_rfl
theorem A4v : Ea Tryz.prog Ff (Km Tryz.prog M2 Ff 60) 0 50 [.vec 8 z8, .vec 2 evi] [] = some (.pv (.b false), []) := by kernel_rfl
theorem A4w : Ea Tryz.prog Ff (Km Tryz.prog M2 Ff 60) 0 37 [.vec 21 Tu] [] = some (evs, []) := by kernel_rfl
theorem A40 (p : Nat) (h : p < 1000000) : ∀ q ∈ [p], q < 1000000 := by simpa using h
def stG (l0 j : Nat) (x : SV) (r : Option Blk) : FS := mk [(8, .pv (.i .i64 j)), (7, .pv (.i .i64 1)), (6, .pv (.sl true 21 [Tu])), (0, .fn (.yield l0) []), (2, .p 33 0), (1000000, .pv (.i .i64 0)), (1000009, .p 8 0), (1000013, .p 12 0), (2000001, .p 900 0)] [(8, some (.var Ajm)), (12, some (.var (.agg (K6 2 1 2 k8 k64 x)))), (33, some (.var (.vec 8 z8))), (60, r), (900, some (.var Na))]
def Ai3 (l0 j : Nat) : FS := if j = 0 then stG l0 0 (.pv (.sl true 0 [])) none else stG l0 1 (.os 60) (some (.row 21 [Tu]))
set_option maxHeartbeats 8000000 in
theorem Aqf {g : Nat} {h d} (hg : h g = some (.var Na)) : FunOk Tryz.prog 14 [.p g 0, .vec 64 z64, .pv (.i .i64 1), .agg (K6 1 2 1 z8 z64 (.pv (.sl true 0 [])))] h d (.tup [.agg (K6 2 1 2 k8 k64 (.pv (.sl false 21 [Tu]))), .pv (.i .i64 0)]) [] := by
 refine FunOk.quiet (g := g) (blk := .var Na) ?_ hg (by simp [A3, tn, K6]);refine FunOk.io (fun h d hg => ?_) rfl rfl rfl rfl hg;refine Ar0 (g := 900) Ao fn14 (by simp) (by simp [A3, tn, K6]) (by simp [A3, tn]) hg rfl (by simp [Blk.ptr, SV.kill]) rfl (fun _ => rfl) fun F => ?_;simp (disch := omega) only [ir14, Blk.ptr, K6, go_sem];refine Aa (Ava 60 rfl Avr) ?_;simp (disch := omega) only [go_sem];refine Aa (Y7 (d := 33) 60 (by simp [mk, lk]) rfl Avo) ?_;simp (disch := omega) only [go_sem];refine Aa (Y7 (d := 45) 60 (by simp [mk, lk]) rfl A4x) ?_;simp (disch := omega) only [K6, go_sem];refine Ajs Ao fn75 (by simp) fun l0 XI hc => ?_;rw [Aaj _ _ _ (by show 3 ≤ 1000000; omega)];simp (disch := omega) only [ir75, go_sem];refine A2 Ao (Ai3 l0) (fun k => k ≤ 1) (fun k => 1 - k) 0 (by omega) (Au ?_ ?_) fun j hj => ?_
 · simp (disch := omega) only [go_sem]
 · simp (disch := omega) only [Ajm, K6, go_sem]
 obtain rfl | rfl : j = 0 ∨ j = 1 := by omega
 · simp (disch := omega) only [Ai3, stG, K6, Ajm, List.length_singleton, List.getElem?_cons_zero, go_sem];refine Aa (Wi 60 rfl A4v) ?_;simp (disch := omega) only [go_sem];refine Aa (Wi 60 rfl A4w) ?_;simp (disch := omega) only [go_sem];refine Vz Ao hc ?_ rfl fun XA XB => ?_
   · simp (disch := omega) only [go_sem]
   rw [N9 _ _ _ _ (A40 48 (by decide))];simp (disch := omega) only [go_sem];refine ⟨fun q => (by cases q), 1, by omega, by omega, Dt 57 60 (by decide) rfl (Au ?_ ?_)⟩
   · simp (disch := omega) only [Ai3, stG, go_sem]
   · simp (disch := omega) only [Ai3, stG, K6, Ajm, go_sem]
 · simp (disch := omega) only [Ai3, stG, K6, Ajm, go_sem];refine ⟨_, Sb 60 rfl (.same _), ?_⟩
   (try simp only [Ek, Ej, Ei, Eh, Eg, Ef, Ee, Ed]); simp (disch := omega) only [go_sem]
   exact ⟨900, rfl, rfl⟩
def V6 (k : List PV) (o e : PV) : List SV := [.vec 8 k, .pv o, .pv e, .vec 8 (List.replicate 8 (.i .i64 0)), .agg b8]
def P7 : SV := .agg (V6 z8 (.sl true 0 []) (.sl false 15 []) ++ [.vec 8 z8, .pv (.sl true 0 [])])
def Arq (n : Nat) : SV := .agg (V6 k8 (.sl false 15 [Av8]) (.sl false 15 [Ax5]) ++ [.vec 8 z8, .os n])
theorem Aw2 (n : Nat) : SV.kill n P7 = P7 := rfl
theorem Amh (n : Nat) : SV.frz n (.sl false 21 [Tu]) (Arq n) = Na := by simp [Arq, Na, V6, SV.frz, SV.frzL, b8, List.replicate]
theorem Axw (n : Nat) (v : PV) : SV.frz n v P7 = P7 := rfl
theorem A2q (n : Nat) (v : PV) : SV.frz n v Na = Na := rfl
theorem Aw1 (n : Nat) (k : List PV) (o e : PV) : SV.kill n (.agg (V6 k o e)) = .agg (V6 k o e) := rfl
attribute [go_sem] Aw2 Amh Axw A2q Aw1
theorem Aj0 (d : Nat) (h : Ea Tryz.prog Ff (Km Tryz.prog M2 Ff 60) d 12 [.agg [.vec 8 z8, .pv (.sl true 0 []), .pv (.sl true 0 []), .vec 8 (iE fun _ => 0), .vec 8 (wE fun _ => false)]] [] = some (.p d 0, [.new d (.it [] 0), .upd d (.var P7)])) {g} :
 FunOk Tryz.prog 12 [.agg [.vec 8 z8, .pv (.sl true 0 []), .pv (.sl true 0 []), .vec 8 (iE fun _ => 0), .vec 8 (wE fun _ => false)]] g d (.p d 0) [.new d (.it [] 0), .upd d (.var P7)] :=
 let ⟨h1, h2⟩ := Wj 60 h
 ⟨h1, fun F N ρ s a w hR _ => h2 F N ρ s a w hR (by rw [D8 rfl]; simp)⟩
theorem A4y : Ea Tryz.prog Ff (Km Tryz.prog M2 Ff 60) 17 13 [.p 8 0, .agg [.pv (.i .i64 1), .pv (.i .u32 1), .vec 8 z8, .pv (.i .i64 1), .pv (.i .i64 0), .pv (.i .u32 0), .pv (.i .i64 0), .pv (.i .u32 0), .pv (.s [97]), .pv (.sl true 0 []), .pv (.sl true 0 []), .pv (.i .i64 0), .pv (.s []), .pv (.i .i64 0)]] [(8, some (.var P7))] = some (.pv (.i .i64 0), [.new 17 (.it [] 0), .upd 17 (.row 21 [Tu]), .upd 8 (.var (Arq 17))]) := by kernel_rfl
theorem A0m : Ea Tryz.prog Ff (Km Tryz.prog M2 Ff 60) 25 15 [.p 10 0, .vec 64 z64, .pv (.i .i64 2), .pv (.i .i64 1)] [(10, some (.var P7))] = some (.agg (K6 1 2 1 z8 z64 (.pv (.sl true 0 []))), []) := by kernel_rfl
theorem Avn : Ea Tryz.prog Ff (Km Tryz.prog M2 Ff 60) 31 17 [.p 10 0] [(10, some (.var P7))] = some (.agg (V6 z8 (.sl true 0 []) (.sl false 15 [])), [.upd 10 (.var P7)]) := by kernel_rfl
theorem Avq : Ea Tryz.prog Ff (Km Tryz.prog M2 Ff 60) 0 16 [.agg (V6 z8 (.sl true 0 []) (.sl false 15 [])), .agg (K6 2 1 2 k8 k64 (.pv (.sl false 21 [Tu])))] [] = some (.tup [.pv (.sl false 21 [Tu]), .agg (V6 k8 (.sl false 15 [Av8]) (.sl false 15 [Ax5]))], []) := by kernel_rfl
set_option maxHeartbeats 8000000 in
theorem S6 {h d} : FunOk Tryz.prog 4 [] h d (.pv (.b true)) [] := by
 refine Aq Ao fn4 (by simp) rfl rfl fun F => ?_;simp (disch := omega) only [ir4, go_sem];refine Aa (Aj0 8 (by kernel_rfl)) ?_;simp (disch := omega) only [go_sem];refine Aa (Aj0 10 (by kernel_rfl)) ?_;simp (disch := omega) only [go_sem];refine Aa (Y7 (d := 17) (b := .var P7) 60 rfl rfl A4y) ?_;simp (disch := omega) only [go_sem];refine Aa (Y7 (d := 25) (b := .var P7) 60 rfl rfl A0m) ?_;simp (disch := omega) only [go_sem];refine Vm (DeepOk.frz (n := 17) (sz := 21) (es := [Tu]) rfl (d' := 26) (h' := fun _ => some (.var Na)) rfl (fun k hk => ?_) (Aqf rfl)) ?_
 · simp [A3, tn, K6, SV.frzL, SV.frz] at hk;subst hk;show some (Blk.frz 17 (.sl false 21 [Tu]) (.var (Arq 17))) = _;simp only [Blk.frz, Amh]
 simp (disch := omega) only [K6, go_sem];refine Aa (FunOk.quiet (Y7 (d := 31) (b := .var P7) 60 rfl rfl Avn) rfl (by simp [A3, tn])) ?_;simp (disch := omega) only [go_sem];refine ⟨⟨rfl, rfl⟩, Aa (Wi 60 rfl Avq) ?_⟩;simp (disch := omega) only [V6, go_sem];exact ⟨rfl, rfl, by simp [Sy, k8, List.replicate]⟩
theorem Av0 {m : Msg} (h : Abe m.evs) (hm : okM m) : mv m :=
 ⟨hm.1, by have := h.1; omega, fun e he => by
  obtain ⟨h1, h2, h3⟩ := hm.2.1 e he;obtain ⟨f1, f2, f3, f4⟩ := h.2 e he;exact ⟨⟨h2, h3, by omega, by omega, by omega⟩, h1⟩, hm.2.2.1, hm.2.2.2⟩
set_option maxHeartbeats 8000000 in
theorem A1y {m : Msg} (hm : okM m) {h d} : FunOk Tryz.prog 3 [.vec 76 (Dc m)] h d (.pv (.b true)) [] := by
 refine I1 Ao fn3 (by simp) rfl rfl fun F => ?_;simp (disch := omega) only [ir3, go_sem];refine Aa S6 ?_;simp (disch := omega) only [go_sem];refine Aa (Aqg hm.1) ?_;by_cases hf : Abe m.evs;rotate_left
 · have e := Xu hf;simp (disch := omega) only [e, go_sem];refine Aa S6 ?_;simp (disch := omega) only [go_sem];exact ⟨_, .same _, rfl⟩
 have e := Ae6 hf;have hv := Av0 hf hm;simp (disch := omega) only [e, go_sem];by_cases hc : C3 m = true;rotate_left
 · have hc : C3 m = false := by simpa using hc
   refine Aa (Wu m hv hc) ?_;simp (disch := omega) only [go_sem];refine Aa (Ok m hv) ?_;simp (disch := omega) only [go_sem];refine Aa (Lw m hv) ?_;simp (disch := omega) only [hc, go_sem];refine Aa (Lw m hv) ?_;simp (disch := omega) only [hc, go_sem];exact ⟨_, .same _, rfl⟩
 refine Aa (Zj m hv hc) ?_;simp (disch := omega) only [go_sem];refine Aa (Ok m hv) ?_;simp (disch := omega) only [go_sem];refine Aa (Lw m hv) ?_;simp (disch := omega) only [hc, go_sem];refine Aa (Lw m hv) ?_;simp (disch := omega) only [hc, go_sem];refine Vm (DeepOk.frz (n := 18) (sz := 1) (es := Ad (C9 m)) rfl (d' := 38) (h' := fun _ => none) rfl (fun k hk => by cases hk) (Aqa m hv hc)) ?_;simp (disch := omega) only [Acs, Ait, Ae8, Ae5, Jg, Zs, go_sem];refine Aa (Agc m hv hc) ?_;simp (disch := omega) only [Acs, Jg, Zs, go_sem];refine Aa (Akc (J8 m) m (Ak2 hv) hv) ?_;have hs := Ab2 m;simp (disch := omega) only [hs, go_sem];exact ⟨_, .same _, rfl⟩
theorem Rg {c0 : List PV} (g0 : GC Aji c0) {h d} :
 FunOk Tryz.prog 3 [Ij Aji c0] h d (.pv (.b true)) [] := by
 obtain ⟨m, rfl, hm⟩ := Aze g0;refine (A1y hm).imp ⟨Ow (by rfl) (Iu m), trivial⟩ ?_;intro n hn;simp [A3, tn] at hn
end Go.Proofs.YtpgnmmmcomhdcaaGreat.Fw
