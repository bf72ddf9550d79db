/- Each operation of the small language does in the model what its meaning tells. -/
import Derived.Test.YthiamojjhdcegaaGreatFwA
set_option linter.unusedVariables false
set_option linter.unusedSimpArgs false
set_option linter.unusedSectionVars false
namespace Go.Proofs.YthiamojjhdcegaaGreat.Fw
variable [Th]
open Go.RowKit
variable {P : Program} {F : Fr} {N : Nat} {ρ : Nat → Value} {s : FS} {a : Act} {w w' : World} {K : KK} {V : View}
theorem Ky (hR : RelR F N ρ s a w) {n sz : Nat} {es : List (List PV)} (hn : s.h n = some (.row sz es)) : PConc (vw F w ρ (s.seth n none)) (.sl false sz es) (ρ n) := by
 obtain ⟨base, cap, h1, h2, h3, h4, h5⟩ := hR.own n _ hn;have hV := (hR.del n).2;rw [h1];by_cases hc : cap = 0
 · have he : es = [] := List.eq_nil_of_length_eq_zero (by omega);subst he;exact .sl false sz [] base cap (fun _ _ => undef) 0 0 #[] h2 (by simp) (by simp) (by simp) (by simp) (by simp)
 · obtain ⟨b, vs, ty, fr, rfl, e2, e3, e4, e5, e6⟩ := h5 hc;have hb : Cf (ρ n) = some b := by rw [h1]; simp [Cf, hc]
   have hno : ¬ F.out ρ (s.seth n none).h b := by
    intro hor;rcases hor with ⟨m, y, hm, hbm⟩ | hor
    rotate_left
    · exact hR.shown ⟨n, _, hn, hb⟩ hor
    simp only [FS.seth] at hm;split at hm
    · cases hm
    · rename_i hne; exact hne (hR.inj m n y _ b hm hn hbm hb)
   have hview : vw F w ρ (s.seth n none) b = some ⟨vs⟩ := by
    show Am w _ b = _;unfold Am;rw [if_neg hno]; exact Mw e2 e4.no
   have hin : ∀ i, i < es.length → i * sz + sz ≤ vs.length := fun i hi => by
    have : (i + 1) * sz ≤ cap * sz := Nat.mul_le_mul_right _ (by omega);rw [Nat.succ_mul] at this; omega
   refine .sl false sz es _ cap (fun i j => (vs[i * sz + j]?).getD undef) b 0 ⟨vs⟩ h2 (by simp) h4 (fun _ => ⟨rfl, hview⟩) (fun i j hi hj => ?_) (fun i j c x hc hj => ?_)
   · have := hin i hi;have hlt : i * sz + j < vs.length := by omega
     simp [hlt]
   · have hi : i < es.length := (List.getElem?_eq_some_iff.1 hc).1;have hl := h4 c (List.mem_of_getElem? hc);have hj' : j < sz := by have := (List.getElem?_eq_some_iff.1 hj).1; omega
     obtain ⟨v, g1, g2⟩ := (e6 i c hc).2 j x hj;rw [List.getElem?_take, if_pos hj', List.getElem?_drop] at g1;rw [g1]; exact g2.mono hV
theorem Ws (hR : RelR F N ρ s a w) (hM : ∀ b, ¬ F.M0 b) {n sz : Nat} {es : List (List PV)} (hn : s.h n = some (.row sz es)) : PConc (vw F w ρ (s.seth n none)) (.fs sz es) (ρ n) := by
 obtain ⟨base, cap, h1, h2, h3, h4, h5⟩ := hR.own n _ hn;have hV := (hR.del n).2;rw [h1];by_cases hc : cap = 0
 · have he : es = [] := List.eq_nil_of_length_eq_zero (by omega);subst he;exact .fs sz [] base cap (fun _ _ => undef) 0 0 #[] h2 (by simp) (by simp) (by simp) (by simp)
 · obtain ⟨b, vs, ty, fr, rfl, e2, e3, e4, e5, e6⟩ := h5 hc;have hb : Cf (ρ n) = some b := by rw [h1]; simp [Cf, hc]
   have hno : ¬ F.out ρ (s.seth n none).h b := by
    intro hor;rcases hor with ⟨m, y, hm, hbm⟩ | hor
    rotate_left
    · exact hR.shown ⟨n, _, hn, hb⟩ hor
    simp only [FS.seth] at hm;split at hm
    · cases hm
    · rename_i hne; exact hne (hR.inj m n y _ b hm hn hbm hb)
   have hview : vw F w ρ (s.seth n none) b = some ⟨vs⟩ := by
    show Am w _ b = _;unfold Am;rw [if_neg hno]; exact Mw e2 e4.no
   have hin : ∀ i, i < es.length → i * sz + sz ≤ vs.length := fun i hi => by
    have : (i + 1) * sz ≤ cap * sz := Nat.mul_le_mul_right _ (by omega);rw [Nat.succ_mul] at this; omega
   refine .fs sz es _ cap (fun i j => (vs[i * sz + j]?).getD undef) b 0 ⟨vs⟩ h2 h4 (fun _ => ⟨rfl, hview, hR.fresh hM ⟨n, _, hn, hb⟩⟩) (fun i j hi hj => ?_) (fun i j c x hc hj => ?_)
   · have := hin i hi;have hlt : i * sz + j < vs.length := by omega
     simp [hlt]
   · have hi : i < es.length := (List.getElem?_eq_some_iff.1 hc).1;have hl := h4 c (List.mem_of_getElem? hc);have hj' : j < sz := by have := (List.getElem?_eq_some_iff.1 hj).1; omega
     obtain ⟨v, g1, g2⟩ := (e6 i c hc).2 j x hj;rw [List.getElem?_take, if_pos hj', List.getElem?_drop] at g1;rw [g1]; exact g2.mono hV
mutual
theorem Og (n : Nat) (v : PV) : ∀ x : SV, (x.frz n v).width = x.width
 | .pv x => by simp only [SV.frz]
 | .vec m cs => by simp only [SV.frz]
 | .agg l => by simp only [SV.frz, SV.width]; exact V0 n v l
 | .tup l => by simp only [SV.frz, SV.width]
 | .p m off => by simp only [SV.frz]
 | .ps m off => by simp only [SV.frz]
 | .pr m sz i off => by simp only [SV.frz]
 | .pi sz es i off => by simp only [SV.frz]
 | .os m => by simp only [SV.frz]; split <;> simp only [SV.width]
 | .ov m z a b => by simp only [SV.frz]
 | .fn f cap => by simp only [SV.frz, SV.width]
 | .dead => by simp only [SV.frz]
theorem V0 (n : Nat) (v : PV) : ∀ l : List SV, SV.widthL (SV.frzL n v l) = SV.widthL l
 | [] => by simp only [SV.frzL]
 | x :: l => by simp only [SV.frzL, SV.widthL, Og n v x, V0 n v l]
end
mutual
theorem Conc.frz {V V' : View} (hV : V.le V') {ρ : Nat → Value} {n : Nat} {p : PV} (hp : PConc V' p (ρ n)) : ∀ {x : SV} {v}, Conc V ρ x v → Conc V' ρ (x.frz n p) v
 | .pv x, v, h => by simp only [SV.frz]; exact h.mono hV
 | .vec m cs, v, h => by simp only [SV.frz]; exact h.mono hV
 | .agg l, v, h => by simp only [SV.frz, Conc] at *; obtain ⟨vs, a, b⟩ := h; exact ⟨vs, a, Cells.frz hV hp b⟩
 | .tup l, v, h => by simp only [SV.frz, Conc] at *; obtain ⟨vs, a, b⟩ := h; exact ⟨vs, a, ConcL.frz hV hp b⟩
 | .p m off, v, h => by simp only [SV.frz]; exact h.mono hV
 | .ps m off, v, h => by simp only [SV.frz]; exact h.mono hV
 | .pr m sz i off, v, h => by simp only [SV.frz]; exact h.mono hV
 | .pi sz es i off, v, h => by simp only [SV.frz]; exact h.mono hV
 | .ov m z lo hi, v, h => by simp only [SV.frz]; exact h.mono hV
 | .os m, v, h => by
   simp only [SV.frz]; split
   · rename_i e; subst e;simp only [Conc] at *;rw [h.1]; exact hp
   · exact h.mono hV
 | .fn f cap, v, h => by simp only [SV.frz, Conc] at *; obtain ⟨vs, a, b⟩ := h; exact ⟨vs, a, ConcL.frz hV hp b⟩
 | .dead, v, h => by simp only [SV.frz, Conc]
theorem ConcL.frz {V V' : View} (hV : V.le V') {ρ : Nat → Value} {n : Nat} {p : PV} (hp : PConc V' p (ρ n)) : ∀ {l : List SV} {vs}, ConcL V ρ l vs → ConcL V' ρ (SV.frzL n p l) vs
 | [], vs, h => by simp only [SV.frzL, ConcL] at *; exact h
 | x :: l, vs, h => by simp only [SV.frzL, ConcL] at *; obtain ⟨u, us, a, b, c⟩ := h; exact ⟨u, us, a, Conc.frz hV hp b, ConcL.frz hV hp c⟩
theorem Cells.frz {V V' : View} (hV : V.le V') {ρ : Nat → Value} {n : Nat} {p : PV} (hp : PConc V' p (ρ n)) : ∀ {l : List SV} {vs}, Cells V ρ l vs → Cells V' ρ (SV.frzL n p l) vs
 | [], vs, h => by simp only [SV.frzL, Cells] at *; exact h
 | x :: l, vs, h => by
   simp only [SV.frzL, Cells] at *;obtain ⟨u, us, a, b, c, d, e⟩ := h;exact ⟨u, us, a, Conc.frz hV hp b, by rw [Og]; exact c, d, Cells.frz hV hp e⟩
end
theorem RelR.frzP (hR : RelR F N ρ s a w) {n sz : Nat} {es : List (List PV)} (hn : s.h n = some (.row sz es)) {p : PV} (hp0 : PConc (vw F w ρ (s.seth n none)) p (ρ n)) :
 RelR F N ρ (s.frz n p) a w ∧ (vw F w ρ s).le (vw F w ρ (s.frz n p)) ∧ (vw F w ρ (s.seth n none)).le (vw F w ρ (s.frz n p)) := by
 have how : ∀ b, Cb ρ (s.frz n p).h b ↔ Cb ρ (s.seth n none).h b := fun b => by
  constructor
  · rintro ⟨m, x, h1, h2⟩;simp only [FS.frz] at h1;split at h1
    · cases h1
    · rename_i e;obtain ⟨y, hy, _⟩ := Option.map_eq_some_iff.1 h1;exact ⟨m, y, by simp only [FS.seth, e, if_false]; exact hy, h2⟩
  · rintro ⟨m, x, h1, h2⟩;simp only [FS.seth] at h1;split at h1
    · cases h1
    · rename_i e; exact ⟨m, x.frz n p, by simp [FS.frz, e, h1], h2⟩
 have hVeq : vw F w ρ (s.frz n p) = vw F w ρ (s.seth n none) := by
  show Am w _ = Am w _;congr 1;funext b;exact propext (or_congr_left (how b))
 obtain ⟨hR1, hV⟩ := hR.del n;have hV' : (vw F w ρ s).le (vw F w ρ (s.frz n p)) := by rw [hVeq]; exact hV
 have hp : PConc (vw F w ρ (s.frz n p)) p (ρ n) := by rw [hVeq]; exact hp0
 have hh : ∀ m x, (s.frz n p).h m = some x → ∃ y, s.h m = some y ∧ x = y.frz n p ∧ m ≠ n := fun m x hx => by
  simp only [FS.frz] at hx;split at hx
  · cases hx
  · rename_i e;obtain ⟨y, h1, h2⟩ := Option.map_eq_some_iff.1 hx;exact ⟨y, h1, h2.symm, e⟩
 refine ⟨⟨hR.fr, fun b hb => hR1.may b ((how b).1 hb), fun m x hx => ?_, fun m k x y b hm hk => ?_, fun m => (hR.tmps m).frz hV' hp, hR.size, hR.defers⟩, hV', by rw [hVeq]; exact fun _ _ h => h⟩
 · obtain ⟨y, h1, rfl, hne⟩ := hh m x hx;have ho := hR.own m y h1;cases y with
   | var x =>
     obtain ⟨b, vs, ty, fr, u, g1, g2, g3, g4, g5, g6, g7⟩ := ho;exact ⟨b, vs, ty, fr, u, g1, g2, g3, g4.frz hV' hp, g5, by rw [Og]; exact g6, g7⟩
   | row sz' es' => exact ho.congr hV' (fun _ _ => rfl)
   | rowc sz' es' c' => exact ho.congr hV' (fun _ _ => rfl)
   | it l p => exact ho.congr hV' (fun _ _ => rfl)
 · obtain ⟨x', h1, _⟩ := hh m x hm;obtain ⟨y', h2, _⟩ := hh k y hk;exact hR.inj m k x' y' b h1 h2
theorem RelR.frz (hR : RelR F N ρ s a w) {n sz : Nat} {es : List (List PV)} (hn : s.h n = some (.row sz es)) :
 RelR F N ρ (s.frz n (.sl false sz es)) a w ∧ (vw F w ρ s).le (vw F w ρ (s.frz n (.sl false sz es))) ∧ (vw F w ρ (s.seth n none)).le (vw F w ρ (s.frz n (.sl false sz es))) := hR.frzP hn (Ky hR hn)
theorem RelR.frzF (hR : RelR F N ρ s a w) (hM : ∀ b, ¬ F.M0 b) {n sz : Nat} {es : List (List PV)} (hn : s.h n = some (.row sz es)) :
 RelR F N ρ (s.frz n (.fs sz es)) a w ∧ (vw F w ρ s).le (vw F w ρ (s.frz n (.fs sz es))) ∧ (vw F w ρ (s.seth n none)).le (vw F w ρ (s.frz n (.fs sz es))) := hR.frzP hn (Ws hR hM hn)
def F4 (b : Bool) (o : Option Value) (i d : Int) : Prop := (b = false ∧ o = none ∧ i = d) ∨ (b = true ∧ ∃ k, o = some (.int k i))
theorem Ca {k : IntKind} {i : Int} {y : Nat} {c : BoundsCode} (h0 : 0 ≤ i) (h1 : i ≤ y) : (Instr.sliceBound (.int k i) y c).run P w = .ok i.toNat w := by
 unfold Instr.sliceBound;rw [Ab Ij];simp only [h0, h1, and_self, if_true]; rfl
theorem Iy {lo hi mx : Bool} {ol oh om : Option Value} {i j m : Int} {len cap : Nat} (sl : Bool) (hl : F4 lo ol i 0) (hh : F4 hi oh j len) (hm : F4 mx om m len) (hmh : mx = true → hi = true)
 (h0 : 0 ≤ i) (h1 : i ≤ j) (h2 : j ≤ m) (h3 : m ≤ len) (h4 : len ≤ cap) :
 (Instr.sliceBounds sl len cap ol oh om).run P w = .ok (i.toNat, j.toNat, if mx then m.toNat else cap) w := by
 have e1 : ((len : Int)).toNat = len := by omega
 rcases hm with ⟨rfl, rfl, rfl⟩ | ⟨rfl, km, rfl⟩
 · rcases hh with ⟨rfl, rfl, rfl⟩ | ⟨rfl, kh, rfl⟩
   · rcases hl with ⟨rfl, rfl, rfl⟩ | ⟨rfl, kl, rfl⟩
     · simp [Instr.sliceBounds]
     · simp only [Instr.sliceBounds, pure_bind];rw [Ab (Ca h0 h1)]; simp
   · rcases hl with ⟨rfl, rfl, rfl⟩ | ⟨rfl, kl, rfl⟩
     · simp only [Instr.sliceBounds, pure_bind];rw [Ab (Ca (by omega) (by omega))]; simp
     · simp only [Instr.sliceBounds, pure_bind];rw [Ab (Ca (by omega) (by omega)), Ab (Ca h0 (by omega))]; simp
 · have := hmh rfl; subst this;rcases hh with ⟨h, _⟩ | ⟨_, kh, rfl⟩
   · cases h
   · rcases hl with ⟨rfl, rfl, rfl⟩ | ⟨rfl, kl, rfl⟩
     · simp only [Instr.sliceBounds];rw [Ab (Ca (by omega) (by omega)), Ab (Ca (by omega) (by omega))]; simp
     · simp only [Instr.sliceBounds];rw [Ab (Ca (by omega) (by omega)), Ab (Ca (by omega) (by omega)), Ab (Ca h0 (by omega))]; simp
theorem Aqz {t e : TypeId} {full : Bool} {sz : Nat} {es : List (List PV)} {v : Value} {lo hi mx : Bool} {ol oh om : Option Value} {i j m : Int} (ht : P.underlying t = some (.slice e)) (hz : es ≠ [] → Ai P e = some sz) (hz2 : ∃ n, Ai P e = some n)
 (h : PConc V (.sl full sz es) v) (hl : F4 lo ol i 0) (hh : F4 hi oh j es.length) (hm : F4 mx om m es.length) (hmh : mx = true → hi = true)
 (h0 : 0 ≤ i) (h1 : i ≤ j) (h2 : j ≤ m) (h3 : m ≤ es.length) :
 ∃ v', (Instr.sliceAt t v ol oh om).run P w = .ok v' w ∧ PConc V (.sl ((mx && decide (m = j)) || (full && !hi && !mx)) sz ((es.take j.toNat).drop i.toNat)) v' := by
 cases h with
 | sl _ _ _ a cap cs bl off arr hcap hfull hsz ha hcs hel =>
   obtain ⟨n, hn⟩ := hz2;have hb := Iy (P := P) (w := w) true hl hh hm hmh h0 h1 h2 h3 hcap;have hrun : (Instr.sliceAt t (.slice a es.length cap) ol oh om).run P w = .ok (.slice (if (if mx then m.toNat else cap) = i.toNat then a else a.map (·.add (i.toNat * n))) (j.toNat - i.toNat) ((if mx then m.toNat else cap) - i.toNat)) w := by
    unfold Instr.sliceAt;rw [Ab (Fw.run_underlying ht w)];simp only;unfold Instr.slice;rw [Ab (Fw.run_underlying ht w)];simp only;rw [Ab hb];simp only;rw [Ab (Ce hn w)]; rfl
   refine ⟨_, hrun, ?_⟩;have hjl : j.toNat ≤ es.length := by omega
   have hlen : ((es.take j.toNat).drop i.toNat).length = j.toNat - i.toNat := by simp; omega
   have hget : ∀ q, q < j.toNat - i.toNat → ((es.take j.toNat).drop i.toNat)[q]? = es[i.toNat + q]? := fun q hq => by
    rw [List.getElem?_drop, List.getElem?_take, if_pos (by omega)]
   rw [← hlen];refine .sl _ sz _ _ _ (fun q r => cs (i.toNat + q) r) bl (off + i.toNat * sz) arr ?_ ?_ ?_ ?_ ?_ ?_
   · rw [hlen]; split
     · omega
     · omega
   · intro hf;rw [hlen];simp only [Bool.or_eq_true, Bool.and_eq_true, decide_eq_true_eq, Bool.not_eq_true'] at hf;rcases hf with ⟨rfl, rfl⟩ | ⟨⟨hf, rfl⟩, rfl⟩
     · simp
     · have := hfull hf;rcases hh with ⟨_, _, rfl⟩ | ⟨hh, _⟩
       · simp [this]
       · cases hh
   · intro c hc;exact hsz c (List.mem_of_mem_take (List.mem_of_mem_drop hc))
   · intro hne;have hpos : i.toNat < j.toNat := by
      have : ((es.take j.toNat).drop i.toNat).length ≠ 0 := fun h => hne (List.eq_nil_of_length_eq_zero h);omega
     have hne' : es ≠ [] := by intro e; subst e; simp at hjl; omega
     obtain ⟨rfl, hV⟩ := ha hne';refine ⟨?_, hV⟩;rw [if_neg (by split <;> omega)];have : n = sz := by have := hz hne'; rw [hn] at this; cases this; rfl
     subst this;simp [Dd]
   · intro q r hq hr;rw [hlen] at hq;rw [show off + i.toNat * sz + (q * sz + r) = off + ((i.toNat + q) * sz + r) from by rw [Nat.add_mul]; omega];exact hcs _ r (by omega) hr
   · intro q r c x hc hx;have hq : q < j.toNat - i.toNat := by have := (List.getElem?_eq_some_iff.1 hc).1; omega
     rw [hget q hq] at hc;exact hel _ r c x hc hx
theorem A27 {t : TypeId} {l : List UInt8} {lo hi : Bool} {ol oh : Option Value} {i j : Int} (ht : P.underlying t = some .string)
 (hl : F4 lo ol i 0) (hh : F4 hi oh j l.length) (h0 : 0 ≤ i) (h1 : i ≤ j) (h2 : j ≤ l.length) :
 (Instr.sliceAt t (.string ⟨l.toArray⟩) ol oh none).run P w = .ok (.string ⟨((l.take j.toNat).drop i.toNat).toArray⟩) w := by
 have hb := Iy (P := P) (w := w) false hl hh (mx := false) (om := none) (m := l.length) (.inl ⟨rfl, rfl, rfl⟩) (by simp) h0 h1 h2 (Int.le_refl _) (Nat.le_refl _);unfold Instr.sliceAt;rw [Ab (Fw.run_underlying ht w)];simp only;unfold Instr.slice;rw [Ab (Fw.run_underlying ht w)];simp only [H9, Option.isSome_none, Bool.false_eq_true, if_false, pure_bind];rw [Ab hb];simp only [Sem.run_pure];congr 2;apply ByteArray.ext;apply Array.ext';rw [Lib.extract_data];simp [List.drop_take]
end Go.Proofs.YthiamojjhdcegaaGreat.Fw
namespace Go.Proofs.YthiamojjhdcegaaGreat.Fw
variable [Th]
open Go.RowKit
variable {P : Program} {F : Fr} {N : Nat} {ρ : Nat → Value} {s : FS} {a : Act} {w w' : World} {K : KK} {V : View}
def Y5 (P : Program) (F : Fr) (N : Nat) (s : FS) (a : Act) (w : World) (m : Sem Value) (K : KK) : Prop :=
 ∃ v w' x u ρ', m.run P w = .ok v w' ∧ K x u ∧ RelR F N ρ' (s.hup u) a w' ∧ Conc (vw F w' ρ' (s.hup u)) ρ' x v
theorem Tells.mak {m : Sem Value} (hR : RelR F N ρ s a w) (h : Tells P (vw F w ρ s) ρ w m K) : Y5 P F N s a w m K := by
 obtain ⟨v, x, h1, h2, h3⟩ := h;exact ⟨v, w, x, [], ρ, h1, h2, hR, h3⟩
theorem Np {v : Value} {x : PV} (h : Fu v = some x) : PConc V x v := by
 unfold Fu at h;split at h <;> (try cases h)
 · exact .i _ _
 · exact .b _
 · exact .s _
 · exact .sl true 0 [] none 0 (fun _ _ => undef) 0 0 #[] (by simp) (by simp) (by simp) (by simp) (by simp) (by simp)
 · exact .v _ trivial
 · exact .v _ trivial
 · exact .v _ trivial
 · exact .v _ trivial
theorem Ha {α : Type} : ∀ {l : List (Option α)} {l' : List α}, Au l = some l' → l.length = l'.length ∧ ∀ i : Nat, l[i]? = (l'[i]?).map some
 | [], l', h => by simp [Au] at h; subst h; simp
 | x :: l, l', h => by
   simp only [Au] at h;split at h
   · rename_i a b hb;cases h;obtain ⟨h1, h2⟩ := Ha hb;refine ⟨by simp [h1], fun i => ?_⟩;cases i with
     | zero => rfl
     | succ i => simpa using h2 i
   · cases h
theorem Ug {vs : List Value} {cs : List PV} (h : Au (vs.map Fu) = some cs) : PCells V cs vs := by
 obtain ⟨h1, h2⟩ := Ha h;refine ⟨by simpa using h1.symm, fun j x hj => ?_⟩;have := h2 j;rw [hj] at this;simp only [List.getElem?_map, Option.map_some, Option.map_eq_some_iff] at this;obtain ⟨v, g1, g2⟩ := this;exact ⟨v, g1, Np g2⟩
theorem Ams {x y : PV} {v : Value} (h : Arp x y = true) (hc : PConc V y v) : PConc V x v := by
 unfold Arp at h;split at h
 · simp only [Bool.and_eq_true, decide_eq_true_eq] at h; obtain ⟨rfl, rfl⟩ := h; exact hc
 · simp only [beq_iff_eq] at h; subst h; exact hc
 · simp only [decide_eq_true_eq] at h; subst h; exact hc
 · exact hc
 · exact hc
 · exact hc
 · exact hc
 · exact hc
 · cases h
theorem Wv : ∀ {a b : List PV} {vs : List Value}, Ni a b = true → PCells V b vs → PCells V a vs
 | [], [], vs, _, h => h
 | x :: a, y :: b, vs, he, h => by
   simp only [Ni, Bool.and_eq_true] at he;obtain ⟨v, us, rfl, h1, h2⟩ := h.inv_cons;exact .cons (Ams he.1 h1) (Wv he.2 h2)
 | [], _ :: _, _, he, _ => by simp [Ni] at he
 | _ :: _, [], _, he, _ => by simp [Ni] at he
mutual
theorem Asd : ∀ {x : SV}, x.okB = true → x.ok
 | .pv _, _ => by simp only [SV.ok]
 | .vec m cs, h => by simp only [SV.okB, decide_eq_true_eq] at h; simp only [SV.ok]; exact h
 | .agg l, h => by simp only [SV.okB] at h; simp only [SV.ok]; exact Akr h
 | .tup _, h => by simp [SV.okB] at h
 | .p _ _, h => by simp [SV.okB] at h
 | .ps _ _, h => by simp [SV.okB] at h
 | .pr _ _ _ _, h => by simp [SV.okB] at h
 | .pi _ _ _ _, h => by simp [SV.okB] at h
 | .os _, h => by simp [SV.okB] at h
 | .ov _ _ _ _, h => by simp [SV.okB] at h
 | .fn _ _, h => by simp [SV.okB] at h
 | .dead, h => by simp [SV.okB] at h
theorem Akr : ∀ {l : List SV}, SV.okBL l = true → SV.okL l
 | [], _ => by simp only [SV.okL]
 | x :: l, h => by simp only [SV.okBL, Bool.and_eq_true] at h; simp only [SV.okL]; exact ⟨Asd h.1, Akr h.2⟩
end
theorem T0 {t : TypeId} {cs : List PV} (h : Df P t = some cs) : ∃ i zv, P.info? t = some i ∧ i.zero = some zv ∧ ∀ V, PCells V cs (Ar zv) := by
 unfold Df at h;cases hi : P.info? t with
 | none => rw [hi] at h; simp at h
 | some i =>
   rw [hi] at h;simp only [Option.bind_some] at h;cases hz : i.zero with
   | none => rw [hz] at h; simp at h
   | some zv =>
     rw [hz] at h;refine ⟨i, zv, rfl, hz, fun V => ?_⟩;have one : ∀ v : Value, A3 v → (Fu v).map (fun x => [x]) = some cs → PCells V cs (Ar v) := fun v hv hm => by
      obtain ⟨x, g1, rfl⟩ := Option.map_eq_some_iff.1 hm;have : Ar v = [v] := by cases v <;> simp_all [A3, Ar]
      rw [this]; exact .cons (Np g1) .nil
     cases zv with
     | agg c => exact Ug h
     | tuple c => simp [Fu] at h
     | _ => exact one _ trivial h
theorem Pm {t : TypeId} {i : TypeInfo} {zv : Value} (h : P.info? t = some i) (hz : i.zero = some zv) : (zeroValue t).run P w = .ok zv w := by
 unfold zeroValue;rw [Ab (Q2 h w)];simp only [hz]; rfl
theorem Vw {t : TypeId} {z : SV} (h : Tz P t = some z) : ∃ zv, (∀ w : World, (zeroValue t).run P w = .ok zv w) ∧ ∀ (V : View) (ρ : Nat → Value), Conc V ρ z zv ∧ (Ar zv).length = z.width ∧ ∀ c ∈ Ar zv, A3 c := by
 unfold Tz at h;split at h
 · rename_i z' _;split at h
   · rename_i hok;cases h;unfold Ap7 at hok;simp only [Bool.and_eq_true] at hok;obtain ⟨hb, hok⟩ := hok;split at hok
     · rename_i x1 x2 x3 x4 ca cb n ag hca hcb hn hag;simp only [Bool.and_eq_true] at hok;obtain ⟨⟨⟨hz0, heq⟩, _⟩, hform⟩ := hok;obtain ⟨i, zv, hi, hz, hpc⟩ := T0 hcb;refine ⟨zv, fun w => Pm hi hz, fun V ρ => ?_⟩;have hp := Wv heq (hpc V);obtain ⟨v, e1, e2, e3, e4⟩ := Qi (ρ := ρ) (Asd hb) hca hp;have hzv : v = zv := by
        rw [hi] at hz0;simp only [Option.bind_some, hz] at hz0;cases z with
        | pv x =>
          simp only at e4;cases zv with
          | agg c => simp_all
          | _ => simp only [Ar, List.cons.injEq, and_true] at e4; exact e4.symm
        | vec m cs =>
          simp only at e4;cases zv with
          | agg c => rw [e4]; simp [Ar]
          | _ => simp_all
        | agg l =>
          simp only at e4;cases zv with
          | agg c => rw [e4]; simp [Ar]
          | _ => simp_all
        | _ => simp [SV.okB] at hb
       subst hzv;exact ⟨e2, e3, hp.one⟩
     · cases hok
   · cases h
 · cases h
theorem Mp (u : Value) : u.cells = ⟨Ar u⟩ := by rw [← Fy]
theorem Aee (hR : RelR F N ρ s a w) {ty : TypeId} {d : Nat} {x : SV} {u : Value} (hk : ∀ V', (vw F w ρ s).le V' → Conc V' (upd ρ d (.pointer (some ⟨w.heap.size, 0, none⟩))) x u)
 (hl : (Ar u).length = x.width) (ho : ∀ c ∈ Ar u, A3 c) :
 RelR F N (upd ρ d (.pointer (some ⟨w.heap.size, 0, none⟩))) (s.hup [.new d (.var x)]) a { w with heap := w.heap.push (.cells u.cells ty) } := by
 refine (hR.new (Grew.push w _) d (.var x) (.pointer (some ⟨w.heap.size, 0, none⟩)) (fun b hb => ?_) (fun V' hV => ?_)).1
 · simp only [Cf, Option.some.injEq] at hb; subst hb; simp
 · exact ⟨w.heap.size, Ar u, ty, (0, 0), u, Az, by simp [Mp], .inl rfl, hk V' hV, rfl, hl, ho⟩
theorem Pz {ty : TypeId} {u : Value} : (newVar ty u).run P w = .ok ⟨w.heap.size, 0, none⟩ { w with heap := w.heap.push (.cells u.cells ty) } := rfl
theorem A43 {ty : TypeId} {d : Nat} {z : SV} (hR : RelR F N ρ s a w) (hz : Tz P ty = some z) (h : K (.p d 0) [.new d (.var z)]) : Y5 P F N s a w (Instr.alloc ty true (.tuple #[])) K := by
 obtain ⟨zv, hrun, hc⟩ := Vw hz;refine ⟨.pointer (some ⟨w.heap.size, 0, none⟩), _, .p d 0, _, _, ?_, h, Aee (ty := ty) hR (u := zv) (fun V' _ => (hc _ _).1) (hc (vw F w ρ s) ρ).2.1 (hc (vw F w ρ s) ρ).2.2, ?_⟩
 · unfold Instr.alloc;rw [Ab (hrun w)];simp only;rw [Ab Pz]; rfl
 · simp only [Conc]; exact ⟨_, Az, rfl⟩
theorem A6x {ty : TypeId} {d : Nat} {x : SV} {u : Value} (hR : RelR F N ρ s a w) (hx : Conc (vw F w ρ s) ρ x u) (hf : x.flatB = true) (h : K (.p d 0) [.new d (.var (x.kill d))]) : Y5 P F N s a w (Instr.box ty u) K := by
 have hfl := hx.flat hf;refine ⟨.pointer (some ⟨w.heap.size, 0, none⟩), _, .p d 0, _, _, ?_, h, Aee (ty := ty) hR (u := u) (fun V' hV => hx.kill hV) (by rw [Jl]; exact hfl.1) hfl.2, ?_⟩
 · unfold Instr.box;rw [Ab Pz]; rfl
 · simp only [Conc]; exact ⟨_, Az, rfl⟩
theorem Agf : ∀ {l : List SV} {vs : List Value}, ConcL V ρ l vs → SV.flatBL l = true → Cells V ρ (M1 l) (vs.map Ar).flatten
 | [], vs, h, _ => by simp only [ConcL] at h; subst h; simp [M1, Cells]
 | x :: l, vs, h, hf => by
   simp only [ConcL] at h;obtain ⟨u, us, rfl, h1, h2⟩ := h;simp only [SV.flatBL, Bool.and_eq_true] at hf;simp only [M1, List.map_cons, List.flatten_cons];exact (M7 h1 hf.1).append (Agf h2 hf.2)
theorem Nj (hR : RelR F N ρ s a w) (g : Grew w w') {d sz cap : Nat} {es : List (List PV)} {b : Nat} {vs : List Value} {ty fr} (hb : w.heap.size ≤ b) (hw : w'.heap[b]? = some (.cells ⟨vs⟩ ty fr)) (hfr : rowFroz sz fr vs.length)
 (hcap : es.length ≤ cap) (hz : 0 < sz) (hsz : ∀ c ∈ es, c.length = sz) (hlen : vs.length = cap * sz) (ho : ∀ c ∈ vs, A3 c) (hel : ∀ V', (vw F w ρ s).le V' → ∀ i c, es[i]? = some c → PCells V' c ((vs.drop (i * sz)).take sz)) :
 RelR F N (upd ρ d (.slice (some ⟨b, 0, none⟩) es.length cap)) (s.hup [.new d (.row sz es)]) a w' := by
 refine (hR.new g d (.row sz es) _ (fun b' hb' => ?_) (fun V' hV => ?_)).1
 · simp only [Cf] at hb';split at hb'
   · cases hb'
   · simp only [Option.some.injEq] at hb'; subst hb';exact ⟨hb, (Array.getElem?_eq_some_iff.1 hw).1⟩
 · exact ⟨_, cap, Az, hcap, hz, hsz, fun _ => ⟨b, vs, ty, fr, rfl, hw, hlen, hfr, ho, hel V' hV⟩⟩
theorem Hh {d : Nat} {b len cap} : Conc V (upd ρ d (.slice b len cap)) (.os d) (.slice b len cap) := by
 simp only [Conc]; exact ⟨Az.symm, trivial⟩
end Go.Proofs.YthiamojjhdcegaaGreat.Fw
namespace Go.Proofs.YthiamojjhdcegaaGreat.Fw
variable [Th]
open Go.RowKit
variable {P : Program} {F : Fr} {N : Nat} {ρ : Nat → Value} {s : FS} {a : Act} {w w' : World} {K : KK} {V : View}
structure Els (V : View) (sz : Nat) (es : List (List PV)) (vs : List Value) : Prop where
 len : vs.length = es.length * sz
 szs : ∀ c ∈ es, c.length = sz
 one : ∀ c ∈ vs, A3 c
 el : ∀ (i : Nat) c, es[i]? = some c → PCells V c ((vs.drop (i * sz)).take sz)
theorem Els.nil {sz} : Els V sz [] [] := ⟨by simp, by simp, by simp, by simp⟩
theorem Els.mono {V' : View} (hV : V.le V') {sz es vs} (h : Els V sz es vs) : Els V' sz es vs := ⟨h.len, h.szs, h.one, fun i c hc => (h.el i c hc).mono hV⟩
theorem Els.append {sz es fs vs us} (h : Els V sz es vs) (k : Els V sz fs us) : Els V sz (es ++ fs) (vs ++ us) := by
 refine ⟨by simp [h.len, k.len, Nat.add_mul], fun c hc => (List.mem_append.1 hc).elim (h.szs c) (k.szs c), fun c hc => (List.mem_append.1 hc).elim (h.one c) (k.one c), fun i c hc => ?_⟩;by_cases hi : i < es.length
 · rw [List.getElem?_append_left hi] at hc;have h1 : (i + 1) * sz ≤ es.length * sz := Nat.mul_le_mul_right _ hi;rw [Nat.succ_mul] at h1;rw [List.drop_append_of_le_length (by rw [h.len]; omega), List.take_append_of_le_length (by simp [h.len]; omega)];exact h.el i c hc
 · rw [List.getElem?_append_right (by omega)] at hc;have h1 : es.length * sz ≤ i * sz := Nat.mul_le_mul_right _ (by omega);rw [List.drop_append, List.drop_of_length_le (by rw [h.len]; exact h1), List.nil_append, h.len, ← Nat.sub_mul];exact k.el _ c hc
theorem Ci {sz : Nat} {es : List (List PV)} {vs : List Value} (off : Nat) (hz : 0 < sz) (hsz : ∀ c ∈ es, c.length = sz) (hel : ∀ (i : Nat) c, es[i]? = some c → PCells V c ((vs.drop (off + i * sz)).take sz)) :
 (es ≠ [] → off + es.length * sz ≤ vs.length) ∧ Els V sz es ((vs.drop off).take (es.length * sz)) := by
 have hin : es ≠ [] → off + es.length * sz ≤ vs.length := fun hne => by
  have hpos : 0 < es.length := List.length_pos_iff.2 hne;have hlt : es.length - 1 < es.length := by omega
  have h1 := (hel (es.length - 1) _ (List.getElem?_eq_getElem hlt)).1;rw [hsz _ (List.getElem_mem hlt)] at h1;simp only [List.length_take, List.length_drop] at h1;have : es.length * sz = (es.length - 1) * sz + sz := by rw [← Nat.succ_mul]; congr 1; omega
  omega
 refine ⟨hin, ?_, hsz, ?_, fun i c hc => ?_⟩
 · by_cases hne : es = []
   · subst hne; simp
   · have := hin hne; simp; omega
 · intro c hc;obtain ⟨k, hk⟩ := List.mem_iff_getElem?.1 hc;rw [List.getElem?_take] at hk;split at hk
   · rename_i hlt;have hi : k / sz < es.length := Nat.div_lt_of_lt_mul (by rw [Nat.mul_comm]; exact hlt);have := (hel (k / sz) _ (List.getElem?_eq_getElem hi)).one c;refine this (List.mem_iff_getElem?.2 ⟨k % sz, ?_⟩);rw [List.getElem?_take, if_pos (Nat.mod_lt _ hz), List.getElem?_drop];rw [List.getElem?_drop] at hk;rw [← hk]; congr 1;have := Nat.div_add_mod k sz;rw [Nat.mul_comm] at this; omega
   · cases hk
 · have hi : i < es.length := (List.getElem?_eq_some_iff.1 hc).1;have h1 : (i + 1) * sz ≤ es.length * sz := Nat.mul_le_mul_right _ hi;rw [Nat.succ_mul] at h1;have := hel i c hc;rw [List.drop_take, List.take_take, List.drop_drop, Nat.min_eq_left (by omega)]; exact this
theorem Lq (hR : RelR F N ρ s a w) {y : SV} {v : Value} {ys : List (List PV)} {sz : Nat} (hz : 0 < sz) (hy : Conc (vw F w ρ s) ρ y v) (he : C1 s.h y = some ys) (hs : ys = [] ∨ Iq s.h y = sz) :
 (Builtin.lenOf v).run P w = .ok ys.length w ∧ ∃ vs, (Builtin.firstCells sz ys.length v).run P w = .ok ⟨vs⟩ w ∧ Els (vw F w ρ s) sz ys vs := by
 have empty : ∀ (ad : Option Addr) (l c : Nat), (Builtin.firstCells sz 0 (.slice ad l c)).run P w = .ok ⟨[]⟩ w := fun ad l c => by
  cases ad <;> simp [Builtin.firstCells, loadCells, loadCellsFrom]
 unfold C1 at he;split at he
 · rename_i full sz' es;cases he;simp only [Conc] at hy;by_cases hne : ys = []
   · subst hne;cases hy with
     | sl _ _ _ ad cap => exact ⟨rfl, [], empty _ _ _, .nil⟩
   · have hsz : sz' = sz := by rcases hs with h | h; exact absurd h hne; simpa [Iq] using h
     subst hsz;obtain ⟨b, off, cap, arr, rfl, hV, _⟩ := L7 hy (List.length_pos_iff.2 hne);obtain ⟨_, ty, fr, hb⟩ := Ie hV;have hel : ∀ (i : Nat) c, ys[i]? = some c → c.length = sz' ∧ PCells (vw F w ρ s) c ((arr.toList.drop (off + i * sz')).take sz') := fun i c hc => by
      obtain ⟨b2, off2, cap2, arr2, e1, e2, e3⟩ := L7 hy (List.getElem?_eq_some_iff.1 hc).1;cases e1; rw [hV] at e2; cases e2;exact e3 c hc
     obtain ⟨h1, h2⟩ := Ci (V := vw F w ρ s) (vs := arr.toList) off hz (fun c hc => by obtain ⟨i, hi⟩ := List.mem_iff_getElem?.1 hc; exact (hel i c hi).1) (fun i c hc => (hel i c hc).2);refine ⟨rfl, _, ?_, h2⟩;simp only [Builtin.firstCells];exact Ia hb (by simpa using h1 hne)
 · rename_i l;cases he;cases M6 hy;refine ⟨by simp [Builtin.lenOf, H9, A7], l.map fun b => .int .u8 b.toNat, ?_, ?_⟩
   · simp only [Builtin.firstCells, Sem.run_pure];congr 1;apply Array.ext';simp [A7, ByteArray.extract, ByteArray.copySlice]
   · have hsz : l = [] ∨ sz = 1 := by
      rcases hs with h | h
      · left; simpa [A7] using h
      · right; simpa [Iq] using h.symm
     rcases hsz with rfl | rfl
     · exact .nil
     · refine ⟨by simp [A7], fun c hc => ?_, fun c hc => ?_, fun i c hc => ?_⟩
       · simp only [A7, List.mem_map] at hc; obtain ⟨x, _, rfl⟩ := hc; rfl
       · simp only [List.mem_map] at hc; obtain ⟨x, _, rfl⟩ := hc; trivial
       · simp only [A7, List.getElem?_map, Option.map_eq_some_iff] at hc;obtain ⟨x, hx, rfl⟩ := hc;have : ((l.map fun b => Value.int .u8 b.toNat).drop (i * 1)).take 1 = [.int .u8 x.toNat] := by
          rw [Nat.mul_one, ← List.map_drop, List.drop_eq_getElem_cons (List.getElem?_eq_some_iff.1 hx).1];simp [(List.getElem?_eq_some_iff.1 hx).2]
         rw [this];exact .cons (.i _ _) .nil
 · rename_i n;unfold G8 at he;split at he
   · rename_i sz' es hn;cases he;simp only [Conc] at hy;obtain ⟨hy, _⟩ := hy;by_cases hne : ys = []
     · subst hne;obtain ⟨base, cap, h1, _⟩ := hR.own n _ hn;rw [hy, h1];exact ⟨rfl, [], empty _ _ _, .nil⟩
     · have hsz : sz' = sz := by rcases hs with h | h; exact absurd h hne; simpa [Iq, hn, Aeb] using h
       subst hsz;obtain ⟨b, len, cap, vs, ty, fr, h1, h2, h3, h4, h5, h6, h7, h8, h9, rfl, h11⟩ := Hu (hR.own n _ hn) (List.length_pos_iff.2 hne);rw [hy, h1];obtain ⟨g1, g2⟩ := Ci (V := vw F w ρ s) (vs := vs) 0 hz h9 (fun i c hc => by simpa using h11 i c hc);refine ⟨rfl, _, ?_, by simpa using g2⟩;simp only [Builtin.firstCells];have := Ia (P := P) (n := ys.length * sz') h2 (off := 0) (by simpa using g1 hne);simpa using this
   · cases he
 · cases he
end Go.Proofs.YthiamojjhdcegaaGreat.Fw
namespace Go.Proofs.YthiamojjhdcegaaGreat.Fw
variable [Th]
open Go.RowKit
variable {P : Program} {F : Fr} {N : Nat} {ρ : Nat → Value} {s : FS} {a : Act} {w w' : World} {K : KK} {V : View}
theorem A49 {V : View} {t : TypeId} {rest : List TypeId} {ty : TypeId} {sz : Nat} {es : List (List PV)} {v : Value} (hx : Conc V ρ (.pv (.fs sz es)) v) (hte : ∃ e, P.underlying t = some (.slice e)) (h : Hx (some es) K) :
 Tells P V ρ w (Builtin.len_ ⟨t :: rest⟩ ty #[v]) K := by
 obtain ⟨e, hte⟩ := hte;simp only [Conc] at hx;cases hx with
 | fs sz es a cap => exact .mk (v := .int .i64 es.length) (by simp [Builtin.len_, Fw.run_underlying hte, goInt]) h Dj
theorem Atd {t : TypeId} {rest : List TypeId} {ty : TypeId} (hR : RelR F N ρ s a w) {x : SV} {v : Value} (hx : Conc (vw F w ρ s) ρ x v)
 (hte : ∃ e, P.underlying t = some (.slice e)) (hns : ∀ l, x ≠ .pv (.s l)) (h : Hx (C1 s.h x) K) :
 Tells P (vw F w ρ s) ρ w (Builtin.len_ ⟨t :: rest⟩ ty #[v]) K := by
 unfold Hx at h;split at h
 · rename_i es he;have key : ∀ (ad : Option Addr) (c : Nat), (∃ e, P.underlying t = some (.slice e)) → (Builtin.len_ ⟨t :: rest⟩ ty #[.slice ad es.length c]).run P w = .ok (.int .i64 es.length) w := fun ad c ⟨e, hte⟩ => by
    simp [Builtin.len_, Fw.run_underlying hte, goInt]
   unfold C1 at he;split at he
   · cases he;simp only [Conc] at hx;cases hx with
     | sl _ _ _ ad cap => exact .mk (key _ _ hte) h Dj
   · rename_i l; exact absurd rfl (hns l)
   · rename_i n;unfold G8 at he;split at he
     · rename_i hn;cases he;simp only [Conc] at hx;obtain ⟨base, cap, h1, _⟩ := hR.own n _ hn;rw [hx.1, h1];exact .mk (key _ _ hte) h Dj
     · cases he
   · cases he
 · exact h.elim
theorem Aza {t : TypeId} {rest : List TypeId} {ty : TypeId} {l : List UInt8} {v : Value} (ht : P.underlying t = some .string) (hx : Conc V ρ (.pv (.s l)) v) (h : K (.pv (.i .i64 l.length)) []) :
 Tells P V ρ w (Builtin.len_ ⟨t :: rest⟩ ty #[v]) K := by
 cases M6 hx;refine .mk (v := .int .i64 l.length) ?_ h Dj;simp [Builtin.len_, Fw.run_underlying ht, goInt, H9]
theorem Avs {src dst e : TypeId} {l : List UInt8} {full : Bool} {sz : Nat} {v : Value} (hs : P.underlying src = some (.slice e)) (he : P.underlying e = some (.int .u8)) (hd : P.underlying dst = some .string)
 (hV : ∀ b c, V b = some c → ∃ ty fr, w.heap[b]? = some (.cells c ty fr)) (h : PConc V (.sl full sz (A7 l)) v) : (convert src dst v).run P w = .ok (.string ⟨l.toArray⟩) w := by
 by_cases hne : l = []
 · subst hne;cases h with
   | sl _ _ _ ad cap =>
     cases ad with
     | none => exact run_convert_bytes_nil w src e hs he _ _ dst hd
     | some ad =>
       unfold convert;rw [Ab (Fw.run_underlying hs w), Ab (Fw.run_underlying hd w)];simp only;rw [Ab (Fw.run_underlying he w)];simp [Conv.bytesToString, A7, loadCells, loadCellsFrom];rfl
 · have hlen : (A7 l).length = l.length := by simp [A7]
   obtain ⟨b, off, cap, arr, rfl, hV1, _⟩ := L7 h (i := 0) (by rw [hlen]; exact List.length_pos_iff.2 hne);obtain ⟨ty, fr, hb⟩ := hV _ _ hV1;rw [run_convert_bytes_arg w src e hs he b off _ cap (l.map fun c => (c.toNat : Int)) (by simp [A7]) ?_ dst hd]
   · congr 2;unfold strOfNums;congr 2;rw [List.map_map];have : ∀ l : List UInt8, l.map ((fun n : Int => UInt8.ofNat n.toNat) ∘ fun c => (c.toNat : Int)) = l := fun l => by
      induction l with
      | nil => rfl
      | cons c l ih => simp only [List.map_cons, ih, Function.comp, Int.toNat_natCast, UInt8.ofNat_toNat]
     rw [this]
   · intro i hi;rw [hlen] at hi;obtain ⟨b2, off2, cap2, arr2, e1, e2, e3⟩ := L7 h (i := i) (by rw [hlen]; exact hi);cases e1; rw [hV1] at e2; cases e2;obtain ⟨hl, hp⟩ := e3 [.i .u8 l[i].toNat] (by simp [A7, hi]);have hsz : sz = 1 := by simpa using hl.symm
     subst hsz;obtain ⟨v, g1, g2⟩ := hp.2 0 _ rfl;cases g2;rw [O9 hb];have := List.getElem?_take (l := arr.toList.drop (off + i * 1)) (i := 1) (j := 0);rw [this, if_pos (by omega), List.getElem?_drop] at g1;simp only [Nat.mul_one, Nat.add_zero, Array.getElem?_toList] at g1;rw [g1];simp [List.getD_eq_getElem?_getD, hi]
theorem Y7 {O : Nat → Prop} : ∀ b c, Am w O b = some c → ∃ ty fr, w.heap[b]? = some (.cells c ty fr) := fun _ _ h => (Ie h).2
theorem Avt {src dst e : TypeId} (hR : RelR F N ρ s a w) {x : SV} {v : Value} (hs : P.underlying src = some (.slice e)) (he : P.underlying e = some (.int .u8)) (hd : P.underlying dst = some .string)
 (hx : Conc (vw F w ρ s) ρ x v) (hns : ∀ l, x ≠ .pv (.s l)) (h : Mx (C1 s.h x) K) : Tells P (vw F w ρ s) ρ w (convert src dst v) K := by
 unfold Mx at h;split at h
 · rename_i es hel;obtain ⟨l, rfl, h⟩ := h;unfold C1 at hel;split at hel
   · cases hel;simp only [Conc] at hx;exact .mk (Avs hs he hd Y7 hx) h Ts
   · rename_i l; exact absurd rfl (hns l)
   · rename_i n;unfold G8 at hel;split at hel
     · rename_i hn;cases hel;simp only [Conc] at hx;have := Ky hR hn;rw [hx.1];exact .mk (Avs hs he hd Y7 this) h Ts
     · cases hel
   · cases hel
 · exact h.elim
theorem A3b {t e : TypeId} {sz : Nat} (hR : RelR F N ρ s a w) {x : SV} {v : Value} {lo hi mx : Bool} {ol oh om : Option Value} {i j m : Int} {es : List (List PV)} (ht : P.underlying t = some (.slice e)) (hz : Ai P e = some sz)
 (hx : Conc (vw F w ρ s) ρ x v) (hes : C1 s.h x = some es) (hl : F4 lo ol i 0) (hh : F4 hi oh j es.length) (hm : F4 mx om m es.length) (hmh : mx = true → hi = true)
 (h0 : 0 ≤ i) (h1 : i ≤ j) (h2 : j ≤ m) (h3 : m ≤ es.length) (h : Ss x (s.h x.nm) sz hi mx i j m es K) : Y5 P F N s a w (Instr.sliceAt t v ol oh om) K := by
 unfold Ss at h;split at h
 · rename_i full sz' es';obtain ⟨hsz, h⟩ := h;simp only [C1, Option.some.injEq] at hes; subst hes;simp only [Conc] at hx;obtain ⟨v', hr, hc⟩ := Aqz (w := w) ht (fun hne => by rw [hz, hsz.resolve_left hne]) ⟨sz, hz⟩ hx hl hh hm hmh h0 h1 h2 h3;exact (Tells.mk hr h (by simp only [Conc]; exact hc)).mak hR
 · rename_i n;split at h
   · rename_i sz' es' hn;obtain ⟨rfl, h⟩ := h;simp only [SV.nm] at hn;simp only [C1, G8, hn, Option.some.injEq] at hes; subst hes;simp only [Conc] at hx;have := Ky hR hn;rw [hx.1];obtain ⟨v', hr, hc⟩ := Aqz (w := w) ht (fun _ => hz) ⟨_, hz⟩ this hl hh hm hmh h0 h1 h2 h3;refine ⟨v', w, _, _, ρ, hr, h, (hR.frz hn).1, ?_⟩;simp only [Conc];have hc' := hc.mono (hR.frz hn).2.2;show PConc (vw F w ρ (s.frz n (.sl false sz' es'))) _ _;simpa using hc'
   · exact h.elim
 · exact h.elim
theorem Kx {z : List Value} {zs : List PV} (hp : PCells V zs z) (hz : 0 < z.length) (n : Nat) : Els V z.length (List.replicate n zs) ((Array.range (n * z.length)).map fun i => (Array.mk z)[i % (Array.mk z).size]!).toList := by
 have hget : ∀ k, k < n * z.length → (((Array.range (n * z.length)).map fun i => (Array.mk z)[i % (Array.mk z).size]!).toList)[k]? = z[k % z.length]? := fun k hk => by
  have h2 : k % z.length < z.length := Nat.mod_lt _ hz;simp [hk, h2]
 have := Ci (V := V) (sz := z.length) (es := List.replicate n zs) (vs := ((Array.range (n * z.length)).map fun i => (Array.mk z)[i % (Array.mk z).size]!).toList) 0 hz
  (fun c hc => by rw [List.eq_of_mem_replicate hc]; exact hp.1) (fun i c hc => by
    have hi : i < n := by have := (List.getElem?_eq_some_iff.1 hc).1; simpa using this
    have he : c = zs := List.eq_of_mem_replicate (List.mem_of_getElem? hc);subst he;have hin : i * z.length + z.length ≤ n * z.length := by rw [← Nat.succ_mul]; exact Nat.mul_le_mul_right _ hi
    refine ⟨by simp; rw [hp.1]; omega, fun j x hj => ?_⟩;obtain ⟨v, g1, g2⟩ := hp.2 j x hj;refine ⟨v, ?_, g2⟩;have hjl : j < z.length := (List.getElem?_eq_some_iff.1 g1).1;rw [List.getElem?_take, if_pos hjl, List.getElem?_drop, hget _ (by omega)];rw [Nat.zero_add, Nat.mul_comm i, Nat.mul_add_mod, Nat.mod_eq_of_lt hjl]; exact g1)
 have h2 := this.2;simp only [List.drop_zero, List.length_replicate] at h2
 rwa [List.take_of_length_le (by simp)] at h2
end Go.Proofs.YthiamojjhdcegaaGreat.Fw
namespace Go.Proofs.YthiamojjhdcegaaGreat.Fw
variable [Th]
open Go.RowKit
variable {P : Program} {F : Fr} {N : Nat} {ρ : Nat → Value} {s : FS} {a : Act} {w w' : World} {K : KK} {V : View}
theorem M8 (w : World) (e : TypeId) (s : ByteArray) : Grew w (Lib.bytesWorld w e s) := by
 refine ⟨?_, ?_, ?_, by rw [Lib.bytesWorld_size]; omega, fun b hb => Lib.bytesWorld_at_old w e s b hb⟩ <;>
  simp [Lib.bytesWorld, World.freeze, World.alloc, World.drew, -World.alloc_eq, -World.drew_eq]
theorem A3j {src dst e : TypeId} {d : Nat} (hR : RelR F N ρ s a w) {l : List UInt8} {u : TypeDesc} (hs : P.underlying src = some u) (hd : P.underlying dst = some (.slice e)) (he : P.underlying e = some (.int .u8))
 (h : K (.os d) [.new d (.row 1 (A7 l))]) : Y5 P F N s a w (convert src dst (.string ⟨l.toArray⟩)) K := by
 have hrun := Lib.run_convert_string_bytes w src dst e ⟨l.toArray⟩ hs hd he;have hcap := grownCap_ge w (ByteArray.mk l.toArray).size 0 e;have hlen : (A7 l).length = l.length := by simp [A7]
 rw [H9] at hrun hcap;rw [← hlen] at hrun;have hcells : (Lib.bytesCells w e ⟨l.toArray⟩).toList = (l.map fun b => Value.int .u8 b.toNat) ++ List.replicate (grownCap w l.length 0 e - l.length) (.int .u8 0) := by
  simp [Lib.bytesCells, H9]
 have hR' := Nj (d := d) (sz := 1) (es := A7 l) (cap := grownCap w (A7 l).length 0 e) (b := w.heap.size) (vs := (Lib.bytesCells w e ⟨l.toArray⟩).toList) hR (M8 w e ⟨l.toArray⟩) (Nat.le_refl _)
  (by rw [Lib.bytesWorld_at_new]) (.inr ⟨rfl, by simp⟩) (by rw [hlen]; exact hcap) (by omega) (fun c hc => by simp only [A7, List.mem_map] at hc; obtain ⟨x, _, rfl⟩ := hc; rfl)
  (by rw [hcells, hlen]; simp; omega) (fun c hc => by
    rw [hcells] at hc;rcases List.mem_append.1 hc with hc | hc
    · simp only [List.mem_map] at hc; obtain ⟨x, _, rfl⟩ := hc; trivial
    · rw [List.eq_of_mem_replicate hc]; trivial) (fun V' _ i c hc => by
    simp only [A7, List.getElem?_map, Option.map_eq_some_iff] at hc;obtain ⟨x, hx, rfl⟩ := hc;have hi : i < l.length := (List.getElem?_eq_some_iff.1 hx).1;rw [hcells, Nat.mul_one, List.drop_append_of_le_length (by simp; omega), ← List.map_drop, List.drop_eq_getElem_cons hi];simp only [List.map_cons, List.cons_append, List.take_succ_cons, List.take_zero];rw [(List.getElem?_eq_some_iff.1 hx).2];exact .cons (.i _ _) .nil)
 exact ⟨_, _, .os d, _, _, hrun, h, hR', Hh⟩
theorem Axw {src dst e : TypeId} (hR : RelR F N ρ s a w) {l : List UInt8} {u : TypeDesc} (hs : P.underlying src = some u) (hd : P.underlying dst = some (.slice e)) (he : P.underlying e = some (.int .u8))
 (h : K (.pv (.sl false 1 (A7 l))) []) : Y5 P F N s a w (convert src dst (.string ⟨l.toArray⟩)) K := by
 have hrun := Lib.run_convert_string_bytes w src dst e ⟨l.toArray⟩ hs hd he;have hcap := grownCap_ge w (ByteArray.mk l.toArray).size 0 e;have hlen : (A7 l).length = l.length := by simp [A7]
 rw [H9] at hrun hcap;rw [← hlen] at hrun hcap;have hcells : (Lib.bytesCells w e ⟨l.toArray⟩).toList = (l.map fun b => Value.int .u8 b.toNat) ++ List.replicate (grownCap w l.length 0 e - l.length) (.int .u8 0) := by
  simp [Lib.bytesCells, H9]
 have g := M8 w e ⟨l.toArray⟩;have hat : ∀ i (b : UInt8), l[i]? = some b → (Lib.bytesCells w e ⟨l.toArray⟩)[i]? = some (Value.int .u8 b.toNat) := fun i b hb => by
  have hi : i < l.length := (List.getElem?_eq_some_iff.1 hb).1;rw [← Array.getElem?_toList, hcells, List.getElem?_append_left (by simpa using hi), List.getElem?_map, hb]; rfl
 refine ⟨_, _, _, [], ρ, hrun, h, hR.grew g, ?_⟩;simp only [Conc];refine .sl false 1 (A7 l) _ _ (fun i _ => ((Lib.bytesCells w e ⟨l.toArray⟩)[i]?).getD undef) w.heap.size 0 (Lib.bytesCells w e ⟨l.toArray⟩) (by omega) (by simp) (fun c hc => by simp only [A7, List.mem_map] at hc; obtain ⟨x, _, rfl⟩ := hc; rfl) (fun _ => ⟨rfl, ?_⟩) (fun i j hi hj => ?_) (fun i j c x hc hx => ?_)
 · show Am _ _ _ = _;unfold Am;rw [if_neg]
   · unfold Dg; rw [Lib.bytesWorld_at_new]; exact if_neg fun q => q.2 (.inr (Nat.le_refl _))
   · rintro (⟨n, y, h1, h2⟩ | h2)
     · exact absurd ((hR.own n y h1).lt h2) (by omega)
     · have := (hR.fr.hid _ h2).1;have := hR.fr.size;omega
 · have hi' : i < l.length := by omega
   have hj0 : j = 0 := by omega
   subst hj0;rw [show 0 + (i * 1 + 0) = i from by omega, hat i _ (List.getElem?_eq_getElem hi')]; rfl
 · simp only [A7, List.getElem?_map, Option.map_eq_some_iff] at hc;obtain ⟨b, hb, rfl⟩ := hc;have hx' : x = .i .u8 (b.toNat : Int) := by
    cases j with
    | zero => cases hx; rfl
    | succ j => simp at hx
   subst hx';simp only [hat i b hb, Option.getD_some];exact .i _ _
theorem Fm {e : TypeId} {z : List PV} {sz : Nat} (h : Df P e = some z) (hl : z.length = sz) : ∃ i zv, P.info? e = some i ∧ i.zero = some zv ∧ zv.cells.size = sz ∧ (∀ c ∈ zv.cells, A3 c) ∧ ∀ V, PCells V z zv.cells.toList := by
 obtain ⟨i, zv, hi, hz, hp⟩ := T0 h;have h1 := (hp (fun _ => none)).1;refine ⟨i, zv, hi, hz, by rw [Mq, ← h1, hl], fun c hc => ?_, fun V => by rw [Fy]; exact hp V⟩;exact (hp (fun _ => none)).one c (by rw [← Fy]; simpa using hc)
theorem A44 {t e : TypeId} {z : List PV} {b sz : Nat} {d : Nat} {kl kc : IntKind} {l c : Int} (hR : RelR F N ρ s a w) (ht : P.underlying t = some (.slice e)) (hz : Df P e = some z) (hb : It P e = some b) (hs : Ai P e = some sz)
 (hpos : 0 < b) (hzp : 0 < sz) (hl : z.length = sz) (h0 : 0 ≤ l) (h1 : l ≤ c) (h2 : c * b ≤ 70368744177664) (h : K (.os d) [.new d (.row z.length (List.replicate l.toNat z))]) :
 Y5 P F N s a w (Instr.makeSlice t (.int kl l) (.int kc c)) K := by
 obtain ⟨i, zv, hi, hzv, hsize, hone, hp⟩ := Fm hz hl;have hi1 : i.bytes = b := by simpa [It, hi] using hb
 have hi2 : i.size = sz := by simpa [Ai, hi] using hs
 have hc : c ≤ 70368744177664 := by
  have : c * 1 ≤ c * b := Int.mul_le_mul_of_nonneg_left (by omega) (by omega);omega
 have hrun := run_make (P := P) w t e i zv ht hi hzv kl kc l c h0 h1 (by rw [hi1, Int.mul_comm]; omega) (by omega);have hzl : zv.cells.toList.length = sz := by simpa using hsize
 have hcells : ∀ V, Els V sz (List.replicate c.toNat z) (madeCells zv.cells (c.toNat * i.size)).toList := fun V => by
  have := Kx (V := V) (z := zv.cells.toList) (hp V) (by omega) c.toNat;rw [hzl] at this;rw [hi2]; exact this
 have hR' := Nj (ty := e) (fr := (0, 0)) (d := d) (sz := z.length) (es := List.replicate l.toNat z) (cap := c.toNat) (b := w.heap.size) (vs := (madeCells zv.cells (c.toNat * i.size)).toList) (w' := { w with heap := w.heap.push (.cells (madeCells zv.cells (c.toNat * i.size)) e) }) hR (Grew.push w _) (Nat.le_refl _)
  (by simp) (.inl rfl) (by simp; omega) (by omega) (fun c hc => by rw [List.eq_of_mem_replicate hc]) (by rw [(hcells (fun _ => none)).len]; simp [hl]) (hcells (fun _ => none)).one (fun V' _ j x hj => by
    have hjl : j < l.toNat := by have := (List.getElem?_eq_some_iff.1 hj).1; simpa using this
    have e1 : x = z := List.eq_of_mem_replicate (List.mem_of_getElem? hj);have := (hcells V').el j z (by simp [List.getElem?_replicate]; omega);rw [e1, hl]; exact this)
 simp only [List.length_replicate] at hR';exact ⟨_, _, .os d, _, _, hrun, h, hR', Hh⟩
theorem RelR.renew (h : RelR F N ρ s a w) (n d : Nat) (old blk : Blk) (p : Value) (hn : s.h n = some old) (b0 : Nat) (hb0 : Cf (ρ n) = some b0) (hid : ∀ b, Cf p = some b → b = b0)
 (hos : w'.os = w.os) (htape : w'.tape = w.tape) (hout : w'.output = w.output) (hsize : w'.heap.size = w.heap.size) (hblock : ∀ b, b ≠ b0 → w'.heap[b]? = w.heap[b]?)
 (hown : ∀ V', (vw F w ρ s).le V' → Own w' V' (Fw.upd ρ d p) d blk) :
 RelR F N (Fw.upd ρ d p) (s.hup [.del n, .new d blk]) a w' := by
 have h1 := h.upd (w' := w') n old old hn b0 hb0 hos htape hout hsize hblock;have hs : ∀ m x, (s.hup [.del n, .new d blk]).h m = some x → (m = d ∧ x = blk) ∨ (m ≠ d ∧ m ≠ n ∧ ∃ y, s.h m = some y ∧ x = y.kill d) := by
  intro m x hm;simp only [FS.hup, FS.seth, FS.kill] at hm;by_cases e : m = d
  · simp only [e, if_true] at hm; cases hm; exact .inl ⟨e, rfl⟩
  · simp only [e, if_false] at hm;by_cases e2 : m = n
    · simp [e2] at hm
    · simp only [e2, if_false] at hm;cases hy : s.h m with
      | none => rw [hy] at hm; cases hm
      | some y => rw [hy] at hm; cases hm; exact .inr ⟨e, e2, y, rfl, rfl⟩
 have key : ∀ b, Cb (Fw.upd ρ d p) (s.hup [.del n, .new d blk]).h b → Cb ρ s.h b := by
  rintro b ⟨m, x, hm, hb⟩;rcases hs m x hm with ⟨rfl, rfl⟩ | ⟨e1, e2, y, hy, rfl⟩
  · rw [Az] at hb; rw [hid b hb]; exact ⟨n, old, hn, hb0⟩
  · rw [Bv e1] at hb; exact ⟨m, y, hy, hb⟩
 have hV : (vw F w ρ s).le (Am w' (F.out (Fw.upd ρ d p) (s.hup [.del n, .new d blk]).h)) := Ba fun b c ho hc => by
  refine ⟨fun hb => ho (hb.imp_left (key b)), ?_⟩;have : b ≠ b0 := fun e => ho (.inl (e ▸ ⟨n, old, hn, hb0⟩));rw [Cp (hblock b this)]; exact hc
 have hmay := h.may b0 ⟨n, old, hn, hb0⟩;refine ⟨⟨hos.trans h.fr.os, htape.trans h.fr.tape, hout.trans h.fr.output, by rw [hsize]; exact h.fr.size, fun b hb hm => ?_, h.fr.hid, h.fr.tab⟩, fun b hb => h.may b (key b hb), fun m x hm => ?_, fun m k x y b hm hk hbm hbk => ?_, fun m => ?_, h.size, h.defers⟩
 · have : b ≠ b0 := fun e => by subst e; rcases hmay with h1 | h1; omega; exact hm h1
   rw [hblock b this]; exact h.fr.block b hb hm
 · rcases hs m x hm with ⟨rfl, rfl⟩ | ⟨e1, e2, y, hy, rfl⟩
   · exact hown _ hV
   · have ho := h.own m y hy;exact (ho.congr (V' := vw F w ρ s) (w' := w') (fun _ _ x => x) (fun b hb => hblock b (fun e => e2 (h.inj m n y old b hy hn hb (e ▸ hb0))))).kill hV e1
 · rcases hs m x hm with ⟨rfl, rfl⟩ | ⟨e1, e2, z, hz, rfl⟩
   · rcases hs k y hk with ⟨rfl, rfl⟩ | ⟨f1, f2, u, hu, rfl⟩
     · rfl
     · exfalso; rw [Az] at hbm; rw [Bv f1] at hbk;exact f2 (h.inj k n u old b hu hn hbk ((hid b hbm) ▸ hb0))
   · rcases hs k y hk with ⟨rfl, rfl⟩ | ⟨f1, f2, u, hu, rfl⟩
     · exfalso; rw [Az] at hbk; rw [Bv e1] at hbm;exact e2 (h.inj m n z old b hz hn hbm ((hid b hbk) ▸ hb0))
     · rw [Bv e1] at hbm; rw [Bv f1] at hbk;exact h.inj m k z u b hz hu hbm hbk
 · show Conc _ _ ((s.t m).kill d) _;exact (h.tmps m).kill hV
end Go.Proofs.YthiamojjhdcegaaGreat.Fw
namespace Go.Proofs.YthiamojjhdcegaaGreat.Fw
variable [Th]
open Go.RowKit
variable {P : Program} {F : Fr} {N : Nat} {ρ : Nat → Value} {s : FS} {a : Act} {w w' : World} {K : KK} {V : View}
theorem Ac6 {t u ty e : TypeId} {i : TypeInfo} {zv sv xv : Value} {base : Option Addr} {sLen sCap n sz : Nat} {vo vn : List Value} (ht : P.underlying t = some (.slice e)) (hu : (∃ e', P.underlying u = some (.slice e')) ∨ P.underlying u = some .string)
 (hi : P.info? e = some i) (hz : i.zero = some zv) (hsz : i.size = sz) (hs : sv = .slice base sLen sCap) (hn : ∀ w : World, (Builtin.lenOf xv).run P w = .ok n w)
 (ho : (Builtin.firstCells sz sLen sv).run P w.drew = .ok ⟨vo⟩ w.drew) (hx : (Builtin.firstCells sz n xv).run P w.drew = .ok ⟨vn⟩ w.drew)
 (hg : sCap < sLen + n) (h63 : ((sLen + n : Nat) : Int) ≤ 9223372036854775807) (hfit : Builtin.nextslicecap (sLen + n) sCap * i.bytes ≤ 281474976710656) :
 (Builtin.append_ #[t, u] ty #[sv, xv]).run P w =
   .ok (.slice (some ⟨w.heap.size, 0, none⟩) (sLen + n) (grownCap w (sLen + n) sCap e))
    (w.drew.alloc (.cells (⟨vo⟩ ++ ⟨vn⟩ ++ Builtin.zeroCells zv.cells (grownCap w (sLen + n) sCap e - (sLen + n))) e)) := by
 subst hs hsz;have hn' : ¬ (sLen + n ≤ sCap) := by omega
 have h63' : ¬ (9223372036854775807 < ((sLen : Int) + (n : Int))) := by omega
 have h48' : ¬ (281474976710656 < Builtin.nextslicecap (sLen + n) sCap * i.bytes) := by omega
 rcases hu with ⟨e', hu⟩ | hu <;>
  simp [Builtin.append_, Go.run_underlying ht, Go.run_underlying hu, sizeOf, typeInfo, zeroValue, hi, hz, hn, hn', h63', h48', Question.forced, ho, hx, newRow, grownCap]
 all_goals (congr 2; apply Array.ext'; simp)
theorem Hk {t u ty e : TypeId} {i : TypeInfo} {sv xv : Value} {base : Option Addr} {sLen sCap n sz : Nat} {vn : List Value} (ht : P.underlying t = some (.slice e)) (hu : (∃ e', P.underlying u = some (.slice e')) ∨ P.underlying u = some .string)
 (hi : P.info? e = some i) (hsz : i.size = sz) (hs : sv = .slice base sLen sCap) (hn : ∀ w : World, (Builtin.lenOf xv).run P w = .ok n w)
 (hx : (Builtin.firstCells sz n xv).run P w = .ok ⟨vn⟩ w) (hg : sLen + n ≤ sCap)
 (hst : match base with | some ad => (storeCells (ad.add (sLen * sz)) vn).run P w = .ok () w' | none => w' = w) :
 (Builtin.append_ #[t, u] ty #[sv, xv]).run P w = .ok (.slice base (sLen + n) sCap) w' := by
 subst hs hsz;cases base with
 | none =>
   simp only at hst; subst hst;rcases hu with ⟨e', hu⟩ | hu <;>
    simp [Builtin.append_, Go.run_underlying ht, Go.run_underlying hu, sizeOf, typeInfo, hi, hn, hg, hx]
 | some ad =>
   simp only at hst;rcases hu with ⟨e', hu⟩ | hu <;>
    simp [Builtin.append_, Go.run_underlying ht, Go.run_underlying hu, sizeOf, typeInfo, hi, hn, hg, hx, hst]
theorem O8 (w : World) : Grew w w.drew := ⟨rfl, rfl, rfl, Nat.le_refl _, fun _ _ => rfl⟩
theorem Lm {v : Value} {n : Nat} (h : (Builtin.lenOf v).run P w = .ok n w) : ∀ w : World, (Builtin.lenOf v).run P w = .ok n w := by
 intro w2;cases v <;> simp [Builtin.lenOf] at h ⊢ <;> exact h
theorem Z6 {zv : Value} {sz cap : Nat} {es : List (List PV)} {vs : List Value} (hz : 0 < sz) (hzl : zv.cells.size = sz) (hzo : ∀ c ∈ zv.cells, A3 c) (h : Els V sz es vs) (hc : es.length ≤ cap) :
 let all := vs ++ (Builtin.zeroCells zv.cells (cap - es.length)).toList
 all.length = cap * sz ∧ (∀ c ∈ all, A3 c) ∧ ∀ (i : Nat) c, es[i]? = some c → PCells V c ((all.drop (i * sz)).take sz) := by
 refine ⟨?_, fun c hm => ?_, fun i c hi => ?_⟩
 · simp only [List.length_append, h.len, Array.length_toList, size_zeroCells, hzl];rw [← Nat.add_mul]; congr 1; omega
 · rcases List.mem_append.1 hm with hm | hm
   · exact h.one c hm
   · simp only [Builtin.zeroCells, Array.toList_map, List.mem_map] at hm;obtain ⟨k, _, rfl⟩ := hm;have : k % zv.cells.size < zv.cells.size := Nat.mod_lt _ (by omega);rw [getElem!_pos zv.cells (k % zv.cells.size) this];exact hzo _ (Array.getElem_mem this)
 · have hlt : i < es.length := (List.getElem?_eq_some_iff.1 hi).1;have h1 : (i + 1) * sz ≤ es.length * sz := Nat.mul_le_mul_right _ hlt;rw [Nat.succ_mul] at h1;rw [List.drop_append_of_le_length (by rw [h.len]; omega), List.take_append_of_le_length (by simp [h.len]; omega)];exact h.el i c hi
structure AppT (P : Program) (t u e : TypeId) (sz bytes : Nat) : Prop where
 ht : P.underlying t = some (.slice e)
 hu : (∃ e', P.underlying u = some (.slice e')) ∨ P.underlying u = some .string
 hs : Ai P e = some sz
 hb : It P e = some bytes
 hz : ∃ z, Df P e = some z ∧ z.length = sz
 pos : 0 < bytes
 bound : bytes ≤ 1048576
 zpos : 0 < sz
theorem Agl {t u e ty : TypeId} {sz bytes d : Nat} (hT : AppT P t u e sz bytes) {s' : FS} (hR : RelR F N ρ s' a w) {sv xv : Value} {es ys : List (List PV)} {base : Option Addr} {cap : Nat}
 (hs : sv = .slice base es.length cap) (hl : ∀ w : World, (Builtin.lenOf xv).run P w = .ok ys.length w)
 (ho : ∃ vo, (Builtin.firstCells sz es.length sv).run P w.drew = .ok ⟨vo⟩ w.drew ∧ Els (vw F w ρ s') sz es vo) (hx : ∃ vn, (Builtin.firstCells sz ys.length xv).run P w.drew = .ok ⟨vn⟩ w.drew ∧ Els (vw F w ρ s') sz ys vn)
 (hg : cap < es.length + ys.length) (hbd : (es.length + ys.length) * bytes ≤ 70368744177664) :
 ∃ v w' ρ', (Builtin.append_ #[t, u] ty #[sv, xv]).run P w = .ok v w' ∧ RelR F N ρ' (s'.hup [.new d (.row sz (es ++ ys))]) a w' ∧ Conc (vw F w' ρ' (s'.hup [.new d (.row sz (es ++ ys))])) ρ' (.os d) v := by
 obtain ⟨z, hz, hzl⟩ := hT.hz;obtain ⟨i, zv, hi, hzv, hsize, hone, hp⟩ := Fm hz hzl;have hi1 : i.bytes = bytes := by simpa [It, hi] using hT.hb
 have hi2 : i.size = sz := by simpa [Ai, hi] using hT.hs
 obtain ⟨vo, ho1, ho2⟩ := ho;obtain ⟨vn, hx1, hx2⟩ := hx;have hle : es.length + ys.length ≤ 70368744177664 := by
  have : (es.length + ys.length) * 1 ≤ (es.length + ys.length) * bytes := Nat.mul_le_mul_left _ hT.pos;omega
 have hrun := Ac6 (ty := ty) hT.ht hT.hu hi hzv hi2 hs hl ho1 hx1 hg (by push_cast; omega) (growslice_fits hg (by rw [hi1]; omega));have hels := ho2.append hx2;have hcap := grownCap_ge w (es.length + ys.length) cap e;have hall := Z6 hT.zpos hsize hone hels (cap := grownCap w (es.length + ys.length) cap e) (by simpa using hcap);rw [List.length_append] at hall;have g : Grew w (w.drew.alloc (.cells (⟨vo⟩ ++ ⟨vn⟩ ++ Builtin.zeroCells zv.cells (grownCap w (es.length + ys.length) cap e - (es.length + ys.length))) e)) := (O8 w).trans (Grew.push _ _);have hR' := Nj (d := d) (sz := sz) (es := es ++ ys) (cap := grownCap w (es.length + ys.length) cap e) (b := w.heap.size) (ty := e) (fr := (0, 0))
  (vs := vo ++ vn ++ (Builtin.zeroCells zv.cells (grownCap w (es.length + ys.length) cap e - (es.length + ys.length))).toList) hR g (Nat.le_refl _)
  (by
    have : (⟨vo⟩ ++ ⟨vn⟩ ++ Builtin.zeroCells zv.cells (grownCap w (es.length + ys.length) cap e - (es.length + ys.length)) : Array Value) = ⟨vo ++ vn ++ (Builtin.zeroCells zv.cells (grownCap w (es.length + ys.length) cap e - (es.length + ys.length))).toList⟩ := by
     apply Array.ext'; simp
    rw [this];simp [World.alloc, World.drew, -World.alloc_eq, -World.drew_eq]) (.inl rfl) (by simpa using hcap) hT.zpos hels.szs hall.1 hall.2.1 (fun V' hV j x hj => (hall.2.2 j x hj).mono hV)
 simp only [List.length_append] at hR';exact ⟨_, _, _, hrun, hR', Hh⟩
theorem A7m {t u e ty : TypeId} {sz bytes d : Nat} (hT : AppT P t u e sz bytes) (hR : RelR F N ρ s a w) {x y : SV} {sv xv : Value} (hx : Conc (vw F w ρ s) ρ x sv) (hy : Conc (vw F w ρ s) ρ y xv)
 (h : H6 s.h d sz bytes x y K) (hov : ∀ n z lo i, x ≠ .ov n z lo i) : Y5 P F N s a w (Builtin.append_ #[t, u] ty #[sv, xv]) K := by
 have hzp := hT.zpos;have hRd := hR.grew (O8 w);have hVd := hR.le_of_grew (O8 w);have hVd' : ∀ b c, vw F w.drew ρ s b = some c → vw F w ρ s b = some c := by
  intro b c hb;unfold vw Am at hb ⊢;split at hb
  · cases hb
  · rename_i ho; rw [if_neg ho]; exact hb
 unfold H6 at h;split at h
 · rename_i n;unfold Qn at h;split at h
   · rename_i o el sz' es ys hn hel;obtain ⟨rfl, hsy, hbd, h⟩ := h;obtain ⟨hlen, vn, hv1, hv2⟩ := Lq (P := P) hR hzp hy hel hsy;obtain ⟨_, vn', hv1', hv2'⟩ := Lq (P := P) hRd hzp (hy.mono hVd) hel hsy;obtain ⟨_, vo', ho1', ho2'⟩ := Lq (P := P) (y := .os n) (ys := es) (v := sv) hRd hzp (hx.mono hVd) (by simp [C1, G8, hn]) (.inr (by simp [Iq, Aeb, hn]));obtain ⟨base, cap, h1, h2, h3, h4, h5⟩ := hR.own n _ hn;simp only [Conc] at hx;have hsv := hx.1.trans h1;by_cases hg : cap < es.length + ys.length
     · obtain ⟨hRd1, hV1⟩ := hR.del n;obtain ⟨v, w', ρ', k1, k2, k3⟩ := Agl (ty := ty) (d := d) hT (s' := s.seth n none) hRd1 hsv (Lm hlen) ⟨vo', ho1', (ho2'.mono hVd').mono hV1⟩ ⟨vn', hv1', (hv2'.mono hVd').mono hV1⟩ hg hbd;exact ⟨v, w', .os d, _, ρ', k1, h, k2, k3⟩
     · have hroom : es.length + ys.length ≤ cap := by omega
       obtain ⟨z, hz, hzl⟩ := hT.hz;obtain ⟨i, zv, hi, hzv, hsize, hone, hp⟩ := Fm hz hzl;have hi2 : i.size = sz := by simpa [Ai, hi] using hT.hs
       by_cases hc : cap = 0
       · have he : es = [] := List.eq_nil_of_length_eq_zero (by omega);have hy0 : ys = [] := List.eq_nil_of_length_eq_zero (by omega);subst he hy0;have hvn : vn = [] := by have := hv2.len; simp at this; exact this
         subst hvn;have hrun := Hk (w' := w) (ty := ty) hT.ht hT.hu hi hi2 hsv (Lm hlen) hv1 hroom (by cases base <;> simp [storeCells]);simp only [List.length_nil, Nat.add_zero] at hrun;have hR1 := (hR.del n).1.new (Grew.refl w) d (.row sz ([] ++ [])) (.slice base 0 cap) (fun b hb => by
          subst hc;cases base <;> simp [Cf] at hb) (fun V' _ => ⟨base, cap, by simpa using Az, by simp, hzp, by simp, fun hne => absurd hc hne⟩)
         exact ⟨_, w, .os d, _, _, hrun, h, hR1.1, Hh⟩
       · obtain ⟨b, vs, ty', fr, rfl, e2, e3, e4, e5, e6⟩ := h5 hc;have hbnd : (es.length + ys.length) * sz ≤ cap * sz := Nat.mul_le_mul_right _ hroom;rw [Nat.add_mul] at hbnd;have hvl := hv2.len;obtain ⟨w', hr, hw⟩ := Fp (P := P) vn 0 (off := es.length * sz) e2 e4.no hv2.one (by rw [e3, hvl]; omega);simp only [Nat.add_zero] at hw;have hrun := Hk (w' := w') (ty := ty) hT.ht hT.hu hi hi2 hsv (Lm hlen) hv1 hroom (by simpa [Dd] using hr);have hl2 := Co vs vn (es.length * sz) (by rw [e3, hvl]; omega);have hold : Els (vw F w ρ s) sz es (vs.take (es.length * sz)) := by
          have := (Ci (V := vw F w ρ s) (vs := vs) 0 hzp h4 (fun i c hc => by simpa using e6 i c hc)).2;simpa using this
         have hels := hold.append hv2;have hR1 := hR.renew (w' := w') n d (.row sz es) (.row sz (es ++ ys)) (.slice (some ⟨b, 0, none⟩) (es.length + ys.length) cap) hn b (by rw [h1]; simp [Cf, hc]) (fun b' hb' => by simp [Cf, hc] at hb'; exact hb'.symm)
          hw.os hw.tape hw.output hw.size hw.block (fun V' hV => ⟨some ⟨b, 0, none⟩, cap, by simpa using Az, by simpa using hroom, hzp, hels.szs, fun _ => ⟨b, _, ty', fr, rfl, hw.here, by rw [hl2, e3], by rw [hl2]; exact e4, ?_, ?_⟩⟩)
         · exact ⟨_, w', .os d, _, _, hrun, h, hR1, Hh⟩
         · intro c hcm;rcases List.mem_append.1 hcm with hcm | hcm
           · exact hels.one c hcm
           · exact e5 c (List.mem_of_mem_drop hcm)
         · intro j c hj;have hlt : j < (es ++ ys).length := (List.getElem?_eq_some_iff.1 hj).1;have h1' : (j + 1) * sz ≤ (es ++ ys).length * sz := Nat.mul_le_mul_right _ hlt;rw [Nat.succ_mul] at h1';rw [List.drop_append_of_le_length (by rw [hels.len]; omega), List.take_append_of_le_length (by simp only [List.length_drop, hels.len]; omega)];exact (hels.el j c hj).mono hV
   · exact h.elim
 · rename_i z' es;unfold Yc at h;split at h
   · rename_i ys hel;obtain ⟨hne, hsz, hsy, hbd, h⟩ := h;obtain ⟨hlen, vn, hv1, hv2⟩ := Lq (P := P) hR hzp hy hel hsy;obtain ⟨_, vn', hv1', hv2'⟩ := Lq (P := P) hRd hzp (hy.mono hVd) hel hsy;obtain ⟨_, vo', ho1', ho2'⟩ := Lq (P := P) (y := .pv (.sl true z' es)) (ys := es) (v := sv) hRd hzp (hx.mono hVd) rfl (by simpa [Iq] using hsz);have hsl : ∃ base, sv = .slice base es.length es.length := by
      simp only [Conc] at hx;cases hx with
      | sl _ _ _ ad cap cs bl off arr hcap hfull => exact ⟨ad, by rw [hfull rfl]⟩
     obtain ⟨base, hsv⟩ := hsl;by_cases hy0 : ys = []
     · have he := hne hy0;subst hy0 he;obtain ⟨z, hz, hzl⟩ := hT.hz;obtain ⟨i, zv, hi, hzv, hsize, hone, hp⟩ := Fm hz hzl;have hi2 : i.size = sz := by simpa [Ai, hi] using hT.hs
       have hvn : vn = [] := by have := hv2.len; simp at this; exact this
       subst hvn;have hrun := Hk (w' := w) (ty := ty) hT.ht hT.hu hi hi2 hsv (Lm hlen) hv1 (by simp) (by cases base <;> simp [storeCells]);simp only [List.length_nil, Nat.add_zero] at hrun;have hR1 := hR.new (Grew.refl w) d (.row sz ([] ++ [])) (.slice base 0 0) (fun b hb => by cases base <;> simp [Cf] at hb) (fun V' _ => ⟨base, 0, by simpa using Az, by simp, hzp, by simp, fun hne => absurd rfl hne⟩);exact ⟨_, w, .os d, _, _, hrun, h, hR1.1, Hh⟩
     · have hpos : 0 < ys.length := List.length_pos_iff.2 hy0;obtain ⟨v, w', ρ', k1, k2, k3⟩ := Agl (ty := ty) (d := d) hT (s' := s) hR hsv (Lm hlen) ⟨vo', ho1', ho2'.mono hVd'⟩ ⟨vn', hv1', hv2'.mono hVd'⟩ (by omega) hbd;exact ⟨v, w', .os d, _, ρ', k1, h, k2, k3⟩
   · exact h.elim
 · exact absurd rfl (hov _ _ _ _)
 · exact h.elim
end Go.Proofs.YthiamojjhdcegaaGreat.Fw
namespace Go.Proofs.YthiamojjhdcegaaGreat.Fw
variable [Th]
open Go.RowKit
variable {P : Program} {F : Fr} {N : Nat} {ρ : Nat → Value} {s : FS} {a : Act} {w w' : World} {K : KK} {V : View}
theorem Ny : ∀ (us : List Value) (off k : Nat) (cells : Array Value), off + k + us.length ≤ cells.size →
 ((us.zipIdx k).foldl (fun cs (p : Value × Nat) => cs.setIfInBounds (off + p.2) p.1) cells).toList = cells.toList.take (off + k) ++ us ++ cells.toList.drop (off + k + us.length)
 | [], off, k, cells, _ => by simp
 | u :: us, off, k, cells, h => by
   have hlt : off + k < cells.toList.length := by simp at h ⊢; omega
   rw [List.zipIdx_cons, List.foldl_cons, Ny us off (k + 1) _ (by simp at h ⊢; omega)];simp only [Array.toList_setIfInBounds];rw [List.drop_set_of_lt (by omega), show off + (k + 1) = off + k + 1 from by omega, List.take_succ_eq_append_getElem (by simpa using hlt)];simp [List.take_set_of_le, Nat.add_assoc, Nat.add_comm 1]
theorem Y0 (us : Array Value) (off : Nat) (cells : Array Value) (h : off + us.size ≤ cells.size) :
 us.zipIdx.foldl (fun cs (p : Value × Nat) => cs.setIfInBounds (off + p.2) p.1) cells = ⟨cells.toList.take off ++ us.toList ++ cells.toList.drop (off + us.size)⟩ := by
 have := Ny us.toList off 0 cells (by simpa using h);apply Array.ext';rw [← Array.foldl_toList, Array.toList_zipIdx];simpa using this
theorem Gl {α : Type} : ∀ (segs : List (List α)) (i : Nat) (h : i < segs.length), segs.flatten = (segs.take i).flatten ++ segs[i] ++ (segs.drop (i + 1)).flatten
 | x :: l, 0, _ => by simp
 | x :: l, i + 1, h => by
   have := Gl l i (by simpa using h);simp only [List.flatten_cons, List.take_succ_cons, List.getElem_cons_succ, List.drop_succ_cons, List.append_assoc] at this ⊢;rw [this]
theorem Afu {α : Type} (segs : List (List α)) (i : Nat) (us : List α) (h : i < segs.length) (hl : us.length = segs[i].length) :
 segs.flatten.take (segs.take i).flatten.length ++ us ++ segs.flatten.drop ((segs.take i).flatten.length + us.length) = (segs.set i us).flatten := by
 have h1 := Gl segs i h;have h2 := Gl (segs.set i us) i (by simpa using h);rw [h2];simp only [List.getElem_set_self, List.take_set_of_le (Nat.le_refl i), List.drop_set_of_lt (Nat.lt_succ_self i)];rw [h1];have e1 : ((segs.take i).flatten ++ segs[i] ++ (segs.drop (i + 1)).flatten).take (segs.take i).flatten.length = (segs.take i).flatten := by
  rw [List.append_assoc, List.take_left]
 have e2 : ((segs.take i).flatten ++ segs[i] ++ (segs.drop (i + 1)).flatten).drop ((segs.take i).flatten.length + us.length) = (segs.drop (i + 1)).flatten := by
  rw [List.drop_append_of_le_length (by simp [hl]), hl];rw [show (segs.take i).flatten.length + segs[i].length = ((segs.take i).flatten ++ segs[i]).length from by simp, List.drop_length, List.nil_append]
 rw [e1, e2]
theorem Alm (place : Nat → Option (Nat × Nat)) : ∀ (parts : List (Nat × Value)) (segs : List (List Value)),
 (∀ i (h : i < segs.length), place i = some ((segs.take i).flatten.length, segs[i].length)) → (∀ p ∈ parts, ∃ h : p.1 < segs.length, (Ar p.2).length = segs[p.1].length) →
 Instr.fill place ⟨segs.flatten⟩ parts = some ⟨(parts.foldl (fun sg p => sg.set p.1 (Ar p.2)) segs).flatten⟩
 | [], segs, _, _ => rfl
 | (i, v) :: parts, segs, hp, hv => by
   obtain ⟨hi, hl⟩ := hv (i, v) (by simp);simp only at hi hl;have hsz : v.cells.size = segs[i].length := by rw [Mq]; exact hl
   have hin : (segs.take i).flatten.length + v.cells.size ≤ segs.flatten.length := by
    rw [Gl segs i hi, hsz]; simp
   unfold Instr.fill;rw [hp i hi];simp only [hsz, ne_eq, not_true_eq_false, decide_false, Bool.false_or];rw [if_neg (by simp only [decide_eq_true_eq, List.size_toArray]; rw [← hsz]; omega)];rw [Y0 v.cells _ ⟨segs.flatten⟩ (by simpa using hin)];have hfs := Afu segs i (Ar v) hi hl;simp only [Fy, Mq];rw [hfs, List.foldl_cons];refine Alm place parts (segs.set i (Ar v)) (fun j hj => ?_) (fun p hpm => ?_)
   · have hj' : j < segs.length := by simpa using hj
     rw [hp j hj'];have hlen : ∀ k, ((segs.set i (Ar v)).take k).flatten.length = (segs.take k).flatten.length := fun k => by
      have : ((segs.set i (Ar v)).take k).map List.length = (segs.take k).map List.length := by
       rw [List.map_take, List.map_take, List.map_set, hl];congr 1;apply List.ext_getElem?;intro q;by_cases e : i = q
       · subst e; rw [List.getElem?_set_self (by simpa using hi)]; simp [hi]
       · rw [List.getElem?_set_ne e]
      rw [List.length_flatten, List.length_flatten, this]
     rw [hlen];congr 2;by_cases e : i = j
     · subst e; simp [hl]
     · rw [List.getElem_set_ne e]
   · obtain ⟨h1, h2⟩ := hv p (by simp [hpm]);refine ⟨by simpa using h1, ?_⟩;by_cases e : i = p.1
     · subst e; simp [h2, hl]
     · rw [List.getElem_set_ne e]; exact h2
theorem Pr : ∀ (parts : List (Nat × Value)) (segs : List (List Value)) (j : Nat), (parts.map (·.1)).Nodup →
 (parts.foldl (fun sg p => sg.set p.1 (Ar p.2)) segs)[j]? = if j < segs.length then (match parts.find? (fun p => p.1 == j) with | some p => some (Ar p.2) | none => segs[j]?) else none
 | [], segs, j, _ => by
   simp only [List.foldl_nil, List.find?_nil];split
   · rfl
   · rename_i h; exact List.getElem?_eq_none (by omega)
 | (i, v) :: parts, segs, j, hn => by
   simp only [List.map_cons, List.nodup_cons] at hn;rw [List.foldl_cons, Pr parts _ j hn.2];simp only [List.length_set, List.find?_cons];split
   · rename_i hj;by_cases e : i = j
     · subst e;have : parts.find? (fun p => p.1 == i) = none := by
        rw [List.find?_eq_none];intro p hp he;simp only [beq_iff_eq] at he;exact hn.1 (List.mem_map.2 ⟨p, hp, he⟩)
       rw [this];simp [hj]
     · have e2 : (i == j) = false := by simpa using e
       rw [e2, List.getElem?_set_ne e]
   · rfl
theorem Ox : ∀ {l : List Nat}, I0 l = true → l.Nodup
 | [], _ => .nil
 | x :: l, h => by
   simp only [I0, Bool.and_eq_true, Bool.not_eq_true', List.contains_eq_mem, decide_eq_false_iff_not] at h;exact List.nodup_cons.2 ⟨h.1, Ox h.2⟩
theorem Ahs {v u : Value} {x y : PV} (h : Fu v = some x) (k : Fu u = some y) (e : Arp x y = true) : v = u := by
 unfold Fu at h k;split at h <;> (try cases h) <;> split at k <;> (try cases k) <;> simp [Arp] at e <;> (try (first | rfl | (obtain ⟨rfl, rfl⟩ := e; rfl) | (subst e; rfl)))
 rename_i s1 s2;congr 1;apply ByteArray.ext;exact e
theorem W6 : ∀ {vs us : List Value} {x y : List PV}, Au (vs.map Fu) = some x → Au (us.map Fu) = some y → Ni x y = true → vs = us
 | [], [], _, _, _, _, _ => rfl
 | [], u :: us, x, y, h, k, e => by
   simp [Au] at h; subst h;simp only [List.map_cons, Au] at k;split at k
   · cases k; simp [Ni] at e
   · cases k
 | v :: vs, [], x, y, h, k, e => by
   simp [Au] at k; subst k;simp only [List.map_cons, Au] at h;split at h
   · cases h; simp [Ni] at e
   · cases h
 | v :: vs, u :: us, x, y, h, k, e => by
   simp only [List.map_cons, Au] at h k;split at h
   · rename_i a1 b1 ha1 hb1;split at k
     · rename_i a2 b2 ha2 hb2;cases h; cases k;simp only [Ni, Bool.and_eq_true] at e;rw [Ahs ha1 ha2 e.1, W6 hb1 hb2 e.2]
     · cases k
   · cases h
theorem Ob {α : Type} : ∀ {l m : List (Option α)} {x y : List α}, Au l = some x → Au m = some y → Au (l ++ m) = some (x ++ y)
 | [], m, x, y, h, k => by simp [Au] at h; subst h; simpa using k
 | o :: l, m, x, y, h, k => by
   simp only [Au] at h;split at h
   · rename_i a1 b1 hb1;cases h;simp only [List.cons_append, Au, Ob hb1 k]
   · cases h
theorem Kw {t : TypeId} {cs : List PV} (h : Df P t = some cs) : ∃ zv, (∀ w : World, (zeroValue t).run P w = .ok zv w) ∧ Au ((Ar zv).map Fu) = some cs ∧ (P.info? t).bind (·.zero) = some zv := by
 unfold Df at h;cases hi : P.info? t with
 | none => rw [hi] at h; simp at h
 | some i =>
   rw [hi] at h;simp only [Option.bind_some] at h;cases hz : i.zero with
   | none => rw [hz] at h; simp at h
   | some zv =>
     rw [hz] at h;refine ⟨zv, fun w => Pm hi hz, ?_, by simp [hz]⟩;cases zv with
     | agg c => exact h
     | tuple c => simp [Fu] at h
     | _ =>
       obtain ⟨x, g1, rfl⟩ := Option.map_eq_some_iff.1 h;simp only [Ar, List.map_cons, List.map_nil, g1, Au]
end Go.Proofs.YthiamojjhdcegaaGreat.Fw
namespace Go.Proofs.YthiamojjhdcegaaGreat.Fw
variable [Th]
open Go.RowKit
variable {P : Program} {F : Fr} {N : Nat} {ρ : Nat → Value} {s : FS} {a : Act} {w w' : World} {K : KK} {V : View}
theorem Ah {x : Operand} {y : Opd} (h : Bu x = some y) (ht : ∀ n, n < Gg → Conc V ρ (s.t n) (a.tmps.getD n undef)) : Conc V ρ (s.ev y) (a.eval x) := by
 unfold Bu at h;split at h
 · split at h
   · rename_i hb; cases h; exact ht _ hb
   · cases h
 · rename_i v;split at h
   · rename_i cs;obtain ⟨l, hl, rfl⟩ := Option.map_eq_some_iff.1 h;have := Ug (V := V) hl;simp only [FS.ev, Act.eval, Conc];exact ⟨cs.toList, rfl, this.1.symm, this⟩
   · rename_i v _;obtain ⟨x, hx, rfl⟩ := Option.map_eq_some_iff.1 h;simp only [FS.ev, Act.eval, Conc]; exact Np hx
 · cases h; simp only [FS.ev, Act.eval, Conc]; exact ⟨[], rfl, rfl⟩
 · cases h
theorem Bd {α : Type} {o : Option α} {l : List (Option α)} {ys : List α} (h : Au (o :: l) = some ys) : ∃ y zs, ys = y :: zs ∧ o = some y ∧ Au l = some zs := by
 simp only [Au] at h;split at h
 · rename_i x1 x2 x3 hx; cases h; exact ⟨_, _, rfl, rfl, hx⟩
 · cases h
theorem Lt : ∀ {l : List Operand} {ys : List Opd}, A1 l = some ys → (∀ n, n < Gg → Conc V ρ (s.t n) (a.tmps.getD n undef)) → ConcL V ρ (Bz s ys) (l.map a.eval)
 | [], ys, h, _ => by simp [A1, Au] at h; subst h; simp [Bz, ConcL]
 | x :: l, ys, h, ht => by
   obtain ⟨y, zs, rfl, hy, hz⟩ := Bd (show Au (Bu x :: l.map Bu) = some ys from h);simp only [Bz, List.map_cons, ConcL];exact ⟨_, _, rfl, Ah hy ht, Lt (l := l) hz ht⟩
def En (a : Act) (parts : List (Nat × Operand)) (zs : List Value) (i : Nat) : Value :=
 match parts.find? (fun p => p.1 == i) with
 | some (_, x) => a.eval x
 | none => zs.getD i undef
theorem P2 {ts : List TypeId} {parts : List (Nat × Operand)} {xs : List Opd} {zs : List Value} (hz : ∀ (i : Nat) t z, ts[i]? = some t → Tz P t = some z → ∃ zv, zs[i]? = some zv ∧ Conc V ρ z zv)
 (h : Au ((List.range ts.length).map fun i => match ts[i]? with | some t => Mf P t parts i | none => none) = some xs) (ht : ∀ n, n < Gg → Conc V ρ (s.t n) (a.tmps.getD n undef)) :
 ConcL V ρ (Bz s xs) ((List.range ts.length).map (En a parts zs)) := by
 have key : ∀ (l : List Nat) (xs : List Opd), (∀ i ∈ l, i < ts.length) → Au (l.map fun i => match ts[i]? with | some t => Mf P t parts i | none => none) = some xs → ConcL V ρ (Bz s xs) (l.map (En a parts zs)) := by
  intro l
  induction l with
  | nil => intro xs _ h; simp [Au] at h; subst h; simp [Bz, ConcL]
  | cons i l ih =>
    intro xs hl h;obtain ⟨y, ys, rfl, hy, hys⟩ := Bd (by simpa using h);simp only [Bz, List.map_cons, ConcL];refine ⟨_, _, rfl, ?_, ih ys (fun j hj => hl j (by simp [hj])) (by simpa using hys)⟩;have hi : i < ts.length := hl i (by simp);rw [List.getElem?_eq_getElem hi] at hy;simp only at hy;unfold Mf at hy;unfold En;split at hy
    · rename_i k x hf; simp only [hf]; exact Ah hy ht
    · rename_i hf;simp only [hf];obtain ⟨z, hz1, rfl⟩ := Option.map_eq_some_iff.1 hy;obtain ⟨zv, g1, g2⟩ := hz i _ z (List.getElem?_eq_getElem hi) hz1;simp only [FS.ev, List.getD_eq_getElem?_getD, g1, Option.getD_some]; exact g2
 exact key _ xs (fun i hi => by simpa using hi) h
theorem Qe {parts : List (Nat × Operand)} {zs : List Value} {place : Nat → Option (Nat × Nat)} (hnd : I0 (parts.map (·.1)) = true) (hin : ∀ p ∈ parts, p.1 < zs.length)
 (hpl : ∀ i (h : i < zs.length), place i = some (((zs.map Ar).take i).flatten.length, (Ar zs[i]).length)) (hw : ∀ i, i < zs.length → (Ar (En a parts zs i)).length = (Ar (zs.getD i undef)).length) :
 Instr.fill place ⟨(zs.map Ar).flatten⟩ (parts.map fun p => (p.1, a.eval p.2)) = some ⟨(((List.range zs.length).map (En a parts zs)).map Ar).flatten⟩ := by
 have hnd' := Ox hnd;have hfind : ∀ j, (parts.map fun p => (p.1, a.eval p.2)).find? (fun p => p.1 == j) = (parts.find? (fun p => p.1 == j)).map fun p => (p.1, a.eval p.2) := fun j => by
  rw [List.find?_map]; rfl
 have hpart : ∀ p ∈ parts, En a parts zs p.1 = a.eval p.2 := fun p hp => by
  unfold En;cases hf : parts.find? (fun q => q.1 == p.1) with
  | none =>
    rw [List.find?_eq_none] at hf;exact absurd (hf p hp) (by simp)
  | some q =>
    have h1 := List.find?_some hf;have h2 := List.mem_of_find?_eq_some hf;simp only [beq_iff_eq] at h1;have : q = p := by
     obtain ⟨i, hi⟩ := List.mem_iff_getElem?.1 h2;obtain ⟨j, hj⟩ := List.mem_iff_getElem?.1 hp;have hi' : (parts.map (·.1))[i]? = some q.1 := by simp [hi]
     have hj' : (parts.map (·.1))[j]? = some p.1 := by simp [hj]
     have e : i = j := (List.getElem?_inj (List.getElem?_eq_some_iff.1 hi').1 hnd').1 (by rw [hi', hj', h1]);subst e; rw [hi] at hj; exact Option.some.inj hj
    simp only; rw [this]
 rw [Alm place (parts.map fun p => (p.1, a.eval p.2)) (zs.map Ar) (fun i hi => by
  have hi' : i < zs.length := by simpa using hi
  rw [hpl i hi']; simp) (fun p hp => by
  obtain ⟨q, hq, rfl⟩ := List.mem_map.1 hp;have hlt := hin q hq;refine ⟨by simpa using hlt, ?_⟩;have := hw q.1 hlt;rw [hpart q hq] at this;simp only [List.getElem_map];rw [this, List.getD_eq_getElem?_getD, List.getElem?_eq_getElem hlt]; rfl)]
 congr 3;apply List.ext_getElem?;intro j;rw [Pr _ _ _ (by simpa [List.map_map, Function.comp_def] using hnd')];simp only [List.length_map];by_cases hj : j < zs.length
 · rw [if_pos hj, hfind];have e : (((List.range zs.length).map (En a parts zs)).map Ar)[j]? = some (Ar (En a parts zs j)) := by simp [hj]
   rw [e];unfold En;cases hf : parts.find? (fun p => p.1 == j) with
   | none => simp [List.getD_eq_getElem?_getD, hj]
   | some q => obtain ⟨q1, q2⟩ := q; simp
 · rw [if_neg hj];simp [Nat.le_of_not_lt hj]
theorem Pn {α β : Type} {f : α → Sem β} {g : α → β} : ∀ (l : List α), (∀ x ∈ l, ∀ w : World, (f x).run P w = .ok (g x) w) → ∀ w : World, (l.mapM f).run P w = .ok (l.map g) w
 | [], _, w => rfl
 | x :: l, h, w => by
   rw [List.mapM_cons, Ab (h x (by simp) w), Ab (Pn l (fun y hy => h y (by simp [hy])) w)]; rfl
theorem Wr {α β : Type} {f : α → Sem β} {g : α → β} (l : Array α) (h : ∀ x ∈ l.toList, ∀ w : World, (f x).run P w = .ok (g x) w) (w : World) : (l.mapM f).run P w = .ok (l.map g) w := by
 rw [Array.mapM_eq_mapM_toList, Sem.run_map, Pn l.toList h w];simp only [Result.andThen_ok];congr 1;apply Array.ext';simp
end Go.Proofs.YthiamojjhdcegaaGreat.Fw
namespace Go.Proofs.YthiamojjhdcegaaGreat.Fw
variable [Th]
open Go.RowKit
variable {P : Program} {F : Fr} {N : Nat} {ρ : Nat → Value} {s : FS} {a : Act} {w w' : World} {K : KK} {V : View}
theorem Vu : ∀ {ts : List TypeId} {bs : List (List PV)}, Au (ts.map (Df P)) = some bs →
 ∃ zs : List Value, zs.length = ts.length ∧ bs.length = ts.length ∧ Au ((zs.map Ar).flatten.map Fu) = some bs.flatten ∧
  ∀ (i : Nat) t, ts[i]? = some t → ∃ zv b, zs[i]? = some zv ∧ bs[i]? = some b ∧ (∀ w : World, (zeroValue t).run P w = .ok zv w) ∧ (Ar zv).length = b.length
 | [], bs, h => by simp [Au] at h; subst h; exact ⟨[], rfl, rfl, rfl, by simp⟩
 | t :: ts, bs, h => by
   obtain ⟨b, bs', rfl, h1, h2⟩ := Bd (by simpa using h);obtain ⟨zs, g1, g2, g3, g4⟩ := Vu h2;obtain ⟨zv, k1, k2, _⟩ := Kw h1;refine ⟨zv :: zs, by simp [g1], by simp [g2], ?_, fun i t' hi => ?_⟩
   · simp only [List.map_cons, List.flatten_cons, List.map_append];exact Ob k2 g3
   · cases i with
     | zero =>
       simp at hi; subst hi;exact ⟨zv, b, rfl, rfl, k1, by have := (Ha k2).1; simpa using this⟩
     | succ i => simpa using g4 i t' (by simpa using hi)
theorem Sd {t : TypeId} {z : SV} {zv : Value} (h : Tz P t = some z) (hr : ∀ w : World, (zeroValue t).run P w = .ok zv w) : Conc V ρ z zv := by
 obtain ⟨zv', h1, h2⟩ := Vw h;have := h1 (default : World);rw [hr] at this; cases this;exact (h2 V ρ).1
theorem T1 : ∀ {l : List SV} {vs : List Value} {ns : List Nat}, ConcL V ρ l vs → SV.flatBL l = true → Jk l = ns → vs.map (fun v => (Ar v).length) = ns
 | [], vs, ns, h, _, hw => by simp only [ConcL] at h; subst h; simpa [Jk] using hw
 | x :: l, vs, ns, h, hf, hw => by
   simp only [ConcL] at h;obtain ⟨u, us, rfl, h1, h2⟩ := h;simp only [SV.flatBL, Bool.and_eq_true] at hf;simp only [Jk] at hw;subst hw;simp only [List.map_cons];rw [(h1.flat hf.1).1, T1 h2 hf.2 rfl]
theorem L4 : ∀ {fs : List Field} {off : Nat}, Aqg P off fs = true → ∀ (i : Nat) f, fs[i]? = some f → Ai P f.type = some ((Ai P f.type).getD 0) ∧ f.offset = off + ((fs.take i).map fun f => (Ai P f.type).getD 0).sum
 | [], _, _, i, f, h => by simp at h
 | g :: fs, off, ht, i, f, h => by
   simp only [Aqg, Bool.and_eq_true, decide_eq_true_eq] at ht;obtain ⟨h1, h2⟩ := ht;split at h2
   · rename_i n hn;cases i with
     | zero => simp at h; subst h; exact ⟨by simp [hn], by simp [h1]⟩
     | succ i =>
       obtain ⟨k1, k2⟩ := L4 h2 i f (by simpa using h);refine ⟨k1, ?_⟩;rw [k2];simp [hn]; omega
   · cases h2
theorem Sv {t : TypeId} {fs : Array Field} {parts : Array (Nat × Value)} {zv : Value} {cells : Array Value} (ht : P.underlying t = some (.struct fs)) (hz : ∀ w : World, (zeroValue t).run P w = .ok zv w)
 (hs : ∀ f ∈ fs.toList, ∃ n, Ai P f.type = some n) (hf : Instr.fill (fun i => (fs.map fun f => (f.offset, (Ai P f.type).getD 0))[i]?) zv.cells parts.toList = some cells) : (Instr.build t parts).run P w = .ok (.agg cells) w := by
 unfold Instr.build;rw [Ab (hz w)];simp only;rw [Ab (Fw.run_underlying ht w)];simp only;rw [Ab (Wr (g := fun f => (f.offset, (Ai P f.type).getD 0)) fs (fun f hf w => by
  obtain ⟨n, hn⟩ := hs f hf;rw [Ab (Ce hn w)]; simp [hn]) w)]
 simp only [hf]; rfl
theorem Ut {t e : TypeId} {n size : Nat} {parts : Array (Nat × Value)} {zv : Value} {cells : Array Value} (ht : P.underlying t = some (.array n e)) (hz : ∀ w : World, (zeroValue t).run P w = .ok zv w)
 (hs : Ai P e = some size) (hf : Instr.fill (fun i => some (i * size, size)) zv.cells parts.toList = some cells) : (Instr.build t parts).run P w = .ok (.agg cells) w := by
 unfold Instr.build;rw [Ab (hz w)];simp only;rw [Ab (Fw.run_underlying ht w)];simp only;rw [Ab (Ce hs w)];simp only [hf]; rfl
theorem Vv {t : TypeId} {ts : List TypeId} (h : Oe P t ts = true) : ∃ zs : List Value, zs.length = ts.length ∧ (∀ w : World, (zeroValue t).run P w = .ok (.agg ⟨(zs.map Ar).flatten⟩) w) ∧
 ∀ (i : Nat) t', ts[i]? = some t' → ∃ zv, zs[i]? = some zv ∧ (∀ w : World, (zeroValue t').run P w = .ok zv w) ∧ Ai P t' = some (Ar zv).length := by
 unfold Oe at h;split at h
 · rename_i a' bs cz ha hb _ hz;simp only [Bool.and_eq_true] at h;obtain ⟨zs, g1, g2, g3, g4⟩ := Vu hb;obtain ⟨zv, k1, k2, k3⟩ := Kw ha;rw [hz] at k3; cases k3;have e := W6 k2 g3 h.1;simp only [Ar] at e;refine ⟨zs, g1, fun w => by rw [← e]; exact k1 w, fun i t' hi => ?_⟩;obtain ⟨zv, b, h1, h2, h3, h4⟩ := g4 i t' hi;refine ⟨zv, h1, h3, ?_⟩;have hall := h.2;rw [List.all_eq_true] at hall;have hm : (t', b) ∈ ts.zip bs := List.mem_iff_getElem?.2 ⟨i, by rw [List.getElem?_zip_eq_some]; exact ⟨hi, h2⟩⟩;have := hall _ hm;simp only [decide_eq_true_eq] at this;rw [this, h4]
 · cases h
theorem Sn {zs : List Value} {ns : List Nat} (h : zs.map (fun v => (Ar v).length) = ns) (i : Nat) : ((zs.map Ar).take i).flatten.length = (ns.take i).sum := by
 subst h;rw [List.length_flatten, ← List.map_take, List.map_map, ← List.map_take]; rfl
theorem Sz (parts : Array (Nat × Operand)) : (parts.map fun (p : Nat × Operand) => (p.1, a.eval p.2)).toList = parts.toList.map fun p => (p.1, a.eval p.2) := by simp
theorem A6z {t : TypeId} {fs : Array Field} {parts : Array (Nat × Operand)} {xs : List Opd} (hR : RelR F N ρ s a w) (ht : P.underlying t = some (.struct fs)) (htd : Aqg P 0 fs.toList = true) (hnd : I0 (parts.toList.map (·.1)) = true)
 (hin : ∀ p ∈ parts.toList, p.1 < fs.size) (hz : Oe P t (fs.toList.map (·.type)) = true)
 (hx : Au ((List.range (fs.toList.map (·.type)).length).map fun i => match (fs.toList.map (·.type))[i]? with | some t => Mf P t parts.toList i | none => none) = some xs)
 (hwd : Jk (Bz s xs) = fs.toList.map fun f => (Ai P f.type).getD 0) (hfl : SV.flatBL (Bz s xs) = true) (h : K (.agg (M1 (Bz s xs))) []) :
 Tells P (vw F w ρ s) ρ w (Instr.build t (parts.map fun (p : Nat × Operand) => (p.1, a.eval p.2))) K := by
 obtain ⟨zs, h1, h2, h3⟩ := Vv hz;have hlen : zs.length = fs.toList.length := by simpa using h1
 have hconc := P2 (V := vw F w ρ s) (ρ := ρ) (s := s) (a := a) (zs := zs) (fun i t' z hi hzt => by
  obtain ⟨zv, g1, g2, _⟩ := h3 i t' hi;exact ⟨zv, g1, Sd hzt g2⟩) hx hR.tm
 simp only [List.length_map] at hconc;rw [← hlen] at hconc;have hws := T1 hconc hfl hwd;have hzw : ∀ i (hi : i < zs.length), (Ar zs[i]).length = (Ai P (fs.toList[i]'(by omega)).type).getD 0 := fun i hi => by
  have hi' : i < fs.toList.length := by omega
  obtain ⟨zv, g1, _, g3⟩ := h3 i (fs.toList[i]).type (by rw [List.getElem?_map, List.getElem?_eq_getElem hi']; rfl);rw [List.getElem?_eq_getElem hi] at g1; cases g1;rw [g3]; rfl
 have hfill := Qe (a := a) (parts := parts.toList) (zs := zs) (place := fun i => (fs.map fun f => (f.offset, (Ai P f.type).getD 0))[i]?) hnd (fun p hp => by have := hin p hp; simp at hlen; omega) (fun i hi => by
  have hi' : i < fs.toList.length := by omega
  obtain ⟨_, k2⟩ := L4 htd i _ (List.getElem?_eq_getElem hi');have e1 : (fs.map fun f => (f.offset, (Ai P f.type).getD 0))[i]? = some ((fs.toList[i]).offset, (Ai P (fs.toList[i]).type).getD 0) := by
   have : i < fs.size := by simpa using hi'
   simp [this]
  rw [e1, hzw i hi, k2, Sn (ns := fs.toList.map fun f => (Ai P f.type).getD 0) (by
   apply List.ext_getElem (by simp [hlen]);intro j h1 h2;simp only [List.getElem_map];exact hzw j (by simpa using h1))]
  simp [List.map_take]) (fun i hi => by
  have := congrArg (fun l => l[i]?) hws;have hi' : i < fs.toList.length := by omega
  simp only [List.getElem?_map, List.getElem?_range hi, Option.map_some, List.getElem?_eq_getElem hi'] at this;rw [Option.some.inj this, List.getD_eq_getElem?_getD, List.getElem?_eq_getElem hi, Option.getD_some, hzw i hi])
 refine .mk (Sv ht h2 (fun f hf => ?_) (by rw [Sz]; exact hfill)) h ?_
 · obtain ⟨i, hi⟩ := List.mem_iff_getElem?.1 hf;exact ⟨_, (L4 htd i f hi).1⟩
 · simp only [Conc];exact ⟨_, rfl, Agf hconc hfl⟩
end Go.Proofs.YthiamojjhdcegaaGreat.Fw
namespace Go.Proofs.YthiamojjhdcegaaGreat.Fw
variable [Th]
open Go.RowKit
variable {P : Program} {F : Fr} {N : Nat} {ρ : Nat → Value} {s : FS} {a : Act} {w w' : World} {K : KK} {V : View}
theorem Uq : ∀ {l : List SV} {vs : List Value} {cs : List PV}, ConcL V ρ l vs → SV.cellsL? l = some cs → PCells V cs (vs.map Ar).flatten
 | [], vs, cs, h, hc => by
   simp only [ConcL] at h; subst h; simp only [SV.cellsL?, Option.some.injEq] at hc; subst hc; exact .nil
 | x :: l, vs, cs, h, hc => by
   simp only [ConcL] at h;obtain ⟨u, us, rfl, h1, h2⟩ := h;simp only [SV.cellsL?] at hc;cases ha : x.cells? with
   | none => rw [ha] at hc; simp [Pf] at hc
   | some a => cases hb : SV.cellsL? l with
     | none => rw [ha, hb] at hc; simp [Pf] at hc
     | some b =>
       rw [ha, hb] at hc; simp only [Pf, Option.some.injEq] at hc; subst hc;simp only [List.map_cons, List.flatten_cons];exact (h1.cells ha).append (Uq h2 hb)
theorem Af9 : ∀ {x : SV} {cs}, x.cells? = some cs → x.flatB = true := by
 have key : ∀ (x : SV), (∀ cs, x.cells? = some cs → x.flatB = true) := by
  intro x
  induction x using SV.rec (motive_2 := fun l => ∀ cs, SV.cellsL? l = some cs → SV.flatBL l = true) with
  | pv x => intro _ _; rfl
  | vec n cs => intro _ _; rfl
  | agg l ih => intro cs h; simp only [SV.cells?] at h; simp only [SV.flatB]; exact ih cs h
  | tup l => intro cs h; simp [SV.cells?] at h
  | p n o => intro _ _; rfl
  | ps n o => intro _ _; rfl
  | pr n sz i o => intro _ _; rfl
  | pi sz es i o => intro _ _; rfl
  | os n => intro _ _; rfl
  | ov n z a b => intro _ _; rfl
  | fn f l => intro _ _; rfl
  | dead => intro cs h; simp [SV.cells?] at h
  | nil => rfl
  | cons x l ih1 ih2 =>
    rename_i h;simp only [SV.cellsL?] at h;cases ha : x.cells? with
    | none => rw [ha] at h; simp [Pf] at h
    | some a => cases hb : SV.cellsL? l with
      | none => rw [ha, hb] at h; simp [Pf] at h
      | some b => simp only [SV.flatBL, ih1 _ ha, ih2 _ hb, Bool.and_self]
 intro x cs h; exact key x cs h
theorem Aat {sz : Nat} : ∀ {l : List SV} {vs : List Value} {cs}, ConcL V ρ l vs → Y4 sz l → SV.cellsL? l = some cs → ∀ v ∈ vs, (Ar v).length = sz
 | [], vs, _, h, _, _ => by simp only [ConcL] at h; subst h; simp
 | x :: l, vs, cs, h, hw, hc => by
   simp only [ConcL] at h;obtain ⟨u, us, rfl, h1, h2⟩ := h;simp only [Y4] at hw;simp only [SV.cellsL?] at hc;cases ha : x.cells? with
   | none => rw [ha] at hc; simp [Pf] at hc
   | some a => cases hb : SV.cellsL? l with
     | none => rw [ha, hb] at hc; simp [Pf] at hc
     | some b =>
       intro v hv;rcases List.mem_cons.1 hv with rfl | hv
       · rw [(h1.flat (Af9 ha)).1, hw.1]
       · exact Aat h2 hw.2 hb v hv
theorem Gx {zs : List Value} {sz : Nat} (h : ∀ v ∈ zs, (Ar v).length = sz) (i : Nat) (hi : i ≤ zs.length) : ((zs.map Ar).take i).flatten.length = i * sz := by
 rw [List.length_flatten, ← List.map_take, List.map_map];have : (zs.take i).map (List.length ∘ Ar) = List.replicate i sz := by
  apply List.ext_getElem?;intro j;by_cases hj : j < i
  · have hj' : j < zs.length := by omega
    simp only [List.getElem?_map, List.getElem?_take, hj, if_true, List.getElem?_replicate, List.getElem?_eq_getElem hj', Option.map_some, Function.comp];rw [h _ (List.getElem_mem hj')]
  · simp [hj]; omega
 rw [this]; simp
theorem A02 {t e : TypeId} {n sz0 size : Nat} {parts : Array (Nat × Operand)} {xs : List Opd} (hR : RelR F N ρ s a w) (ht : P.underlying t = some (.array n e)) (hs : Ai P e = some size) (hnd : I0 (parts.toList.map (·.1)) = true)
 (hin : ∀ p ∈ parts.toList, p.1 < n) (hz : Oe P t (List.replicate n e) = true)
 (hx : Au ((List.range (List.replicate n e).length).map fun i => match (List.replicate n e)[i]? with | some t => Mf P t parts.toList i | none => none) = some xs)
 (hw : Y4 size (Bz s xs)) (h : Ku sz0 (SV.cellsL? (Bz s xs)) K) :
 Tells P (vw F w ρ s) ρ w (Instr.build t (parts.map fun (p : Nat × Operand) => (p.1, a.eval p.2))) K := by
 obtain ⟨zs, h1, h2, h3⟩ := Vv hz;have hlen : zs.length = n := by simpa using h1
 have hconc := P2 (V := vw F w ρ s) (ρ := ρ) (s := s) (a := a) (zs := zs) (fun i t' z hi hzt => by
  obtain ⟨zv, g1, g2, _⟩ := h3 i t' hi;exact ⟨zv, g1, Sd hzt g2⟩) hx hR.tm
 simp only [List.length_replicate] at hconc;rw [← hlen] at hconc;unfold Ku at h;split at h
 · rename_i cs hcs;obtain ⟨hcl, h⟩ := h;have hws := Aat hconc hw hcs;have hzw : ∀ v ∈ zs, (Ar v).length = size := fun v hv => by
    obtain ⟨i, hi⟩ := List.mem_iff_getElem?.1 hv;have hil : i < n := by rw [← hlen]; exact (List.getElem?_eq_some_iff.1 hi).1
    obtain ⟨zv, g1, _, g3⟩ := h3 i e (by simp [List.getElem?_replicate, hil]);rw [hi] at g1; cases g1;rw [hs] at g3; exact (Option.some.inj g3).symm
   have hfill := Qe (a := a) (parts := parts.toList) (zs := zs) (place := fun i => some (i * size, size)) hnd (fun p hp => by rw [hlen]; exact hin p hp) (fun i hi => by
    rw [Gx hzw i (by omega), hzw _ (List.getElem_mem hi)]) (fun i hi => by
    rw [hws _ (List.mem_map.2 ⟨i, by simpa using hi, rfl⟩), List.getD_eq_getElem?_getD, List.getElem?_eq_getElem hi, Option.getD_some, hzw _ (List.getElem_mem hi)])
   refine .mk (Ut ht h2 hs (by rw [Sz]; exact hfill)) h ?_;have hp := Uq hconc hcs;simp only [Conc];exact ⟨_, rfl, by rw [← hp.1, hcl], hp⟩
 · exact h.elim
def Qq : List HU → Prop
 | [] => True
 | .del _ :: u => Qq u
 | _ => False
theorem Pt : ∀ {u v : List HU}, Qq u → Qq v → Qq (u ++ v)
 | [], _, _, h => h
 | .del _ :: u, v, h, k => Pt (u := u) h k
 | .new _ _ :: _, _, h, _ => h.elim
 | .upd _ _ :: _, _, h, _ => h.elim
 | .frz _ _ :: _, _, h, _ => h.elim
 | .set _ _ :: _, _, h, _ => h.elim
theorem H0 : ∀ (u v : List HU) (s : FS), s.hup (u ++ v) = (s.hup u).hup v
 | [], _, _ => rfl
 | .del _ :: u, v, s => H0 u v _
 | .new _ _ :: u, v, s => H0 u v _
 | .upd _ _ :: u, v, s => H0 u v _
 | .frz _ _ :: u, v, s => H0 u v _
 | .set _ _ :: u, v, s => H0 u v _
theorem RelR.dels : ∀ {u : List HU} {s : FS}, Qq u → RelR F N ρ s a w → RelR F N ρ (s.hup u) a w ∧ (vw F w ρ s).le (vw F w ρ (s.hup u)) ∧ ∀ n, HU.del n ∈ u → (vw F w ρ (s.seth n none)).le (vw F w ρ (s.hup u))
 | [], s, _, h => ⟨h, fun _ _ x => x, by simp⟩
 | .del m :: u, s, hu, h => by
   obtain ⟨h1, h2⟩ := h.del m;obtain ⟨k1, k2, k3⟩ := RelR.dels (u := u) (s := s.seth m none) hu h1;refine ⟨k1, fun b c hb => k2 b c (h2 b c hb), fun n hn => ?_⟩;rcases List.mem_cons.1 hn with e | hn
   · cases e; exact k2
   · intro b c hb;refine k3 n hn b c ?_;have : (s.seth m none).seth n none = (s.seth n none).seth m none := by
      unfold FS.seth; congr 1; funext k; by_cases e1 : k = n <;> by_cases e2 : k = m <;> simp [e1, e2]
     rw [this];have h3 := (h.del n).1;exact (h3.del m).2 b c hb
 | .new _ _ :: _, _, hu, _ => hu.elim
 | .upd _ _ :: _, _, hu, _ => hu.elim
 | .frz _ _ :: _, _, hu, _ => hu.elim
 | .set _ _ :: _, _, hu, _ => hu.elim
theorem Azz (hR : RelR F N ρ s a w) {x : SV} {v : Value} {cs : List PV} {u : List HU} (hx : Conc (vw F w ρ s) ρ x v) (h : Xo s.h x = some (cs, u)) :
 Qq u ∧ ∀ V', (vw F w ρ s).le V' → (∀ n, HU.del n ∈ u → (vw F w ρ (s.seth n none)).le V') → PCells V' cs (Ar v) := by
 unfold Xo at h;split at h
 · rename_i n;unfold Ali at h;split at h
   · rename_i sz es hn;cases h;refine ⟨trivial, fun V' hV hd => ?_⟩;simp only [Conc] at hx;have := (Ky hR hn).mono (hd n (by simp));rw [← hx.1] at this;have e : Ar v = [v] := by have := this.one; cases v <;> simp_all [A3, Ar]
     rw [e]; exact .cons this .nil
   · cases h
 · obtain ⟨cs', h1, h2⟩ := Option.map_eq_some_iff.1 h;cases h2;exact ⟨trivial, fun V' hV _ => (hx.cells h1).mono hV⟩
theorem Afr (hR : RelR F N ρ s a w) : ∀ {l : List SV} {vs : List Value} {es : List (List PV)} {u : List HU}, ConcL (vw F w ρ s) ρ l vs → J0 s.h l = some (es, u) →
 Qq u ∧ es.length = vs.length ∧ ∀ V', (vw F w ρ s).le V' → (∀ n, HU.del n ∈ u → (vw F w ρ (s.seth n none)).le V') → ∀ (i : Nat) c, es[i]? = some c → ∃ v, vs[i]? = some v ∧ PCells V' c (Ar v)
 | [], vs, es, u, hx, h => by
   simp only [J0, Option.some.injEq, Prod.mk.injEq] at h;obtain ⟨rfl, rfl⟩ := h;simp only [ConcL] at hx; subst hx;exact ⟨trivial, rfl, by simp⟩
 | x :: l, vs, es, u, hx, h => by
   simp only [ConcL] at hx;obtain ⟨v, us, rfl, h1, h2⟩ := hx;simp only [J0] at h;cases ha : Xo s.h x with
   | none => rw [ha] at h; simp [Tl] at h
   | some p => cases hb : J0 s.h l with
     | none => rw [ha, hb] at h; simp [Tl] at h
     | some q =>
       obtain ⟨cs, u1⟩ := p;obtain ⟨es', u2⟩ := q;rw [ha, hb] at h; simp only [Tl, Option.some.injEq, Prod.mk.injEq] at h;obtain ⟨rfl, rfl⟩ := h;obtain ⟨k1, k2⟩ := Azz hR h1 ha;obtain ⟨m1, m2, m3⟩ := Afr hR h2 hb;refine ⟨Pt k1 m1, by simp [m2], fun V' hV hd i c hi => ?_⟩;cases i with
       | zero => simp at hi; subst hi; exact ⟨v, rfl, k2 V' hV (fun n hn => hd n (by simp [hn]))⟩
       | succ i => simpa using m3 V' hV (fun n hn => hd n (by simp [hn])) i c (by simpa using hi)
theorem Kq {zs : List (List Value)} {sz : Nat} (h : ∀ v ∈ zs, v.length = sz) (i : Nat) (hi : i < zs.length) : (zs.flatten.drop (i * sz)).take sz = zs[i] := by
 have h1 := Gl zs i hi;have hl : (zs.take i).flatten.length = i * sz := by
  rw [List.length_flatten];have : (zs.take i).map List.length = List.replicate i sz := by
   apply List.ext_getElem?;intro j;by_cases hj : j < i
   · have hj' : j < zs.length := by omega
     simp only [List.getElem?_map, List.getElem?_take, hj, if_true, List.getElem?_replicate, List.getElem?_eq_getElem hj', Option.map_some];rw [h _ (List.getElem_mem hj')]
   · simp [hj]; omega
  rw [this]; simp
 rw [h1, List.append_assoc, ← hl, List.drop_left];have := h _ (List.getElem_mem hi);rw [List.take_append_of_le_length (by omega), List.take_of_length_le (by omega)]
theorem Uv {z : List Value} (hz : 0 < z.length) (n : Nat) : ((Array.range (n * z.length)).map fun i => (Array.mk z)[i % (Array.mk z).size]!).toList = (List.replicate n z).flatten := by
 apply List.ext_getElem?;intro k;by_cases hk : k < n * z.length
 · have h2 : k % z.length < z.length := Nat.mod_lt _ hz;have hi : k / z.length < n := Nat.div_lt_of_lt_mul (by rw [Nat.mul_comm]; exact hk);have e1 : (((Array.range (n * z.length)).map fun i => (Array.mk z)[i % (Array.mk z).size]!).toList)[k]? = z[k % z.length]? := by simp [hk, h2]
   rw [e1];have := Kq (zs := List.replicate n z) (sz := z.length) (fun v hv => by rw [List.eq_of_mem_replicate hv]) (k / z.length) (by simpa using hi);have e2 := congrArg (fun l => l[k % z.length]?) this;simp only [List.getElem?_take, h2, if_true, List.getElem?_drop, List.getElem_replicate] at e2;rw [← e2]; congr 1;have := Nat.div_add_mod k z.length;rw [Nat.mul_comm] at this; omega
 · rw [List.getElem?_eq_none (by simpa using hk), List.getElem?_eq_none (by simp; omega)]
end Go.Proofs.YthiamojjhdcegaaGreat.Fw
namespace Go.Proofs.YthiamojjhdcegaaGreat.Fw
variable [Th]
open Go.RowKit
variable {P : Program} {F : Fr} {N : Nat} {ρ : Nat → Value} {s : FS} {a : Act} {w w' : World} {K : KK} {V : View}
theorem A6t {t e : TypeId} {len size d : Nat} {parts : Array (Nat × Operand)} {xs : List Opd} (hR : RelR F N ρ s a w) (ht : P.underlying t = some (.slice e)) (hs : Ai P e = some size) (hpos : 0 < size) (hnd : I0 (parts.toList.map (·.1)) = true)
 (hin : ∀ p ∈ parts.toList, p.1 < len) (hbig : len * size ≤ 16777216) (hz : (Df P e).map List.length = some size)
 (hx : Au ((List.range (List.replicate len e).length).map fun i => match (List.replicate len e)[i]? with | some t => Mf P t parts.toList i | none => none) = some xs)
 (h : N5 d size (J0 s.h (Bz s xs)) K) :
 Y5 P F N s a w (Instr.buildSlice t len (parts.map fun (p : Nat × Operand) => (p.1, a.eval p.2))) K := by
 obtain ⟨zp, hzp, hzl⟩ := Option.map_eq_some_iff.1 hz;obtain ⟨zv, k1, k2, _⟩ := Kw hzp;have hzlen : (Ar zv).length = size := by have := (Ha k2).1; simpa [hzl] using this
 have hconc := P2 (V := vw F w ρ s) (ρ := ρ) (s := s) (a := a) (zs := List.replicate len zv) (fun i t' z hi hzt => by
  have hil : i < len := by have := (List.getElem?_eq_some_iff.1 hi).1; simpa using this
  have : t' = e := List.eq_of_mem_replicate (List.mem_of_getElem? hi);subst this;exact ⟨zv, by simp [hil], Sd hzt k1⟩) hx hR.tm
 simp only [List.length_replicate] at hconc;unfold N5 at h;split at h
 · rename_i es u hg;obtain ⟨hcl, h⟩ := h;obtain ⟨m1, m2, m3⟩ := Afr hR hconc hg;obtain ⟨hRu, hV1, hV2⟩ := RelR.dels m1 hR;have hel := m3 _ hV1 hV2;have hlen : es.length = len := by simpa using m2
   have hws : ∀ i, i < len → (Ar (En a parts.toList (List.replicate len zv) i)).length = size := fun i hi => by
    have hi' : i < es.length := by omega
    obtain ⟨v, g1, g2⟩ := hel i _ (List.getElem?_eq_getElem hi');simp only [List.getElem?_map, List.getElem?_range hi, Option.map_some, Option.some.injEq] at g1;subst g1;rw [← g2.1]; exact hcl _ (List.getElem_mem hi')
   have hfill := Qe (a := a) (parts := parts.toList) (zs := List.replicate len zv) (place := fun i => some (i * size, size)) hnd (fun p hp => by simpa using hin p hp) (fun i hi => by
    rw [Gx (sz := size) (fun v hv => by rw [List.eq_of_mem_replicate hv]; exact hzlen) i (by omega)];simp [hzlen]) (fun i hi => by
    have hi' : i < len := by simpa using hi
    rw [hws i hi']; simp [hi', hzlen])
   simp only [List.length_replicate, List.map_replicate] at hfill;have hrep := Uv (z := Ar zv) (by omega) len;have hrun : (Instr.buildSlice t len (parts.map fun (p : Nat × Operand) => (p.1, a.eval p.2))).run P w =
    .ok (.slice (some ⟨w.heap.size, 0, none⟩) len len) { w with heap := w.heap.push (.cells ⟨(((List.range len).map (En a parts.toList (List.replicate len zv))).map Ar).flatten⟩ e) } := by
    unfold Instr.buildSlice;rw [Ab (Fw.run_underlying ht w)];simp only;rw [Ab (Ce hs w)];have nb : ¬ (len * size > 2 ^ 24) := by omega
    simp only [nb, if_false, pure_bind];by_cases h0 : len = 0
    · subst h0;have hp0 : parts.toList = [] := by
       cases hp : parts.toList with
       | nil => rfl
       | cons p l => exact absurd (hin p (by rw [hp]; simp)) (by omega)
      have : parts = #[] := by apply Array.ext'; exact hp0
      subst this;simp [Instr.fill, newRow];rw [show Array.range 0 = #[] from by apply Array.ext'; simp, Array.map_empty]
    · have hne : ¬ (len * size = 0) := by
       intro h; rcases Nat.mul_eq_zero.1 h with h | h <;> omega
      simp only [hne, if_false];rw [Ab (k1 w)];have e1 : (Array.range (len * size)).map (fun x => zv.cells[x % zv.cells.size]!) = ⟨(List.replicate len (Ar zv)).flatten⟩ := by
       apply Array.ext';rw [← hrep, Mp, hzlen]
      rw [e1, Sz, hfill];simp only;rfl
   have hfl : ∀ v ∈ ((List.range len).map (En a parts.toList (List.replicate len zv))).map Ar, v.length = size := fun v hv => by
    simp only [List.mem_map, List.mem_range] at hv;obtain ⟨_, ⟨i, hi, rfl⟩, rfl⟩ := hv;exact hws i hi
   have hR' := Nj (ty := e) (fr := (0, 0)) (d := d) (sz := size) (es := es) (cap := len) (b := w.heap.size) (vs := (((List.range len).map (En a parts.toList (List.replicate len zv))).map Ar).flatten) (w' := { w with heap := w.heap.push (.cells ⟨(((List.range len).map (En a parts.toList (List.replicate len zv))).map Ar).flatten⟩ e) })
    hRu (Grew.push w _) (Nat.le_refl _) (by simp) (.inl rfl) (by omega) hpos hcl (by
     have := Gx (zs := (List.range len).map (En a parts.toList (List.replicate len zv))) (sz := size) (fun v hv => by
      simp only [List.mem_map, List.mem_range] at hv;obtain ⟨i, hi, rfl⟩ := hv;exact hws i hi) len (by simp)
     rwa [List.take_of_length_le (by simp)] at this) (fun c hc => by
     obtain ⟨l, hl, hcl'⟩ := List.mem_flatten.1 hc;simp only [List.mem_map, List.mem_range] at hl;obtain ⟨_, ⟨i, hi, rfl⟩, rfl⟩ := hl;have hi' : i < es.length := by omega
     obtain ⟨v, g1, g2⟩ := hel i _ (List.getElem?_eq_getElem hi');simp only [List.getElem?_map, List.getElem?_range hi, Option.map_some, Option.some.injEq] at g1;subst g1;exact g2.one c hcl') (fun V' hV i c hi => by
     have hil : i < len := by rw [← hlen]; exact (List.getElem?_eq_some_iff.1 hi).1
     obtain ⟨v, g1, g2⟩ := hel i c hi;simp only [List.getElem?_map, List.getElem?_range hil, Option.map_some, Option.some.injEq] at g1;subst g1;rw [Kq hfl i (by simpa using hil)];simpa using g2.mono hV)
   rw [hlen] at hR';rw [← H0] at hR';exact ⟨_, _, .os d, _, _, hrun, h, hR', Hh⟩
 · exact h.elim
theorem noFroz.freeze {fr : Nat × Nat} {n : Nat} (h : noFroz fr n) : noFroz (if fr.1 == fr.2 then (n, n + 1) else (min fr.1 n, max fr.2 (n + 1))) n := by
 unfold noFroz at *;split
 · right; exact Nat.le_refl _
 · rename_i hne;simp only [beq_iff_eq] at hne;rcases h with h | h
   · exact absurd h hne
   · right; simp; omega
theorem rowFroz.freeze {fr : Nat × Nat} {n : Nat} (h : rowFroz 1 fr n) : rowFroz 1 (if fr.1 == fr.2 then (n, n + 1) else (min fr.1 n, max fr.2 (n + 1))) n := (noFroz.freeze h.no).imp_right fun h => ⟨rfl, h⟩
theorem A7f {t e : TypeId} {n : Nat} {v : Value} (hR : RelR F N ρ s a w) (ht : P.underlying t = some (.slice e)) (he : P.underlying e = some (.int .u8)) (hx : Conc (vw F w ρ s) ρ (.os n) v) (h : Ya (s.h n) n K) :
 ∃ w', (convert t t v).run P w = .ok v w' ∧ K (.os n) [] ∧ RelR F N ρ s a w' ∧ Conc (vw F w' ρ s) ρ (.os n) v := by
 unfold Ya at h;split at h
 · rename_i sz es hn;obtain ⟨rfl, hne, h⟩ := h;simp only [Conc] at hx;obtain ⟨b, len, cap, vs, ty, fr, h1, h2, h3, h4, h5, h6, h7, h8, h9, rfl, h11⟩ := Hu (hR.own n _ hn) (List.length_pos_iff.2 hne);have hsh : w.shape? b = some (ty, vs.length) := by unfold World.shape?; rw [h2]; rfl
   have hrun : (convert t t v).run P w = .ok v (w.freeze ⟨b, vs.length, none⟩ 1) := by
    rw [hx.1, h1];unfold convert;rw [Ab (Fw.run_underlying ht w), Ab (Fw.run_underlying ht w)];simp only;rw [Ab (Fw.run_underlying he w)];simp [markStringish, hsh]
   have hb : (w.freeze ⟨b, vs.length, none⟩ 1).heap[b]? = some (.cells ⟨vs⟩ ty (if fr.1 == fr.2 then (vs.length, vs.length + 1) else (min fr.1 vs.length, max fr.2 (vs.length + 1)))) := by
    unfold World.freeze;simp only [Nat.one_ne_zero, if_false];rw [Array.getElem?_modify, if_pos rfl, h2]; rfl
   have hother : ∀ i, i ≠ b → (w.freeze ⟨b, vs.length, none⟩ 1).heap[i]? = w.heap[i]? := fun i hi => by
    unfold World.freeze;simp only [Nat.one_ne_zero, if_false];rw [Array.getElem?_modify, if_neg (Ne.symm hi)]
   have hR' := hR.upd (w' := w.freeze ⟨b, vs.length, none⟩ 1) n (.row 1 es) (.row 1 es) hn b (by rw [h1]; simp [Cf, h7]) rfl rfl rfl (by simp [World.freeze]) hother
    ⟨_, cap, h1, h6, h8, h9, fun _ => ⟨b, vs, ty, _, rfl, hb, h5, h3.freeze, h4, h11⟩⟩
   have hss : s.seth n (some (.row 1 es)) = s := by
    unfold FS.seth;cases s with
    | mk t h =>
      congr 1; funext m;by_cases e : m = n
      · subst e; simp at hn; simp [hn]
      · simp [e]
   rw [hss] at hR';exact ⟨_, hrun, h, hR'.1, by simp only [Conc]; exact hx⟩
 · exact h.elim
end Go.Proofs.YthiamojjhdcegaaGreat.Fw
namespace Go.Proofs.YthiamojjhdcegaaGreat.Fw
variable [Th]
open Go.RowKit
variable {P : Program} {F : Fr} {N : Nat} {ρ : Nat → Value} {s : FS} {a : Act} {w w' : World} {K : KK} {V : View}
def R9 (ag : Bool) (vs : List Value) (x : Value) : Prop := if ag then x = .agg ⟨vs⟩ else vs = [x]
theorem Mr {ks : List K1} {cs : List PV} (h : Ef ks cs) (o n : Nat) : Ef ((ks.drop o).take n) ((cs.drop o).take n) := by
 unfold Ef at *; subst h; simp [List.map_drop, List.map_take]
theorem Io {ks : List K1} {cs : List PV} (h : Ef ks cs) : cs.length = ks.length := by unfold Ef at h; subst h; simp
theorem Q7 {t : TypeId} {ag : Bool} {size off : Nat} {vs : List Value} (hag : Fl P t = some ag) (hs : Ai P t = some size) (hn : off + size ≤ vs.length) (h1 : ag = false → size = 1) (w : World) :
 ∃ x, (part t ⟨vs⟩ off).run P w = .ok x w ∧ R9 ag ((vs.drop off).take size) x := by
 unfold part;cases ag with
 | true =>
   refine ⟨.agg ⟨(vs.drop off).take size⟩, ?_, by simp [R9]⟩;rw [Ab (Lb hag w)];simp only [if_true];rw [Ab (Ce hs w)];simp only [Sem.run_pure];congr 2;apply Array.ext';simp [List.drop_take]
 | false =>
   have := h1 rfl; subst this;have hlt : off < vs.length := by omega
   refine ⟨vs[off], ?_, ?_⟩
   · rw [Ab (Lb hag w)];simp [hlt]
   · simp only [R9, Bool.false_eq_true, if_false];rw [List.drop_eq_getElem_cons hlt]; rfl
theorem Zz {d : Nat} {t : TypeId} {ks : List K1} (h : K2 P d t = some ks) : ∃ ag, Fl P t = some ag ∧ (ag = false → ks.length = 1) := by
 cases d with
 | zero => simp [K2] at h
 | succ d =>
   unfold K2 at h;split at h <;> (try cases h) <;> rename_i hu
   · exact ⟨false, by simp [Fl, hu], fun _ => rfl⟩
   · exact ⟨false, by simp [Fl, hu], fun _ => rfl⟩
   · exact ⟨false, by simp [Fl, hu], fun _ => rfl⟩
   · exact ⟨true, by simp [Fl, hu], by simp⟩
   · exact ⟨true, by simp [Fl, hu], by simp⟩
def EqT (P : Program) (D : Nat) (t : TypeId) (ks : List K1) : Prop :=
 ∀ (V : View) (w : World) (ag : Bool) (cs ds : List PV) (vs us : List Value) (x y : Value), Fl P t = some ag → R9 ag vs x → R9 ag us y → PCells V cs vs → PCells V ds us → Ef ks cs → Ef ks ds →
  ∃ r : Bool, (Op.equalIn D t x y).run P w = .ok r w ∧ (r = true ↔ cs = ds)
theorem Af0 {D : Nat} {e : TypeId} {l : List K1} (IH : EqT P D e l) {ag : Bool} (hag : Fl P e = some ag) (hs : Ai P e = some l.length) (h1 : ag = false → l.length = 1) (V : View) (w : World) :
 ∀ (n i : Nat) (cs ds : List PV) (vs us : List Value), i * l.length + n * l.length ≤ vs.length → i * l.length + n * l.length ≤ us.length → PCells V (cs.drop (i * l.length)) (vs.drop (i * l.length)) → PCells V (ds.drop (i * l.length)) (us.drop (i * l.length)) →
  Ef (List.replicate n l).flatten (cs.drop (i * l.length)) → Ef (List.replicate n l).flatten (ds.drop (i * l.length)) →
  ∃ r : Bool, (Op.eqItems D e l.length ⟨vs⟩ ⟨us⟩ (List.range' i n)).run P w = .ok r w ∧ (r = true ↔ cs.drop (i * l.length) = ds.drop (i * l.length))
 | 0, i, cs, ds, vs, us, _, _, _, _, f1, f2 => by
   refine ⟨true, rfl, ?_⟩;have a1 := Io f1; have a2 := Io f2;simp at a1 a2;rw [List.drop_of_length_le (by omega), List.drop_of_length_le (by omega)]; simp
 | n + 1, i, cs, ds, vs, us, hn, hm, p1, p2, f1, f2 => by
   rw [Nat.succ_mul] at hn hm;obtain ⟨x, hx1, hx2⟩ := Q7 (P := P) hag hs (vs := vs) (off := i * l.length) (by omega) h1 w;obtain ⟨y, hy1, hy2⟩ := Q7 (P := P) hag hs (vs := us) (off := i * l.length) (by omega) h1 w;simp only [List.replicate_succ, List.flatten_cons] at f1 f2;have g1 : Ef l ((cs.drop (i * l.length)).take l.length) := by have := Mr f1 0 l.length; simpa using this
   have g2 : Ef l ((ds.drop (i * l.length)).take l.length) := by have := Mr f2 0 l.length; simpa using this
   obtain ⟨r, hr, hiff⟩ := IH V w ag _ _ _ _ x y hag hx2 hy2 (p1.split l.length).1 (p2.split l.length).1 g1 g2;have e : (i + 1) * l.length = i * l.length + l.length := Nat.succ_mul _ _;have t1 : Ef (List.replicate n l).flatten (cs.drop ((i + 1) * l.length)) := by
    have := f1; unfold Ef at this ⊢;rw [e, ← List.drop_drop, List.map_drop, this, List.drop_left]
   have t2 : Ef (List.replicate n l).flatten (ds.drop ((i + 1) * l.length)) := by
    have := f2; unfold Ef at this ⊢;rw [e, ← List.drop_drop, List.map_drop, this, List.drop_left]
   obtain ⟨r', hr', hiff'⟩ := Af0 IH hag hs h1 V w n (i + 1) cs ds vs us (by rw [e]; omega) (by rw [e]; omega) (by rw [e, ← List.drop_drop, ← List.drop_drop]; exact (p1.split l.length).2) (by rw [e, ← List.drop_drop, ← List.drop_drop]; exact (p2.split l.length).2) t1 t2;have split : cs.drop (i * l.length) = ds.drop (i * l.length) ↔ (cs.drop (i * l.length)).take l.length = (ds.drop (i * l.length)).take l.length ∧ cs.drop ((i + 1) * l.length) = ds.drop ((i + 1) * l.length) := by
    rw [e, ← List.drop_drop, ← List.drop_drop];constructor
    · intro h; rw [h]; exact ⟨rfl, rfl⟩
    · rintro ⟨h1, h2⟩; rw [← List.take_append_drop l.length (cs.drop (i * l.length)), h1, h2, List.take_append_drop]
   rw [List.range'_succ];simp only [Op.eqItems, Sem.run_bind, hx1, hy1, hr, Result.andThen_ok];cases r with
   | false => exact ⟨false, by simp, by rw [split]; simp; intro h; exact absurd (hiff.2 h) (by simp)⟩
   | true => exact ⟨r', by simpa using hr', by rw [split, hiff']; simp [hiff.1 rfl]⟩
theorem Aaf {D : Nat} (V : View) (w : World) (vs us : List Value) (cs ds : List PV) (p1 : PCells V cs vs) (p2 : PCells V ds us) : ∀ (fs : List Field) (ls : List (List K1)) (off : Nat), S6 P off fs ls = true →
 (∀ (i : Nat) f l, fs[i]? = some f → ls[i]? = some l → EqT P D f.type l ∧ ∃ ag, Fl P f.type = some ag ∧ (ag = false → l.length = 1)) → Ef ls.flatten (cs.drop off) → Ef ls.flatten (ds.drop off) →
   ∃ r : Bool, (Op.eqFields D ⟨vs⟩ ⟨us⟩ fs).run P w = .ok r w ∧ (r = true ↔ cs.drop off = ds.drop off)
 | [], [], off, _, _, f1, f2 => by
   refine ⟨true, rfl, ?_⟩;have a1 := Io f1; have a2 := Io f2;simp at a1 a2;rw [List.drop_of_length_le (by omega), List.drop_of_length_le (by omega)]; simp
 | f :: fs, l :: ls, off, h, hI, f1, f2 => by
   simp only [S6, Bool.and_eq_true, decide_eq_true_eq, bne_iff_ne, ne_eq] at h;obtain ⟨⟨⟨⟨ho, hs⟩, hne⟩, hlpos⟩, hrest⟩ := h;obtain ⟨IH, ag, hag, h1⟩ := hI 0 f l rfl rfl;have a1 := Io f1; have a2 := Io f2;simp only [List.length_drop, List.flatten_cons, List.length_append] at a1 a2;have hl1 := p1.1; have hl2 := p2.1;by_cases hl0 : l.length = 0
   · omega
   · obtain ⟨x, hx1, hx2⟩ := Q7 (P := P) hag hs (vs := vs) (off := f.offset) (by omega) h1 w;obtain ⟨y, hy1, hy2⟩ := Q7 (P := P) hag hs (vs := us) (off := f.offset) (by omega) h1 w;rw [ho] at hx2 hy2;simp only [List.flatten_cons] at f1 f2;have g1 : Ef l ((cs.drop off).take l.length) := by have := Mr f1 0 l.length; simpa using this
     have g2 : Ef l ((ds.drop off).take l.length) := by have := Mr f2 0 l.length; simpa using this
     obtain ⟨r, hr, hiff⟩ := IH V w ag _ _ _ _ x y hag hx2 hy2 (((p1.split off).2).split l.length).1 (((p2.split off).2).split l.length).1 g1 g2;have t1 : Ef ls.flatten (cs.drop (off + l.length)) := by
      have := f1; unfold Ef at this ⊢;rw [← List.drop_drop, List.map_drop, this, List.drop_left]
     have t2 : Ef ls.flatten (ds.drop (off + l.length)) := by
      have := f2; unfold Ef at this ⊢;rw [← List.drop_drop, List.map_drop, this, List.drop_left]
     obtain ⟨r', hr', hiff'⟩ := Aaf V w vs us cs ds p1 p2 fs ls (off + l.length) hrest (fun i f l a b => hI (i + 1) f l (by simpa using a) (by simpa using b)) t1 t2;have split : cs.drop off = ds.drop off ↔ (cs.drop off).take l.length = (ds.drop off).take l.length ∧ cs.drop (off + l.length) = ds.drop (off + l.length) := by
      rw [← List.drop_drop, ← List.drop_drop];constructor
      · intro h; rw [h]; exact ⟨rfl, rfl⟩
      · rintro ⟨h1, h2⟩; rw [← List.take_append_drop l.length (cs.drop off), h1, h2, List.take_append_drop]
     simp only [Op.eqFields, hne, ne_eq, not_false_eq_true, if_true, Sem.run_bind, hx1, hy1, hr, Result.andThen_ok];cases r with
     | false => exact ⟨false, by simp, by rw [split]; simp; intro h; exact absurd (hiff.2 h) (by simp)⟩
     | true => exact ⟨r', by simpa using hr', by rw [split, hiff']; simp [hiff.1 rfl]⟩
 | [], _ :: _, _, h, _, _, _ => by simp [S6] at h
 | _ :: _, [], _, h, _, _, _ => by simp [S6] at h
theorem Aio : ∀ (d D : Nat) (t : TypeId) (ks : List K1), K2 P d t = some ks → EqT P (D + d) t ks
 | 0, _, _, _, h => by simp [K2] at h
 | d + 1, D, t, ks, h => by
   intro V w ag cs ds vs us x y hag hx hy p1 p2 f1 f2;have single : ∀ {q : PV} {cs : List PV} {vs : List Value} {x : Value}, PCells V [q] vs → R9 false vs x → PConc V q x := fun hp hv => by
    simp only [R9, Bool.false_eq_true, if_false] at hv;subst hv;obtain ⟨v, us, e, h1, _⟩ := hp.inv_cons;cases e; exact h1
   unfold K2 at h;split at h <;> (try cases h) <;> rename_i hu
   · rename_i k;have : ag = false := by simp [Fl, hu] at hag; exact hag
     subst this;have c1 : ∃ n, cs = [.i k n] := by
      unfold Ef at f1; obtain ⟨q, rfl⟩ := List.length_eq_one_iff.1 (show cs.length = 1 from by have := congrArg List.length f1; simpa using this);cases q <;> simp [PV.kind] at f1; subst f1; exact ⟨_, rfl⟩
     have c2 : ∃ n, ds = [.i k n] := by
      unfold Ef at f2; obtain ⟨q, rfl⟩ := List.length_eq_one_iff.1 (show ds.length = 1 from by have := congrArg List.length f2; simpa using this);cases q <;> simp [PV.kind] at f2; subst f2; exact ⟨_, rfl⟩
     obtain ⟨n, rfl⟩ := c1; obtain ⟨m, rfl⟩ := c2;have e1 := single (cs := []) p1 hx; have e2 := single (cs := []) p2 hy;cases e1; cases e2;refine ⟨n == m, ?_, by simp⟩;exact run_equalIn_int w (D + d) t k k n m hu
   · have : ag = false := by simp [Fl, hu] at hag; exact hag
     subst this;have c1 : ∃ n, cs = [.b n] := by
      unfold Ef at f1; obtain ⟨q, rfl⟩ := List.length_eq_one_iff.1 (show cs.length = 1 from by have := congrArg List.length f1; simpa using this);cases q <;> simp [PV.kind] at f1; exact ⟨_, rfl⟩
     have c2 : ∃ n, ds = [.b n] := by
      unfold Ef at f2; obtain ⟨q, rfl⟩ := List.length_eq_one_iff.1 (show ds.length = 1 from by have := congrArg List.length f2; simpa using this);cases q <;> simp [PV.kind] at f2; exact ⟨_, rfl⟩
     obtain ⟨n, rfl⟩ := c1; obtain ⟨m, rfl⟩ := c2;have e1 := single (cs := []) p1 hx; have e2 := single (cs := []) p2 hy;cases e1; cases e2;exact ⟨n == m, run_equalIn_bool w (D + d) t n m hu, by simp⟩
   · have : ag = false := by simp [Fl, hu] at hag; exact hag
     subst this;have c1 : ∃ n, cs = [.s n] := by
      unfold Ef at f1; obtain ⟨q, rfl⟩ := List.length_eq_one_iff.1 (show cs.length = 1 from by have := congrArg List.length f1; simpa using this);cases q <;> simp [PV.kind] at f1; exact ⟨_, rfl⟩
     have c2 : ∃ n, ds = [.s n] := by
      unfold Ef at f2; obtain ⟨q, rfl⟩ := List.length_eq_one_iff.1 (show ds.length = 1 from by have := congrArg List.length f2; simpa using this);cases q <;> simp [PV.kind] at f2; exact ⟨_, rfl⟩
     obtain ⟨n, rfl⟩ := c1; obtain ⟨m, rfl⟩ := c2;have e1 := single (cs := []) p1 hx; have e2 := single (cs := []) p2 hy;cases e1; cases e2;refine ⟨n == m, ?_, by simp⟩;rw [show D + (d + 1) = (D + d) + 1 from rfl, run_equalIn_string w (D + d) t _ _ hu, Sl, Sl]
   · rename_i n e;split at h
     · rename_i l hl;split at h
       · rename_i hs;cases h;have : ag = true := by simp [Fl, hu] at hag; exact hag
         subst this;simp only [R9, if_true] at hx hy;subst hx hy;obtain ⟨ag', hag', h1⟩ := Zz hl;have hi : ∃ i, P.info? e = some i := by
          cases hh : P.info? e with
          | none => simp [Ai, hh] at hs
          | some i => exact ⟨i, rfl⟩
         obtain ⟨i, hi⟩ := hi;have hco : P.cellsOf e = l.length := by unfold Program.cellsOf; simp only [Ai] at hs; rw [hs]; rfl
         have hlen : (List.replicate n l).flatten.length = n * l.length := by simp [List.length_flatten]
         have a1 := Io f1; have a2 := Io f2;rw [hlen] at a1 a2;obtain ⟨r, hr, hiff⟩ := Af0 (Aio d D e l hl) hag' hs h1 V w n 0 cs ds vs us (by have := p1.1; omega) (by have := p2.1; omega) (by simpa using p1) (by simpa using p2) (by simpa using f1) (by simpa using f2);refine ⟨r, ?_, by simpa using hiff⟩;rw [show D + (d + 1) = (D + d) + 1 from rfl, run_equalIn_array w (D + d) _ _ hu hi, hco, List.range_eq_range'];exact hr
       · cases h
     · cases h
   · rename_i fs;split at h
     · cases h
     · rename_i hst;split at h
       · rename_i ls hls;split at h
         · rename_i hoff;cases h;have : ag = true := by simp [Fl, hu] at hag; exact hag
           subst this;simp only [R9, if_true] at hx hy;subst hx hy;obtain ⟨g1, g2⟩ := Ha hls;obtain ⟨r, hr, hiff⟩ := Aaf (D := D + d) V w vs us cs ds p1 p2 fs.toList ls 0 hoff (fun i f l hf hl => by
            have := g2 i;rw [hl] at this;simp only [List.getElem?_map, hf, Option.map_some, Option.some.injEq] at this;exact ⟨Aio d D f.type l this, Zz this⟩) (by simpa using f1) (by simpa using f2)
           refine ⟨r, ?_, by simpa using hiff⟩;have hfo : P.fieldsOf t = fs := by unfold Program.fieldsOf; rw [hu]
           rw [show D + (d + 1) = (D + d) + 1 from rfl, run_equalIn_struct w (D + d) t _ _ (by rw [hfo]; exact hu) (by simpa using hst), hfo];exact hr
         · cases h
       · cases h
theorem Acv {neg : Bool} {op : BinOp} {t : TypeId} {ks : List K1} {ox oy : Operand} {x y : SV} {v u : Value} (hop : op = if neg then .neq else .eql) (ht : (∃ fs, P.underlying t = some (.struct fs)) ∨ ∃ n e, P.underlying t = some (.array n e)) (hg : P.eqGuardType P.depth t = false) (hk : K2 P 20 t = some ks)
 (hx : Conc V ρ x v) (hy : Conc V ρ y u) (hxa : x.isAg = true) (hya : y.isAg = true) (h : Qf neg ks x.cells? y.cells? K) : Tells P V ρ w (do eqGuard op t ox oy v u; binOp op t v u) K := by
 unfold Qf at h;split at h
 · rename_i cs ds hcs hds;obtain ⟨f1, f2, h⟩ := h;obtain ⟨vs, rfl, e1, _, _⟩ := Oc hxa hx;obtain ⟨us, rfl, e2, _, _⟩ := Oc hya hy;have p1 := hx.cells hcs;have p2 := hy.cells hds;rw [← e1] at p1; rw [← e2] at p2;have hag : Fl P t = some true := by rcases ht with ⟨fs, hu⟩ | ⟨n, e, hu⟩ <;> simp [Fl, hu]
   obtain ⟨r, hr, hiff⟩ := Aio 20 9980 t ks hk V w true cs ds vs us _ _ hag rfl rfl p1 p2 f1 f2;have hr' : (Op.equal t (.agg ⟨vs⟩) (.agg ⟨us⟩)).run P w = .ok r w := hr;have hrp : r = Yl cs ds := by
    unfold Yl; rw [Bool.eq_iff_iff, hiff]; simp
   have hguard : (eqGuard op t ox oy (.agg ⟨vs⟩) (.agg ⟨us⟩)).run P w = .ok () w := by
    subst hop;cases neg <;> simp [eqGuard, hg]
   refine .mk (v := .bool (neg ^^ Yl cs ds)) ?_ h E5;rw [Ab hguard];subst hop hrp;cases neg
   · simp only [Bool.false_eq_true, if_false, Bool.false_xor];unfold binOp;rw [Ab hr']; rfl
   · simp only [if_true, Bool.true_xor];unfold binOp;rw [Ab hr']; rfl
 · exact h.elim
section slices
variable {P : Program} {F : Fr} {N : Nat} {ρ : Nat → Value} {s : FS} {a : Act} {w w' : World} {K : KK} {V : View}
theorem Aoq (w : World) (d : Nat) (t e : TypeId) (a : Option Addr) (n c : Nat) (h : P.underlying t = some (.slice e)) :
 (Op.equalIn (d + 1) t (.slice a n c) (.slice none 0 0)).run P w = .ok a.isNone w := by
 cases a <;> simp [Op.equalIn, Go.run_underlying h]
theorem Axz (w : World) (t e : TypeId) (neg : Bool) (a : Option Addr) (n c : Nat) (h : P.underlying t = some (.slice e)) :
 (binOp (if neg then .neq else .eql) t (.slice a n c) (.slice none 0 0)).run P w = .ok (.bool (neg ^^ a.isNone)) w := by
 cases neg <;> simp only [binOp, Bool.false_eq_true, if_false, if_true] <;> simp [Op.equal, Op.maxDepth, Aoq w 9999 t e a n c h]
theorem G3 (hR : RelR F N ρ s a w) {n : Nat} {es : List (List PV)} (h : Ey (s.h n) = some es) :
 ∃ base cap, ρ n = .slice base es.length cap ∧ es.length ≤ cap ∧ 0 < D6 (s.h n) ∧ (∀ c ∈ es, c.length = D6 (s.h n)) ∧
  (cap ≠ 0 → ∃ b vs ty fr, base = some ⟨b, 0, none⟩ ∧ w.heap[b]? = some (.cells ⟨vs⟩ ty fr) ∧ vs.length = cap * D6 (s.h n) ∧ rowFroz (D6 (s.h n)) fr vs.length ∧ (∀ c ∈ vs, A3 c) ∧
    ∀ i c, es[i]? = some c → PCells (vw F w ρ s) c ((vs.drop (i * D6 (s.h n))).take (D6 (s.h n)))) ∧ ∃ old, s.h n = some old := by
 unfold Ey at h;split at h
 · rename_i hn; cases h;obtain ⟨base, cap, h1⟩ := hR.own n _ hn;rw [hn]; simp only [D6];exact ⟨base, cap, h1.1, h1.2.1, h1.2.2.1, h1.2.2.2.1, h1.2.2.2.2, _, rfl⟩
 · rename_i hn; cases h;obtain ⟨base, h1⟩ := hR.own n _ hn;rw [hn]; simp only [D6];exact ⟨base, _, h1.1, h1.2.1, h1.2.2.1, h1.2.2.2.1, h1.2.2.2.2, _, rfl⟩
 · cases h
theorem A48 {t : TypeId} {rest : List TypeId} {ty : TypeId} {n z lo hi : Nat} {v : Value} (hx : Conc V ρ (.ov n z lo hi) v) (hte : ∃ e, P.underlying t = some (.slice e)) (h : K (.pv (.i .i64 ((hi - lo : Nat) : Int))) []) :
 Tells P V ρ w (Builtin.len_ ⟨t :: rest⟩ ty #[v]) K := by
 simp only [Conc] at hx;obtain ⟨base, len, cap, base', _, _, _, rfl, _⟩ := hx;obtain ⟨e, hte⟩ := hte;exact .mk (v := .int .i64 ((hi - lo : Nat) : Int)) (by simp [Builtin.len_, Fw.run_underlying hte, goInt]) h Dj
theorem Aim (w : World) (d : Nat) (t e : TypeId) (ad : Addr) (h : P.underlying t = some (.pointer e)) :
 (Op.equalIn (d + 1) t (.pointer (some ad)) (.pointer none)).run P w = .ok false w := by
 simp [Op.equalIn, Go.run_underlying h]
theorem Axy (w : World) (t e : TypeId) (neg : Bool) (ad : Addr) (h : P.underlying t = some (.pointer e)) :
 (binOp (if neg then .neq else .eql) t (.pointer (some ad)) (.pointer none)).run P w = .ok (.bool neg) w := by
 cases neg <;> simp only [binOp, Bool.false_eq_true, if_false, if_true] <;> simp [Op.equal, Op.maxDepth, Aim w 9999 t e ad h]
theorem Auu {t e : TypeId} {neg : Bool} {ad : Addr} (ht : P.underlying t = some (.pointer e)) (h : K (.pv (.b neg)) []) (ox oy : Operand) (op : BinOp) (hop : op = if neg then .neq else .eql) :
 Tells P V ρ w (do eqGuard op t ox oy (.pointer (some ad)) (.pointer none); binOp op t (.pointer (some ad)) (.pointer none)) K := by
 subst hop;refine .mk (v := .bool neg) (by
  rw [Ab (Dt _ _ _ _ _ _ (by simp) (by simp))];exact Axy w t e neg ad ht) h E5
theorem Ain (w : World) (d : Nat) (t e : TypeId) (h : P.underlying t = some (.pointer e)) :
 (Op.equalIn (d + 1) t (.pointer none) (.pointer none)).run P w = .ok true w := by
 simp [Op.equalIn, Go.run_underlying h]
theorem Ard (w : World) (t e : TypeId) (neg : Bool) (h : P.underlying t = some (.pointer e)) :
 (binOp (if neg then .neq else .eql) t (.pointer none) (.pointer none)).run P w = .ok (.bool !neg) w := by
 cases neg <;> simp only [binOp, Bool.false_eq_true, if_false, if_true] <;> simp [Op.equal, Op.maxDepth, Ain w 9999 t e h]
theorem Aux {a b c} (w : World) (d : Nat) (t : TypeId) (f : Fn) (x y : Array Value) (h : P.underlying t = some (.func a b c)) :
 (Op.equalIn (d + 1) t (.func f x y) .nilFunc).run P w = .ok false w := by
 simp [Op.equalIn, Go.run_underlying h]
theorem Aor {a b c} (w : World) (d : Nat) (t : TypeId) (h : P.underlying t = some (.func a b c)) :
 (Op.equalIn (d + 1) t .nilFunc .nilFunc).run P w = .ok true w := by
 simp [Op.equalIn, Go.run_underlying h]
theorem A0b {t e : TypeId} {neg : Bool} {x : SV} {v : Value} (ht : P.underlying t = some (.pointer e)) (hx : Conc V ρ x v) (h : eq1 neg [] x K) (ox oy : Operand) (op : BinOp) (hop : op = if neg then .neq else .eql) :
 Tells P V ρ w (do eqGuard op t ox oy v (.pointer none); binOp op t v (.pointer none)) K := by
 unfold eq1 at h;split at h
 · simp only [Conc] at hx;obtain ⟨b, _, rfl⟩ := hx;exact Auu ht h ox oy op hop
 · simp only [Conc] at hx;obtain ⟨b, _, _, rfl, _⟩ := hx;exact Auu ht h ox oy op hop
 · simp only [Conc] at hx;cases hx;subst hop;refine .mk (v := .bool !neg) (by
    rw [Ab (Dt _ _ _ _ _ _ (by simp) (by simp))];exact Ard w t e neg ht) h E5
 · contradiction
 · contradiction
 · exact h.elim
theorem A0e {t : TypeId} {a b c} {neg : Bool} {x : SV} {v : Value} (ht : P.underlying t = some (.func a b c)) (hx : Conc V ρ x v) (h : eq1 neg [.other] x K) (ox oy : Operand) (op : BinOp) (hop : op = if neg then .neq else .eql) :
 Tells P V ρ w (do eqGuard op t ox oy v .nilFunc; binOp op t v .nilFunc) K := by
 subst hop;unfold eq1 at h;split at h
 · contradiction
 · contradiction
 · contradiction
 · simp only [Conc] at hx;obtain ⟨vs, rfl, _⟩ := hx;refine .mk (v := .bool neg) (by
    rw [Ab (Dt _ _ _ _ _ _ (by simp) (by simp))];cases neg <;> simp only [binOp, Bool.false_eq_true, if_false, if_true] <;> simp [Op.equal, Op.maxDepth, Aux w 9999 t _ _ _ ht]) h E5
 · simp only [Conc] at hx;cases hx;refine .mk (v := .bool !neg) (by
    rw [Ab (Dt _ _ _ _ _ _ (by simp) (by simp))];cases neg <;> simp only [binOp, Bool.false_eq_true, if_false, if_true] <;> simp [Op.equal, Op.maxDepth, Aor w 9999 t ht]) h E5
 · exact h.elim
theorem Auv {t e : TypeId} {neg : Bool} (hR : RelR F N ρ s a w) (ht : P.underlying t = some (.slice e)) {x : SV} {v : Value} (hx : Conc (vw F w ρ s) ρ x v) {es : List (List PV)}
 (hes : C1 s.h x = some es) (hns : ∀ l, x ≠ .pv (.s l)) (h : Tq neg (some es) K) (ox oy : Operand) (op : BinOp) (hop : op = if neg then .neq else .eql) : Tells P (vw F w ρ s) ρ w (do eqGuard op t ox oy v (.slice none 0 0); binOp op t v (.slice none 0 0)) K := by
 subst hop;have key : ∃ ad n c, v = .slice ad n c ∧ (es ≠ [] → ad.isNone = false) := by
  unfold C1 at hes;split at hes
  · cases hes;simp only [Conc] at hx;cases hx with
    | sl full sz es ad cap cs bl off arr hcap hfull hsz ha => exact ⟨ad, _, cap, rfl, fun h => by rw [(ha h).1]; rfl⟩
  · rename_i l; exact absurd rfl (hns l)
  · rename_i n;have hes' : Ey (s.h n) = some es := by
     unfold G8 at hes; split at hes
     · rename_i hn; rw [hn]; exact hes
     · cases hes
    obtain ⟨base, cap, h1, h2, _, _, h3, _⟩ := G3 hR hes';simp only [Conc] at hx;refine ⟨base, _, cap, hx.1.trans h1, fun hne => ?_⟩;have : 0 < es.length := List.length_pos_iff.2 hne;obtain ⟨b, _, _, _, e, _⟩ := h3 (by omega);rw [e]; rfl
  · cases hes
 obtain ⟨ad, n, c, rfl, hne⟩ := key;exact .mk (by rw [Ab (Dt _ _ _ _ _ _ (by simp) (by simp))]; exact Axz w t e neg ad n c ht) (h _ hne) E5
theorem RelR.redesc (hR : RelR F N ρ s a w) {n : Nat} {old blk : Blk} (hn : s.h n = some old) (hown : Own w (vw F w ρ s) ρ n blk) : RelR F N ρ (s.hup [.upd n blk]) a w := by
 have how : ∀ b, Cb ρ (s.hup [.upd n blk]).h b ↔ Cb ρ s.h b := fun b => by
  constructor
  · rintro ⟨m, x, h1, h2⟩;simp only [FS.hup, FS.seth] at h1;split at h1
    · rename_i e; subst e; exact ⟨m, old, hn, h2⟩
    · exact ⟨m, x, h1, h2⟩
  · rintro ⟨m, x, h1, h2⟩;by_cases e : m = n
    · subst e; exact ⟨m, blk, by simp [FS.hup, FS.seth], h2⟩
    · exact ⟨m, x, by simp [FS.hup, FS.seth, e, h1], h2⟩
 have hV : Am w (F.out ρ (s.hup [.upd n blk]).h) = Am w (F.out ρ s.h) := by
  congr 1; funext b; exact propext (or_congr_left (how b))
 have hh : ∀ m x, (s.hup [.upd n blk]).h m = some x → (m = n ∧ x = blk) ∨ (m ≠ n ∧ s.h m = some x) := fun m x h => by
  simp only [FS.hup, FS.seth] at h;split at h
  · rename_i e; cases h; exact .inl ⟨e, rfl⟩
  · rename_i e; exact .inr ⟨e, h⟩
 have ho : ∀ m x, (s.hup [.upd n blk]).h m = some x → ∃ y, s.h m = some y := fun m x h => by
  rcases hh m x h with ⟨rfl, _⟩ | ⟨_, h⟩
  · exact ⟨_, hn⟩
  · exact ⟨_, h⟩
 refine ⟨hR.fr, fun b hb => hR.may b ((how b).1 hb), fun m x hm => ?_, fun m k x y b hm hk hbm hbk => ?_, fun m => by rw [hV]; exact hR.tmps m, hR.size, hR.defers⟩
 · rw [hV];rcases hh m x hm with ⟨rfl, rfl⟩ | ⟨_, h⟩
   · exact hown
   · exact hR.own m x h
 · obtain ⟨x', h1⟩ := ho m x hm;obtain ⟨y', h2⟩ := ho k y hk;exact hR.inj m k x' y' b h1 h2 hbm hbk
theorem A6r {t e ty : TypeId} (hR : RelR F N ρ s a w) (ht : P.underlying t = some (.slice e)) {n : Nat} {v : Value} (hx : Conc (vw F w ρ s) ρ (.os n) v) (h : X4 (s.h n) n K) : Y5 P F N s a w (Builtin.cap_ #[t] ty #[v]) K := by
 simp only [Conc] at hx;have run : ∀ base l c, (Builtin.cap_ #[t] ty #[.slice base l c]).run P w = .ok (.int .i64 c) w := fun base l c => by
  simp [Builtin.cap_, Go.run_underlying ht, goInt]
 unfold X4 at h;split at h
 · rename_i sz es hn;obtain ⟨base, cap, h1, h2, h3⟩ := hR.own n _ hn;rw [hx.1, h1];refine ⟨_, w, _, _, ρ, run _ _ _, h cap h2, hR.redesc hn ⟨base, h1, h2, h3⟩, ?_⟩;exact Dj
 · rename_i sz es c hn;obtain ⟨base, h1, h2, h3⟩ := hR.own n _ hn;rw [hx.1, h1];exact ⟨_, w, _, [], ρ, run _ _ _, h, hR, Dj⟩
 · exact h.elim
theorem Uc {t e : TypeId} {sz len cap : Nat} {ad : Option Addr} {lo hi mx : Bool} {ol oh om : Option Value} {i j m : Int} (ht : P.underlying t = some (.slice e)) (hz : Ai P e = some sz)
 (hl : F4 lo ol i 0) (hh : F4 hi oh j len) (hm : F4 mx om m len) (hmh : mx = true → hi = true) (h0 : 0 ≤ i) (h1 : i ≤ j) (h2 : j ≤ m) (h3 : m ≤ len) (hcap : len ≤ cap) :
 (Instr.sliceAt t (.slice ad len cap) ol oh om).run P w = .ok (.slice (if (if mx then m.toNat else cap) = i.toNat then ad else ad.map (·.add (i.toNat * sz))) (j.toNat - i.toNat) ((if mx then m.toNat else cap) - i.toNat)) w := by
 have hb := Iy (P := P) (w := w) true hl hh hm hmh h0 h1 h2 h3 hcap;unfold Instr.sliceAt;rw [Ab (Fw.run_underlying ht w)];simp only;unfold Instr.slice;rw [Ab (Fw.run_underlying ht w)];simp only;rw [Ab hb];simp only;rw [Ab (Ce hz w)]; rfl
theorem A23 {t e : TypeId} {sz n : Nat} {lo hi : Bool} {ol oh : Option Value} {i j : Int} (hR : RelR F N ρ s a w) (ht : P.underlying t = some (.slice e)) (hz : Ai P e = some sz) {v : Value} (hx : Conc (vw F w ρ s) ρ (.os n) v)
 {es : List (List PV)} (hes : Ey (s.h n) = some es) (hsz : sz = D6 (s.h n)) (hl : F4 lo ol i 0) (hh : F4 hi oh j es.length) (h0 : 0 ≤ i) (h1 : i ≤ j) (h2 : j ≤ es.length)
 (h : K (.ov n sz i.toNat j.toNat) []) : Tells P (vw F w ρ s) ρ w (Instr.sliceAt t v ol oh none) K := by
 obtain ⟨base, cap, k1, k2, k3, k4, k5, k6⟩ := G3 hR hes;simp only [Conc] at hx;rw [hx.1, k1];have hrun := Uc (P := P) (w := w) (ad := base) (mx := false) (om := none) (m := es.length) ht hz hl hh (.inl ⟨rfl, rfl, rfl⟩) (by simp) h0 h1 h2 (Int.le_refl _) k2;simp only [Bool.false_eq_true, if_false] at hrun;refine .mk hrun h ?_;simp only [Conc];refine ⟨base, _, cap, _, k1, by omega, by omega, rfl, fun hlt => ?_⟩;split
 · have : i.toNat = 0 := by omega
   rw [this, Nat.zero_mul];cases base <;> simp [Addr.add]
 · rfl
theorem Yr {t e : TypeId} {sz len cap : Nat} {ad : Option Addr} {ki kh : IntKind} {i j : Int} (ht : P.underlying t = some (.slice e)) (hz : Ai P e = some sz) (h0 : 0 ≤ i) (h1 : i ≤ j) (h2 : j ≤ cap) :
 (Instr.sliceAt t (.slice ad len cap) (some (.int ki i)) (some (.int kh j)) none).run P w = .ok (.slice (if cap = i.toNat then ad else ad.map (·.add (i.toNat * sz))) (j.toNat - i.toNat) (cap - i.toNat)) w := by
 have hb : (Instr.sliceBounds true len cap (some (.int ki i)) (some (.int kh j)) none).run P w = .ok (i.toNat, j.toNat, cap) w := by
  simp only [Instr.sliceBounds, pure_bind];rw [Ab (Ca (by omega) (by omega)), Ab (Ca (by omega) (by omega))]; simp
 unfold Instr.sliceAt;rw [Ab (Fw.run_underlying ht w)];simp only;unfold Instr.slice;rw [Ab (Fw.run_underlying ht w)];simp only;rw [Ab hb];simp only;rw [Ab (Ce hz w)]; simp
theorem Ae5 (o : Option Addr) (k : Nat) : o.map (·.add (0 * k)) = o := by cases o <;> simp [Addr.add]
theorem Axo {t e : TypeId} {sz n b : Nat} {ki kj : IntKind} {i j : Int} (hR : RelR F N ρ s a w) (ht : P.underlying t = some (.slice e)) (hz : Ai P e = some sz) {v : Value} (hx : Conc (vw F w ρ s) ρ (.ov n sz 0 b) v)
 (h : Aqx (Ey (s.h n)) (D6 (s.h n)) n sz i j K) : Tells P (vw F w ρ s) ρ w (Instr.sliceAt t v (some (.int ki i)) (some (.int kj j)) none) K := by
 unfold Aqx at h;split at h
 · rename_i es hes;obtain ⟨hsz, h0, h1, h2, h⟩ := h;obtain ⟨base, cap, k1, k2, _⟩ := G3 hR hes;simp only [Conc] at hx;obtain ⟨base2, len2, cap2, base', g1, g2, g3, rfl, g4⟩ := hx;rw [k1] at g1; cases g1;have hb' := (g4 (.inr trivial)).trans (Ae5 base sz);subst hb';refine .mk (Yr (ki := ki) (kh := kj) ht hz h0 h1 (by omega)) h ?_;simp only [Conc, Nat.sub_zero];refine ⟨base', _, cap, _, k1, by omega, by omega, rfl, fun hlt => ?_⟩;split
   · have : i.toNat = 0 := by omega
     rw [this, Nat.zero_mul];cases base' <;> simp [Addr.add]
   · rfl
 · exact h.elim
theorem Af1 {sz k : Nat} {es : List (List PV)} {vs : List Value} (h : Els V sz es vs) (hk : k ≤ es.length) : Els V sz (es.take k) (vs.take (k * sz)) := by
 have hb : k * sz ≤ es.length * sz := Nat.mul_le_mul_right _ hk;refine ⟨by simp [h.len, Nat.min_eq_left hk, Nat.min_eq_left hb], fun c hc => h.szs c (List.mem_of_mem_take hc), fun c hc => h.one c (List.mem_of_mem_take hc), fun i c hc => ?_⟩;rw [List.getElem?_take] at hc;split at hc
 · rename_i hi;have h1 : (i + 1) * sz ≤ k * sz := Nat.mul_le_mul_right _ hi;rw [Nat.succ_mul] at h1;rw [List.drop_take, List.take_take, Nat.min_eq_left (by omega)];exact h.el i c hc
 · cases hc
theorem Nz {b off sz k l c m : Nat} {vs : List Value} {ty fr} (hb : w.heap[b]? = some (.cells ⟨vs⟩ ty fr)) (hm : off + m * sz ≤ vs.length) (hk : k ≤ m) :
 (Builtin.firstCells sz k (.slice (some ⟨b, off, none⟩) l c)).run P w = .ok ⟨((vs.drop off).take (m * sz)).take (k * sz)⟩ w := by
 have h1 : k * sz ≤ m * sz := Nat.mul_le_mul_right _ hk;simp only [Builtin.firstCells];rw [Ia hb (by simpa using (by omega : off + k * sz ≤ vs.length)), List.take_take, Nat.min_eq_left h1]
theorem Ms {sz k : Nat} {ad : Option Addr} {l c : Nat} (hk : k = 0) : (Builtin.firstCells sz k (.slice ad l c)).run P w = .ok ⟨[]⟩ w := by
 subst hk; cases ad <;> simp [Builtin.firstCells, loadCells, loadCellsFrom]
theorem Ape (l : List UInt8) : Els V 1 (A7 l) (l.map fun b => .int .u8 b.toNat) := by
 refine ⟨by simp [A7], fun c hc => ?_, fun c hc => ?_, fun i c hc => ?_⟩
 · simp only [A7, List.mem_map] at hc; obtain ⟨x, _, rfl⟩ := hc; rfl
 · simp only [List.mem_map] at hc; obtain ⟨x, _, rfl⟩ := hc; trivial
 · simp only [A7, List.getElem?_map, Option.map_eq_some_iff] at hc;obtain ⟨x, hx, rfl⟩ := hc;have : ((l.map fun b => Value.int .u8 b.toNat).drop (i * 1)).take 1 = [.int .u8 x.toNat] := by
    rw [Nat.mul_one, ← List.map_drop, List.drop_eq_getElem_cons (List.getElem?_eq_some_iff.1 hx).1];simp [(List.getElem?_eq_some_iff.1 hx).2]
   rw [this];exact .cons (.i _ _) .nil
theorem Aqq (hR : RelR F N ρ s a w) {y : SV} {v : Value} {ys : List (List PV)} {sz : Nat} (hz : 0 < sz) (hy : Conc (vw F w ρ s) ρ y v) (he : Fe s.h y = some ys) (hs : ys = [] ∨ Hg s.h y = sz) :
 (∀ w : World, (Builtin.lenOf v).run P w = .ok ys.length w) ∧ ∃ vs, Els (vw F w ρ s) sz ys vs ∧ ∀ k, k ≤ ys.length → (Builtin.firstCells sz k v).run P w = .ok ⟨vs.take (k * sz)⟩ w := by
 have row : ∀ {n lo hi : Nat} {es : List (List PV)} {base' : Option Addr} {l c : Nat} {len cap : Nat} {base : Option Addr}, Ey (s.h n) = some es → ys = (es.take hi).drop lo → (ys = [] ∨ D6 (s.h n) = sz) → ρ n = .slice base len cap → lo ≤ hi → hi ≤ len →
  (lo < hi ∨ lo = 0 → base' = base.map (·.add (lo * D6 (s.h n)))) → ∃ vs, Els (vw F w ρ s) sz ys vs ∧ ∀ k, k ≤ ys.length → (Builtin.firstCells sz k (.slice base' l c)).run P w = .ok ⟨vs.take (k * sz)⟩ w := by
  intro n lo hi es base' l c len cap base hes hys hsz hρ h1 h2 h3;obtain ⟨base2, cap2, k1, k2, k3, k4, k5, _⟩ := G3 hR hes;rw [hρ] at k1; cases k1;have hyl : ys.length = hi - lo := by rw [hys]; simp; omega
  have hlh : lo + (hi - lo) = hi := by omega
  by_cases hne : ys = []
  · subst hne;exact ⟨[], .nil, fun k hk => by rw [List.take_nil]; exact Ms (by simpa using hk)⟩
  · have hsz' := hsz.resolve_left hne;have hlt : lo < hi := by have := List.length_pos_iff.2 hne; omega
    obtain ⟨b, vs, ty, fr, rfl, e2, e3, e4, e5, e6⟩ := k5 (by omega);rw [hsz'] at k4 e3 e6;have hb1 : es.length * sz ≤ cap * sz := Nat.mul_le_mul_right _ k2;have hb2 : hi * sz ≤ es.length * sz := Nat.mul_le_mul_right _ h2;have h4 := h3 (.inl hlt);rw [hsz'] at h4;simp only [Option.map_some, Dd, Nat.zero_add] at h4;subst h4;have hels := (Ci (V := vw F w ρ s) (vs := vs) (lo * sz) hz (es := ys) (fun c hc => by rw [hys] at hc; exact k4 c (List.mem_of_mem_take (List.mem_of_mem_drop hc))) (fun i c hc => by
     rw [hys, List.getElem?_drop, List.getElem?_take] at hc;split at hc
     · have := e6 _ c hc; rwa [Nat.add_mul] at this
     · cases hc)).2
    have hls : lo * sz + ys.length * sz ≤ vs.length := by rw [← Nat.add_mul, hyl, hlh, e3]; exact Nat.le_trans hb2 hb1
    exact ⟨_, hels, fun k hk => Nz e2 hls hk⟩
 unfold Fe at he;split at he
 · rename_i n z lo hi;obtain ⟨es, hes, rfl⟩ := Option.map_eq_some_iff.1 he;simp only [Conc] at hy;obtain ⟨base, len, cap, base', h1, h2, h3, rfl, h4⟩ := hy;obtain ⟨base2, cap2, k1, _⟩ := G3 hR hes;have hlen : len = es.length := by rw [h1] at k1; cases k1; rfl
   refine ⟨fun w => ?_, ?_⟩
   · have : ((es.take hi).drop lo).length = hi - lo := by simp; omega
     rw [this]; rfl
   · have hyl : ((es.take hi).drop lo).length = hi - lo := by simp; omega
     by_cases hne : (es.take hi).drop lo = []
     · rw [hne] at hyl ⊢;exact ⟨[], .nil, fun k hk => by rw [List.take_nil]; exact Ms (by simpa using hk)⟩
     · have h5 := hs.resolve_left hne;simp only [Hg] at h5;split at h5
       · rename_i hzz;exact row hes rfl (.inr (hzz.trans h5)) h1 h2 h3 (by rw [hzz]; exact h4)
       · omega
 · rename_i hno;have hs' : ys = [] ∨ Iq s.h y = sz := by
    unfold Hg at hs;split at hs
    · exact absurd rfl (hno _ _ _ _)
    · exact hs
   unfold C1 at he;split at he
   · rename_i full sz' es;cases he;simp only [Conc] at hy;by_cases hne : ys = []
     · subst hne;cases hy with
       | sl _ _ _ ad cap => exact ⟨fun _ => rfl, [], .nil, fun k hk => by rw [List.take_nil]; exact Ms (by simpa using hk)⟩
     · have hsz : sz' = sz := by simpa [Iq] using hs'.resolve_left hne
       subst hsz;obtain ⟨b, off, cap, arr, rfl, hV, _⟩ := L7 hy (List.length_pos_iff.2 hne);obtain ⟨_, ty, fr, hb⟩ := Ie hV;have hel : ∀ (i : Nat) c, ys[i]? = some c → c.length = sz' ∧ PCells (vw F w ρ s) c ((arr.toList.drop (off + i * sz')).take sz') := fun i c hc => by
        obtain ⟨b2, off2, cap2, arr2, e1, e2, e3⟩ := L7 hy (List.getElem?_eq_some_iff.1 hc).1;cases e1; rw [hV] at e2; cases e2;exact e3 c hc
       obtain ⟨h1, h2⟩ := Ci (V := vw F w ρ s) (vs := arr.toList) off hz (fun c hc => by obtain ⟨i, hi⟩ := List.mem_iff_getElem?.1 hc; exact (hel i c hi).1) (fun i c hc => (hel i c hc).2);exact ⟨fun _ => rfl, _, h2, fun k hk => Nz (vs := arr.toList) hb (h1 hne) hk⟩
   · rename_i l;cases he;cases M6 hy;refine ⟨fun w => by simp [Builtin.lenOf, H9, A7], l.map fun b => .int .u8 b.toNat, ?_, ?_⟩
     · have hsz : l = [] ∨ sz = 1 := by
        rcases hs' with h | h
        · left; simpa [A7] using h
        · right; simpa [Iq] using h.symm
       rcases hsz with rfl | rfl
       · exact .nil
       · exact Ape l
     · intro k hk;have hkl : k ≤ l.length := by simpa [A7] using hk
       have hk1 : k = 0 ∨ sz = 1 := by
        rcases hs' with h | h
        · left; have : l = [] := by simpa [A7] using h
          subst this; simpa using hkl
        · right; simpa [Iq] using h.symm
       have hks : k * sz = k := by rcases hk1 with rfl | rfl <;> simp
       rw [hks];simp only [Builtin.firstCells, Sem.run_pure];congr 1;apply Array.ext';simp [ByteArray.extract, ByteArray.copySlice, List.map_take]
   · rename_i n;have hes' : Ey (s.h n) = some ys := by
      unfold G8 at he; split at he
      · rename_i hn; rw [hn]; exact he
      · cases he
     obtain ⟨base, cap, k1, _⟩ := G3 hR hes';simp only [Conc] at hy;rw [hy.1, k1];have hrz : ys = [] ∨ D6 (s.h n) = sz := by
      refine hs'.imp_right fun h => ?_;simp only [Iq] at h;unfold G8 at he; split at he
      · rename_i hn; rw [hn] at h ⊢; exact h
      · cases he
     exact ⟨fun _ => rfl, row (lo := 0) (hi := ys.length) hes' (by simp) hrz k1 (Nat.zero_le _) (Nat.le_refl _) (fun _ => by cases base <;> simp [Dd, Addr.add])⟩
   · cases he
theorem Ad8 {t u ty e : TypeId} {sz n dLen dCap : Nat} {base : Option Addr} {xv : Value} {vn : List Value} (ht : P.underlying t = some (.slice e)) (hz : Ai P e = some sz) (hl : ∀ w : World, (Builtin.lenOf xv).run P w = .ok n w)
 (hx : (Builtin.firstCells sz (min n dLen) xv).run P w = .ok ⟨vn⟩ w) (hst : match base with | some ad => (storeCells ad vn).run P w = .ok () w' | none => w' = w) :
 (Builtin.copy_ #[t, u] ty #[.slice base dLen dCap, xv]).run P w = .ok (.int .i64 (min n dLen : Nat)) w' := by
 have hz' : ∀ w, (sizeOf e).run P w = .ok sz w := fun w => Ce hz w;have hx' : (Builtin.firstCells sz (Nat.min n dLen) xv).run P w = .ok ⟨vn⟩ w := hx;cases base with
 | none =>
   simp only at hst; subst hst;simp [Builtin.copy_, Go.run_underlying ht, hz', hl, hx', goInt]
 | some ad =>
   simp only at hst;simp [Builtin.copy_, Go.run_underlying ht, hz', hl, hx', hst, goInt]
theorem Acz {sz : Nat} {es : List (List PV)} {us : List Value} (tail : List Value) (h : Els V sz es us) (i : Nat) (c : List PV) (hi : es[i]? = some c) : PCells V c (((us ++ tail).drop (i * sz)).take sz) := by
 have hlt : i < es.length := (List.getElem?_eq_some_iff.1 hi).1;have h1 : (i + 1) * sz ≤ es.length * sz := Nat.mul_le_mul_right _ hlt;rw [Nat.succ_mul] at h1;rw [List.drop_append_of_le_length (by rw [h.len]; omega), List.take_append_of_le_length (by simp only [List.length_drop, h.len]; omega)];exact h.el i c hi
theorem Aaj {t u ty e : TypeId} {sz n lo dLen dCap : Nat} {hi : Option Nat} {base' : Option Addr} {y : SV} {xv : Value} (hR : RelR F N ρ s a w) (ht : P.underlying t = some (.slice e)) (hz : Ai P e = some sz) (hpos : 0 < sz)
 (hy : Conc (vw F w ρ s) ρ y xv) (h : J2 (s.h n) n sz lo hi (Fe s.h y) (Hg s.h y) K)
 (hd : ∀ es base cap, Ey (s.h n) = some es → ρ n = .slice base es.length cap → dLen = hi.getD es.length - lo ∧ lo ≤ hi.getD es.length ∧ hi.getD es.length ≤ es.length ∧ (lo < hi.getD es.length → base' = base.map (·.add (lo * sz)))) :
 Y5 P F N s a w (Builtin.copy_ #[t, u] ty #[.slice base' dLen dCap, xv]) K := by
 unfold J2 at h;split at h
 · rename_i sz' es ys hn hys;obtain ⟨rfl, hsy, h⟩ := h;obtain ⟨hlen, vs0, hels, hfirst⟩ := Aqq (P := P) hR hpos hy hys hsy;obtain ⟨base, cap, k1, k2, k3, k4, k5⟩ := hR.own n _ hn;obtain ⟨rfl, d2, d3, d4⟩ := hd es base cap (by simp [Ey, hn]) k1;generalize hi.getD es.length = hh at *;have hk1 : min ys.length (hh - lo) ≤ ys.length := Nat.min_le_left _ _;have hk2 : min ys.length (hh - lo) ≤ hh - lo := Nat.min_le_right _ _;have htk : ys.take (hh - lo) = ys.take (min ys.length (hh - lo)) := by rw [Nat.min_comm, ← List.take_eq_take_min]
   rw [htk] at h;generalize hkk : min ys.length (hh - lo) = k at *;have hf := hfirst k hk1;rw [← hkk] at hf;have hsrc := Af1 hels hk1;by_cases hlt : lo < hh
   · have hcap : cap ≠ 0 := by omega
     obtain ⟨b, vs, ty', fr, rfl, e2, e3, e4, e5, e6⟩ := k5 hcap;have hb' := d4 hlt;simp only [Option.map_some, Dd, Nat.zero_add] at hb';subst hb';have c1 : es.length * sz ≤ cap * sz := Nat.mul_le_mul_right _ k2;have c2 : (lo + k) * sz ≤ es.length * sz := Nat.mul_le_mul_right _ (by omega);rw [Nat.add_mul] at c2;have hvl := hsrc.len;have hyk : (ys.take k).length = k := by simp; omega
     rw [hyk] at hvl;obtain ⟨w', hr, hw⟩ := Fp (P := P) (vs0.take (k * sz)) 0 (off := lo * sz) e2 e4.no hsrc.one (by rw [hvl, e3]; omega);simp only [Nat.add_zero] at hw;have hrun := Ad8 (P := P) (w' := w') (ty := ty) (u := u) (dCap := dCap) (dLen := hh - lo) (base := some ⟨b, lo * sz, none⟩) ht hz hlen hf (by rw [hkk]; exact hr);rw [hkk] at hrun;have hA := (Ci (V := vw F w ρ s) (vs := vs) (es := es.take lo) 0 hpos (fun c hc => k4 c (List.mem_of_mem_take hc)) (fun i c hc => by
      rw [List.getElem?_take] at hc; split at hc
      · simpa using e6 i c hc
      · cases hc)).2
     have hD := (Ci (V := vw F w ρ s) (vs := vs) (es := es.drop (lo + k)) ((lo + k) * sz) hpos (fun c hc => k4 c (List.mem_of_mem_drop hc)) (fun i c hc => by
      rw [List.getElem?_drop] at hc;have := e6 _ c hc
      rwa [Nat.add_mul] at this)).2
     have hel : (es.take lo).length = lo := by simp; omega
     rw [hel, List.drop_zero] at hA;have hall := (hA.append hsrc).append hD;have hl2 := Co vs (vs0.take (k * sz)) (lo * sz) (by rw [hvl, e3]; omega);have hlen' : (es.take lo ++ ys.take k ++ es.drop (lo + k)).length = es.length := by simp; omega
     refine ⟨_, w', _, _, ρ, hrun, h, hR.wrote hn (by rw [k1]; simp [Cf, hcap]) hw ⟨some ⟨b, 0, none⟩, cap, by rw [hlen']; exact k1, by rw [hlen']; exact k2, hpos, hall.szs, fun _ => ⟨b, _, ty', fr, rfl, hw.here, by rw [hl2, e3], by rw [hl2]; exact e4, ?_, ?_⟩⟩, Dj⟩
     · intro c hc;simp only [List.mem_append] at hc;rcases hc with (hc | hc) | hc
       · exact e5 c (List.mem_of_mem_take hc)
       · exact hsrc.one c hc
       · exact e5 c (List.mem_of_mem_drop hc)
     · intro i c hi;have := Acz (((vs.drop ((lo + k) * sz)).drop ((es.drop (lo + k)).length * sz))) hall i c hi;rw [List.append_assoc (vs.take (lo * sz) ++ vs0.take (k * sz)), List.take_append_drop] at this;rw [hvl, ← Nat.add_mul];exact this
   · have hk0 : k = 0 := by omega
     subst hk0;simp only [List.take_zero] at h;have hf0 : (Builtin.firstCells sz (min ys.length (hh - lo)) xv).run P w = .ok ⟨[]⟩ w := by rw [hkk] at hf ⊢; simpa using hf
     have hrun := Ad8 (P := P) (w := w) (w' := w) (ty := ty) (u := u) (dCap := dCap) (dLen := hh - lo) (base := base') (vn := []) ht hz hlen hf0 (by cases base' <;> simp [storeCells]);rw [hkk] at hrun;refine ⟨_, w, _, _, ρ, hrun, h, hR.redesc hn ?_, Dj⟩;have : es.take lo ++ [] ++ es.drop (lo + 0) = es := by simp
     rw [this];exact ⟨base, cap, k1, k2, k3, k4, k5⟩
 · exact h.elim
theorem A6l {t u ty e : TypeId} {sz : Nat} {x y : SV} {v xv : Value} (hR : RelR F N ρ s a w) (ht : P.underlying t = some (.slice e)) (hz : Ai P e = some sz) (hpos : 0 < sz)
 (hx : Conc (vw F w ρ s) ρ x v) (hy : Conc (vw F w ρ s) ρ y xv) (h : J1 s.h sz x y K) : Y5 P F N s a w (Builtin.copy_ #[t, u] ty #[v, xv]) K := by
 unfold J1 at h;split at h
 · rename_i n;simp only [Conc] at hx;have hs : ∃ es, Ey (s.h n) = some es := by
    unfold J2 at h;split at h
    · rename_i hn _; exact ⟨_, by rw [hn]; rfl⟩
    · exact h.elim
   obtain ⟨es, hes⟩ := hs;obtain ⟨base, cap, k1, k2, _⟩ := G3 hR hes;rw [hx.1, k1];refine Aaj hR ht hz hpos hy h fun es' base2 cap2 h1 h2 => ?_;rw [hes] at h1; cases h1;rw [k1] at h2; cases h2;exact ⟨by simp, Nat.zero_le _, Nat.le_refl _, fun _ => by cases base <;> simp [Addr.add]⟩
 · rename_i n z lo hi;obtain ⟨rfl, h⟩ := h;simp only [Conc] at hx;obtain ⟨base, len, cap, base', h1, h2, h3, rfl, h4⟩ := hx;refine Aaj hR ht hz hpos hy h fun es' base2 cap2 g1 g2 => ?_;rw [h1] at g2; cases g2;exact ⟨rfl, h2, h3, fun hlt => h4 (.inl hlt)⟩
 · exact h.elim
theorem A7j {t u e ty : TypeId} {sz bytes n z lo i : Nat} (hT : AppT P t u e sz bytes) (hR : RelR F N ρ s a w) {y : SV} {v xv : Value} (hx : Conc (vw F w ρ s) ρ (.ov n z lo i) v) (hy : Conc (vw F w ρ s) ρ y xv)
 (hlo : lo = 0) (h : Qm (s.h n) n sz i (Fe s.h y) (Hg s.h y) K) : Y5 P F N s a w (Builtin.append_ #[t, u] ty #[v, xv]) K := by
 subst hlo;have hpos := hT.zpos;unfold Qm at h;split at h
 · rename_i sz' es ys hn hys;obtain ⟨rfl, hsy, hle, h⟩ := h;obtain ⟨hlen, vs0, hels, hfirst⟩ := Aqq (P := P) hR hpos hy hys hsy;obtain ⟨base, cap, k1, k2, k3, k4, k5⟩ := hR.own n _ hn;simp only [Conc] at hx;obtain ⟨base2, len2, cap2, base', g1, g2, g3, rfl, g4⟩ := hx;rw [k1] at g1; cases g1;have hb' := (g4 (.inr trivial)).trans (Ae5 base _);subst hb';obtain ⟨zz, hz, hzl⟩ := hT.hz;obtain ⟨ii, zv, hi, hzv, hsize, hone, hp⟩ := Fm hz hzl;have hi2 : ii.size = sz := by simpa [Ai, hi] using hT.hs
   have hf := hfirst ys.length (Nat.le_refl _);have hsrc := Af1 hels (Nat.le_refl _);rw [List.take_length] at hsrc;have hvl := hsrc.len;have hlen' : (es.take i ++ ys ++ es.drop (i + ys.length)).length = es.length := by simp; omega
   have hcon : Conc (vw F w ρ s) ρ (.ov n sz 0 (i + ys.length)) (.slice base' (i - 0 + ys.length) (cap - 0)) := by
    simp only [Conc];exact ⟨base', _, cap, base', k1, Nat.zero_le _, by omega, by simp, fun _ => by cases base' <;> simp [Addr.add]⟩
   by_cases hc : cap = 0
   · have hes : es = [] := List.eq_nil_of_length_eq_zero (by omega);have hys0 : ys = [] := List.eq_nil_of_length_eq_zero (by omega);subst hes hys0;have hv0 : vs0.take (([] : List (List PV)).length * sz) = [] := by simp
     rw [hv0] at hf;have hrun := Hk (w' := w) (ty := ty) hT.ht hT.hu hi hi2 (sv := .slice base' (i - 0) (cap - 0)) rfl hlen hf (by simp at hle ⊢; omega) (by cases base' <;> simp [storeCells]);refine ⟨_, w, _, _, ρ, hrun, h, hR.redesc hn ?_, ?_⟩
     · have hi0 : i = 0 := by simpa using hle
       subst hi0;exact ⟨base', cap, k1, k2, k3, k4, k5⟩
     · simp only [Conc];exact ⟨base', _, cap, base', k1, Nat.zero_le _, by simp at hle ⊢; omega, by simp, fun _ => by cases base' <;> simp [Addr.add]⟩
   · obtain ⟨b, vs, ty', fr, rfl, e2, e3, e4, e5, e6⟩ := k5 hc;have c1 : es.length * sz ≤ cap * sz := Nat.mul_le_mul_right _ k2;have c2 : (i + ys.length) * sz ≤ es.length * sz := Nat.mul_le_mul_right _ hle;rw [Nat.add_mul] at c2;obtain ⟨w', hr, hw⟩ := Fp (P := P) (vs0.take (ys.length * sz)) 0 (off := i * sz) e2 e4.no hsrc.one (by rw [hvl, e3]; omega);simp only [Nat.add_zero] at hw;have hrun := Hk (w' := w') (ty := ty) hT.ht hT.hu hi hi2 (sv := .slice (some ⟨b, 0, none⟩) (i - 0) (cap - 0)) rfl hlen hf (by omega) (by simpa [Dd] using hr);have hA := (Ci (V := vw F w ρ s) (vs := vs) (es := es.take i) 0 hpos (fun c hc => k4 c (List.mem_of_mem_take hc)) (fun i c hc => by
      rw [List.getElem?_take] at hc; split at hc
      · simpa using e6 i c hc
      · cases hc)).2
     have hD := (Ci (V := vw F w ρ s) (vs := vs) (es := es.drop (i + ys.length)) ((i + ys.length) * sz) hpos (fun c hc => k4 c (List.mem_of_mem_drop hc)) (fun i c hc => by
      rw [List.getElem?_drop] at hc;have := e6 _ c hc
      rwa [Nat.add_mul] at this)).2
     have hel : (es.take i).length = i := by simp; omega
     rw [hel, List.drop_zero] at hA;have hall := (hA.append hsrc).append hD;have hl2 := Co vs (vs0.take (ys.length * sz)) (i * sz) (by rw [hvl, e3]; omega);refine ⟨_, w', _, _, ρ, hrun, h, hR.wrote hn (by rw [k1]; simp [Cf, hc]) hw ⟨some ⟨b, 0, none⟩, cap, by rw [hlen']; exact k1, by rw [hlen']; exact k2, hpos, hall.szs, fun _ => ⟨b, _, ty', fr, rfl, hw.here, by rw [hl2, e3], by rw [hl2]; exact e4, ?_, ?_⟩⟩, ?_⟩
     · intro c hc;simp only [List.mem_append] at hc;rcases hc with (hc | hc) | hc
       · exact e5 c (List.mem_of_mem_take hc)
       · exact hsrc.one c hc
       · exact e5 c (List.mem_of_mem_drop hc)
     · intro j c hi;have := Acz (((vs.drop ((i + ys.length) * sz)).drop ((es.drop (i + ys.length)).length * sz))) hall j c hi;rw [List.append_assoc (vs.take (i * sz) ++ vs0.take (ys.length * sz)), List.take_append_drop] at this;rw [hvl, ← Nat.add_mul];exact this
     · simp only [Conc];exact ⟨some ⟨b, 0, none⟩, _, cap, some ⟨b, 0, none⟩, k1, Nat.zero_le _, by omega, by simp, fun _ => by simp [Addr.add]⟩
 · exact h.elim
theorem Axn {t e : TypeId} {sz n : Nat} {ki kj km : IntKind} {i j m : Int} (hR : RelR F N ρ s a w) (ht : P.underlying t = some (.slice e)) (hz : Ai P e = some sz) {v : Value} (hx : Conc (vw F w ρ s) ρ (.os n) v)
 (h : A22 (Ey (s.h n)) (D6 (s.h n)) sz i j m K) : Tells P (vw F w ρ s) ρ w (Instr.sliceAt t v (some (.int ki i)) (some (.int kj j)) (some (.int km m))) K := by
 unfold A22 at h;split at h
 · rename_i es hes;obtain ⟨hsz, h0, h1, h2, h3, h⟩ := h;obtain ⟨base, cap, k1, k2, _⟩ := G3 hR hes;simp only [Conc] at hx;rw [hx.1, k1];exact .mk (Uc (P := P) (w := w) (ad := base) (lo := true) (hi := true) (mx := true) ht hz (.inr ⟨rfl, _, rfl⟩) (.inr ⟨rfl, _, rfl⟩) (.inr ⟨rfl, _, rfl⟩) (by simp) h0 h1 h2 h3 k2) h (by simp only [Conc])
 · exact h.elim
theorem A6q {t ty e : TypeId} {sz : Nat} {z : List PV} {x : SV} {v : Value} (hR : RelR F N ρ s a w) (ht : P.underlying t = some (.slice e)) (hz : Ai P e = some sz) (hzp : Df P e = some z) (hzl : z.length = sz) (hpos : 0 < sz)
 (hx : Conc (vw F w ρ s) ρ x v) (h : Ac3 s.h sz z x K) : Y5 P F N s a w (Builtin.clear_ #[t] ty #[v]) K := by
 unfold Ac3 at h;split at h
 · rename_i n zz lo hi;obtain ⟨rfl, h⟩ := h;simp only [Conc] at hx;obtain ⟨base, len, cap, base', h1, h2, h3, rfl, h4⟩ := hx;unfold Avd at h;split at h
   · rename_i sz' es hn;obtain ⟨rfl, h⟩ := h;obtain ⟨base2, cap2, k1, k2, k3, k4, k5⟩ := hR.own n _ hn;rw [h1] at k1; cases k1;by_cases hlt : lo < hi
     · have hcap : cap ≠ 0 := by omega
       obtain ⟨b, vs, ty', fr, rfl, e2, e3, e4, e5, e6⟩ := k5 hcap;have hb' := h4 (.inl hlt);simp only [Option.map_some, Dd, Nat.zero_add] at hb';subst hb';obtain ⟨i, zv, hi', hzv, hsize, hone, hp⟩ := Fm hzp hzl;have hzc : zv.cells.toList.length = zz := by simpa using hsize
       have hze : Els (vw F w ρ s) zz (List.replicate (hi - lo) z) (Builtin.zeroCells zv.cells (hi - lo)).toList := by
        have := Kx (V := vw F w ρ s) (z := zv.cells.toList) (hp _) (by rw [hzc]; exact hpos) (hi - lo);rw [hzc] at this;simpa [Builtin.zeroCells, hsize] using this
       have c1 : es.length * zz ≤ cap * zz := Nat.mul_le_mul_right _ k2;have c2 : hi * zz ≤ es.length * zz := Nat.mul_le_mul_right _ (by omega);have hvl := hze.len;rw [List.length_replicate] at hvl;have c3 : lo * zz + (hi - lo) * zz = hi * zz := by rw [← Nat.add_mul]; congr 1; omega
       obtain ⟨w', hr, hw⟩ := Fp (P := P) (Builtin.zeroCells zv.cells (hi - lo)).toList 0 (off := lo * zz) e2 e4.no hze.one (by rw [hvl, e3]; omega);simp only [Nat.add_zero] at hw;have hzr : ∀ w : World, (zeroValue e).run P w = .ok zv w := fun w => by simp [zeroValue, typeInfo, hi', hzv]
       have hrun : (Builtin.clear_ #[t] ty #[.slice (some ⟨b, lo * zz, none⟩) (hi - lo) (cap - lo)]).run P w = .ok (.tuple #[]) w' := by
        obtain ⟨m, hm⟩ : ∃ m, hi - lo = m + 1 := ⟨hi - lo - 1, by omega⟩
        rw [hm] at hr ⊢;simp [Builtin.clear_, Go.run_underlying ht, hzr, hr]
       have hA := (Ci (V := vw F w ρ s) (vs := vs) (es := es.take lo) 0 hpos (fun c hc => k4 c (List.mem_of_mem_take hc)) (fun i c hc => by
        rw [List.getElem?_take] at hc; split at hc
        · simpa using e6 i c hc
        · cases hc)).2
       have hD := (Ci (V := vw F w ρ s) (vs := vs) (es := es.drop hi) (hi * zz) hpos (fun c hc => k4 c (List.mem_of_mem_drop hc)) (fun i c hc => by
        rw [List.getElem?_drop] at hc;have := e6 _ c hc
        rwa [Nat.add_mul] at this)).2
       have hel : (es.take lo).length = lo := by simp; omega
       rw [hel, List.drop_zero] at hA;have hall := (hA.append hze).append hD;have hl2 := Co vs (Builtin.zeroCells zv.cells (hi - lo)).toList (lo * zz) (by rw [hvl, e3]; omega);have hlen' : (es.take lo ++ List.replicate (hi - lo) z ++ es.drop hi).length = es.length := by simp; omega
       refine ⟨_, w', _, _, ρ, hrun, h, hR.wrote hn (by rw [h1]; simp [Cf, hcap]) hw ⟨some ⟨b, 0, none⟩, cap, by rw [hlen']; exact h1, by rw [hlen']; exact k2, hpos, hall.szs, fun _ => ⟨b, _, ty', fr, rfl, hw.here, by rw [hl2, e3], by rw [hl2]; exact e4, ?_, ?_⟩⟩, by simp only [Conc, ConcL]; exact ⟨[], rfl, rfl⟩⟩
       · intro c hc;simp only [List.mem_append] at hc;rcases hc with (hc | hc) | hc
         · exact e5 c (List.mem_of_mem_take hc)
         · exact hze.one c hc
         · exact e5 c (List.mem_of_mem_drop hc)
       · intro i c hi';have := Acz (((vs.drop (hi * zz)).drop ((es.drop hi).length * zz))) hall i c hi';rw [List.append_assoc (vs.take (lo * zz) ++ (Builtin.zeroCells zv.cells (hi - lo)).toList), List.take_append_drop] at this;rw [hvl, c3];exact this
     · have he : hi - lo = 0 := by omega
       have e1 : lo = hi := by omega
       subst e1;simp only [Nat.sub_self, List.replicate_zero] at h;have hrun : (Builtin.clear_ #[t] ty #[.slice base' (lo - lo) (cap - lo)]).run P w = .ok (.tuple #[]) w := by
        rw [Nat.sub_self];cases base' <;> simp [Builtin.clear_, Go.run_underlying ht]
       refine ⟨_, w, _, _, ρ, hrun, h, hR.redesc hn ?_, by simp only [Conc, ConcL]; exact ⟨[], rfl, rfl⟩⟩;have : es.take lo ++ [] ++ es.drop lo = es := by simp
       rw [this];exact ⟨base, cap, h1, k2, k3, k4, k5⟩
   · exact h.elim
 · exact h.elim
theorem A7i {t u ty e : TypeId} {ku k : IntKind} {sz bytes d : Nat} {z : List PV} {m : Int} (hT : AppT P t t e sz bytes) (hz : Df P e = some z) (hzl : z.length = sz) (hu : P.underlying u = some (.int ku)) (hR : RelR F N ρ s a w) {x : SV} {v : Value}
 (hx : Conc (vw F w ρ s) ρ x v) (h : N8 s.h d sz bytes z m x K) : Y5 P F N s a w (Builtin.append_ #[t, u] ty #[v, .int k m]) K := by
 unfold N8 at h;split at h
 · rename_i n zz lo hi;obtain ⟨rfl, h⟩ := h;unfold Tw at h;split at h
   · rename_i sz' es c hn;obtain ⟨rfl, h0, hg, hbd, h⟩ := h;simp only [Conc] at hx;obtain ⟨base, len, cap, base', h1, h2, h3, rfl, h4⟩ := hx;obtain ⟨base2, k1, k2, k3, k4, k5⟩ := hR.own n _ hn;rw [h1] at k1; cases k1;obtain ⟨mk, rfl⟩ : ∃ mk : Nat, m = mk := ⟨m.toNat, by omega⟩
     obtain ⟨i, zv, hi', hzv, hsize, hone, hp⟩ := Fm hz hzl;have hi1 : i.bytes = bytes := by simpa [It, hi'] using hT.hb
     have hi2 : i.size = sz := by simpa [Ai, hi'] using hT.hs
     have hbd' : (hi + mk) * bytes ≤ 70368744177664 := by
      have h9 : (((hi + mk) * bytes : Nat) : Int) ≤ ((70368744177664 : Nat) : Int) := by rw [Int.natCast_mul, Int.natCast_add]; exact hbd
      exact Int.ofNat_le.1 h9
     have hle : hi + mk ≤ 70368744177664 := by
      have : (hi + mk) * 1 ≤ (hi + mk) * bytes := Nat.mul_le_mul_left _ hT.pos;omega
     have hmb : mk * bytes ≤ (hi + mk) * bytes := Nat.mul_le_mul_right _ (by omega);have hold : ∃ vo, (Builtin.firstCells sz hi (.slice base' hi c)).run P w.drew = .ok ⟨vo⟩ w.drew ∧ Els (vw F w ρ s) sz (es.take hi) vo := by
      by_cases hh : 0 < hi
      · obtain ⟨b, vs, ty', fr, rfl, e2, e3, e4, e5, e6⟩ := k5 (by omega);have hb' := h4 (.inl hh);simp only [Option.map_some, Dd, Nat.zero_mul, Nat.add_zero] at hb';subst hb';have c1 : hi * sz ≤ c * sz := Nat.mul_le_mul_right _ (by omega);refine ⟨_, Nz (w := w.drew) (m := hi) e2 (by rw [e3]; omega) (Nat.le_refl _), ?_⟩;have := (Ci (V := vw F w ρ s) (vs := vs) (es := es.take hi) 0 hT.zpos (fun c hc => k4 c (List.mem_of_mem_take hc)) (fun i c hc => by
         rw [List.getElem?_take] at hc; split at hc
         · simpa using e6 i c hc
         · cases hc)).2
        have hel : (es.take hi).length = hi := by simp; omega
        rw [hel] at this;rw [List.take_take, Nat.min_self];exact this
      · have : hi = 0 := by omega
        subst this;exact ⟨[], Ms rfl, by rw [List.take_zero]; exact .nil⟩
     obtain ⟨vo, ho1, ho2⟩ := hold;have hrun := Lib.run_append_grow_zeros (P := P) w t u ty e i zv k ku hT.ht hu hi' hzv base' hi c vo (by rw [hi2]; exact ho1) mk (by omega) (by rw [hi2]; exact hT.zpos) (by omega) (by push_cast; omega) (by rw [hi1]; omega) (growslice_fits (by omega) (by rw [hi1]; omega));have hzc : zv.cells.toList.length = sz := by simpa using hsize
     have hze : Els (vw F w ρ s) sz (List.replicate mk z) (Builtin.zeroCells zv.cells mk).toList := by
      have := Kx (V := vw F w ρ s) (z := zv.cells.toList) (hp _) (by rw [hzc]; exact hT.zpos) mk;rw [hzc] at this;simpa [Builtin.zeroCells, hsize] using this
     have hels := ho2.append hze;have hel : (es.take hi ++ List.replicate mk z).length = hi + mk := by simp; omega
     have hcap := grownCap_ge w (hi + mk) c e;have hall := Z6 hT.zpos hsize hone hels (cap := grownCap w (hi + mk) c e) (by rw [hel]; exact hcap);rw [hel] at hall;have g : Grew w (w.drew.alloc (.cells (vo.toArray ++ Builtin.zeroCells zv.cells mk ++ Builtin.zeroCells zv.cells (grownCap w (hi + mk) c e - (hi + mk))) e)) := (O8 w).trans (Grew.push _ _);have hR' := Nj (d := d) (sz := sz) (es := es.take hi ++ List.replicate mk z) (cap := grownCap w (hi + mk) c e) (b := w.heap.size) (ty := e) (fr := (0, 0))
      (vs := vo ++ (Builtin.zeroCells zv.cells mk).toList ++ (Builtin.zeroCells zv.cells (grownCap w (hi + mk) c e - (hi + mk))).toList) hR g (Nat.le_refl _)
      (by
        have : (vo.toArray ++ Builtin.zeroCells zv.cells mk ++ Builtin.zeroCells zv.cells (grownCap w (hi + mk) c e - (hi + mk)) : Array Value) = ⟨vo ++ (Builtin.zeroCells zv.cells mk).toList ++ (Builtin.zeroCells zv.cells (grownCap w (hi + mk) c e - (hi + mk))).toList⟩ := by
         apply Array.ext'; simp
        rw [this];simp [World.alloc, World.drew, -World.alloc_eq, -World.drew_eq]) (.inl rfl) (by rw [hel]; exact hcap) hT.zpos hels.szs hall.1 hall.2.1 (fun V' hV j x hj => (hall.2.2 j x hj).mono hV)
     rw [hel] at hR';simp only [Int.toNat_natCast] at h;exact ⟨_, _, .os d, _, _, hrun, h, hR', Hh⟩
   · exact h.elim
 · exact h.elim
theorem Abm {t e : TypeId} {sz len cap : Nat} {ad : Option Addr} {kh : IntKind} {j : Int} (ht : P.underlying t = some (.slice e)) (hz : Ai P e = some sz) (h1 : 0 ≤ j) (h2 : j ≤ cap) :
 (Instr.sliceAt t (.slice ad len cap) none (some (.int kh j)) none).run P w = .ok (.slice (if cap = 0 then ad else ad.map (·.add 0)) j.toNat cap) w := by
 have hb : (Instr.sliceBounds true len cap none (some (.int kh j)) none).run P w = .ok (0, j.toNat, cap) w := by
  simp only [Instr.sliceBounds, pure_bind];rw [Ab (Ca (by omega) (by omega))]; simp
 unfold Instr.sliceAt;rw [Ab (Fw.run_underlying ht w)];simp only;unfold Instr.slice;rw [Ab (Fw.run_underlying ht w)];simp only;rw [Ab hb];simp only;rw [Ab (Ce hz w)]; simp
theorem A21 {t e : TypeId} {sz n d : Nat} {kh : IntKind} {j : Int} {T : Prop} (hR : RelR F N ρ s a w) (ht : P.underlying t = some (.slice e)) (hz : Ai P e = some sz) {v : Value} (hx : Conc (vw F w ρ s) ρ (.os n) v)
 (h : Wo (s.h n) n d sz j T K) : Y5 P F N s a w (Instr.sliceAt t v none (some (.int kh j)) none) K ∨ T := by
 unfold Wo at h;split at h
 · left;rename_i sz' es c hn;obtain ⟨rfl, h1, h2, h⟩ := h;simp only [Conc] at hx;obtain ⟨base, k1, k2, k3, k4, k5⟩ := hR.own n _ hn;rw [hx.1, k1];have hrun := Abm (P := P) (w := w) (len := es.length) (ad := base) (kh := kh) ht hz (by omega) h2;by_cases hc : c = 0
   · subst hc;have he : es = [] := List.eq_nil_of_length_eq_zero (by omega);subst he;have hj : j = 0 := by simp at h1; omega
     subst hj;have hh := h [] rfl (by simp);simp only [if_true] at hrun;have hR1 := (hR.del n).1.new (Grew.refl w) d (.row sz ([] ++ [])) (.slice base 0 0) (fun b hb => by cases base <;> simp [Cf] at hb) (fun V' _ => ⟨base, 0, by simpa using Az, by simp, k3, by simp, fun hne => absurd rfl hne⟩);exact ⟨_, w, .os d, _, _, hrun, hh, hR1.1, Hh⟩
   · obtain ⟨b, vs, ty', fr, rfl, e2, e3, e4, e5, e6⟩ := k5 hc;rw [if_neg hc] at hrun;simp only [Option.map_some, Dd, Nat.add_zero] at hrun;have gl : ∀ i, i < j.toNat - es.length → ((vs.drop ((es.length + i) * sz)).take sz).length = sz := fun i hi => by
      have : (es.length + i + 1) * sz ≤ c * sz := Nat.mul_le_mul_right _ (by omega);rw [Nat.succ_mul] at this;simp; omega
     have hjl : (es ++ (List.range (j.toNat - es.length)).map fun i => ((vs.drop ((es.length + i) * sz)).take sz).map PV.v).length = j.toNat := by simp; omega
     have hh := h ((List.range (j.toNat - es.length)).map fun i => ((vs.drop ((es.length + i) * sz)).take sz).map PV.v) (by simp) (fun x hx => by
      obtain ⟨i, hi, rfl⟩ := List.mem_map.1 hx;rw [List.length_map]; exact gl i (List.mem_range.1 hi))
     have hR1 := hR.renew (w' := w) n d (.rowc sz es c) (.row sz (es ++ (List.range (j.toNat - es.length)).map fun i => ((vs.drop ((es.length + i) * sz)).take sz).map PV.v)) (.slice (some ⟨b, 0, none⟩) j.toNat c) hn b (by rw [k1]; simp [Cf, hc]) (fun b' hb' => by simp [Cf, hc] at hb'; exact hb'.symm)
      rfl rfl rfl rfl (fun _ _ => rfl) (fun V' hV => ⟨some ⟨b, 0, none⟩, c, by rw [hjl]; exact Az, by rw [hjl]; omega, k3, fun x hx => ?_, fun _ => ⟨b, vs, ty', fr, rfl, e2, e3, e4, e5, fun i x hi => ?_⟩⟩)
     · exact ⟨_, w, .os d, _, _, hrun, hh, hR1, Hh⟩
     · rcases List.mem_append.1 hx with hx | hx
       · exact k4 x hx
       · obtain ⟨i, hi, rfl⟩ := List.mem_map.1 hx;rw [List.length_map]; exact gl i (List.mem_range.1 hi)
     · by_cases hlt : i < es.length
       · rw [List.getElem?_append_left hlt] at hi;exact (e6 i x hi).mono hV
       · rw [List.getElem?_append_right (by omega), List.getElem?_map] at hi;obtain ⟨q, hq, rfl⟩ := Option.map_eq_some_iff.1 hi;obtain ⟨hq1, hq2⟩ := List.getElem?_eq_some_iff.1 hq;rw [List.getElem_range] at hq2;subst hq2;rw [show es.length + (i - es.length) = i by omega];refine ⟨by simp, fun p y hp => ?_⟩;rw [List.getElem?_map] at hp;obtain ⟨v, hv, rfl⟩ := Option.map_eq_some_iff.1 hp;exact ⟨v, hv, .v v (e5 v (List.mem_of_mem_drop (List.mem_of_mem_take (List.mem_of_getElem? hv))))⟩
 · exact .inr h
end slices
theorem A3l {t : TypeId} {d : Nat} {l : List UInt8} (hR : RelR F N ρ s a w) (ht : P.underlying t = some .string) (h : K (.p d 0) [.new d (.it l 0)]) : Y5 P F N s a w (Instr.range t (.string ⟨l.toArray⟩)) K := by
 have hg : Grew w (w.iter ⟨l.toArray⟩ 0) := ⟨rfl, rfl, rfl, by show w.heap.size ≤ (w.heap.push _).size; rw [Array.size_push]; omega, fun b hb => by
  show (w.heap.push _)[b]? = _;rw [Array.getElem?_push_lt hb]; simp [hb]⟩
 have hR' := (hR.new hg d (.it l 0) (.pointer (some ⟨w.heap.size, 0, none⟩)) (fun b hb => by
  simp [Cf] at hb; subst hb;exact ⟨Nat.le_refl _, by show w.heap.size < (w.heap.push _).size; rw [Array.size_push]; omega⟩) (fun V' _ => ⟨w.heap.size, Az, World.iter_heap w _ 0⟩)).1
 exact ⟨_, _, .p d 0, _, _, run_range_string w t _ ht, h, hR', by simp only [Conc]; exact ⟨_, Az, rfl⟩⟩
theorem A41 {ty : TypeId} {x : SV} {v : Value} (hR : RelR F N ρ s a w) (hx : Conc (vw F w ρ s) ρ x v) (h : W8 s.h x K) : Y5 P F N s a w (Instr.next v true ty) K := by
 unfold W8 at h;split at h
 · rename_i n;unfold S8 at h;split at h
   · rename_i l pos hn;obtain ⟨b, g1, g2⟩ := hR.own n _ hn;simp only [Conc] at hx;obtain ⟨b', k1, rfl⟩ := hx;rw [g1] at k1; cases k1;have hs : (⟨l.toArray⟩ : ByteArray).size = l.length := by simp [ByteArray.size]
     by_cases hlt : pos < l.length
     · rw [if_pos hlt] at h;have hrun := Lib.run_next_any_at (P := P) w b ⟨l.toArray⟩ pos ty g2 (by rw [hs]; exact hlt);have hlen : b < w.heap.size := (Array.getElem?_eq_some_iff.1 g2).1;have hup := (hR.upd (w' := w.iterAt b ⟨l.toArray⟩ (pos + (Utf8.decode ⟨l.toArray⟩ pos).2)) n (.it l pos) (.it l (pos + (Pj l pos).2)) hn b (by rw [g1]; rfl) rfl rfl rfl (by simp [World.iterAt]) (fun c hc => by
        simp only [World.iterAt];rw [Array.getElem?_setIfInBounds_ne (Ne.symm hc)]) ⟨b, g1, Lib.iterAt_heap w b _ _ _ g2⟩)
       refine ⟨_, _, _, _, ρ, hrun, h, hup.1, ?_⟩;simp only [Conc, ConcL];exact ⟨_, rfl, _, _, rfl, .b _, _, _, rfl, .i _ _, _, _, rfl, .i _ _, rfl⟩
     · rw [if_neg hlt] at h;have hrun := Lib.run_next_end_at (P := P) w b ⟨l.toArray⟩ pos ty g2 (by rw [hs]; exact hlt);refine ⟨_, _, _, _, ρ, hrun, h, hR, ?_⟩;simp only [Conc, ConcL];exact ⟨_, rfl, _, _, rfl, .b _, rfl⟩
   · exact h.elim
 · exact h.elim
end Go.Proofs.YthiamojjhdcegaaGreat.Fw
namespace Go.Proofs.YthiamojjhdcegaaGreat.Fw
variable [Th]
open Go.RowKit
variable {P : Program} {F : Fr} {N : Nat} {ρ : Nat → Value} {s : FS} {a : Act} {w w' : World} {K : KK} {V : View}
def OpOk (P : Program) (F : Fr) (N : Nat) (s : FS) (a : Act) (w : World) (o : Oper) (K : KK) : Prop :=
 ∃ n w' v x u ρ', (execOp a.eval o).run P w = .ok n w' ∧ (n = .value v ∨ (n = .skip ∧ v = undef)) ∧ K x u ∧ RelR F N ρ' (s.hup u) a w' ∧ Conc (vw F w' ρ' (s.hup u)) ρ' x v
theorem OpOk.of_mak {o : Oper} {m : Sem Value} (he : execOp a.eval o = (do pure (Next.value (← m)))) (h : Y5 P F N s a w m K) : OpOk P F N s a w o K := by
 obtain ⟨v, w', x, u, ρ', h1, h2, h3, h4⟩ := h;exact ⟨.value v, w', v, x, u, ρ', by rw [he, Ab h1]; rfl, .inl rfl, h2, h3, h4⟩
theorem OpOk.of_tells {o : Oper} {m : Sem Value} (hR : RelR F N ρ s a w) (he : execOp a.eval o = (do pure (Next.value (← m)))) (h : Tells P (vw F w ρ s) ρ w m K) : OpOk P F N s a w o K := .of_mak he (h.mak hR)
theorem Fh {x : Operand} {l : List Opd} (h : A1 [x] = some l) : ∃ y, l = [y] ∧ Bu x = some y := by
 obtain ⟨y, zs, rfl, h1, h2⟩ := Bd (show Au [Bu x] = some l from h);simp [Au] at h2; subst h2; exact ⟨y, rfl, h1⟩
theorem Kl {x z : Operand} {l : List Opd} (h : A1 [x, z] = some l) : ∃ y u, l = [y, u] ∧ Bu x = some y ∧ Bu z = some u := by
 obtain ⟨y, zs, rfl, h1, h2⟩ := Bd (show Au [Bu x, Bu z] = some l from h);obtain ⟨u, rfl, h3⟩ := Fh (x := z) h2;exact ⟨y, u, rfl, h1, h3⟩
theorem A8z {x z q : Operand} {l : List Opd} (h : A1 [x, z, q] = some l) : ∃ y u v, l = [y, u, v] ∧ Bu x = some y ∧ Bu z = some u ∧ Bu q = some v := by
 obtain ⟨y, zs, rfl, h1, h2⟩ := Bd (show Au [Bu x, Bu z, Bu q] = some l from h);obtain ⟨u, v, rfl, h3, h4⟩ := Kl (x := z) h2;exact ⟨y, u, v, rfl, h1, h3, h4⟩
theorem Ao {k : Kd} {o : Option (List Opd)} {k' : Kd} {x : List Opd} (h : ins k o = some (k', x)) : k' = k ∧ o = some x := by
 unfold ins at h;obtain ⟨y, h1, h2⟩ := Option.map_eq_some_iff.1 h;cases h2; exact ⟨rfl, h1⟩
theorem At8 {t : TypeId} {n : Nat} (h : Ai P t = some n) : (Ai P t).getD 0 = n := by rw [h]; rfl
theorem H2 {s : FS} {lo : Option Operand} {d i : Int} {rest : List Operand} {l : List SV} {ys : List Opd} (hy : A1 (lo.toList ++ rest) = some ys) (ht : ∀ n, n < Gg → Conc V ρ (s.t n) (a.tmps.getD n undef))
 (h : Et lo.isSome d (Bz s ys) = some (i, l)) : F4 lo.isSome (lo.map a.eval) i d ∧ ∃ zs, A1 rest = some zs ∧ l = Bz s zs := by
 cases lo with
 | none =>
   simp only [Option.isSome_none, Et, Option.some.injEq, Prod.mk.injEq] at h;exact ⟨.inl ⟨rfl, rfl, h.1.symm⟩, ys, by simpa using hy, h.2.symm⟩
 | some x =>
   obtain ⟨y, zs, rfl, h1, h2⟩ := Bd (show Au (Bu x :: rest.map Bu) = some ys from by simpa [A1] using hy);simp only [Option.isSome_some, Bz] at h;have hc := Ah (s := s) (a := a) h1 ht;generalize s.ev y = q at h hc;unfold Et at h;split at h
   · rename_i hh; cases hh
   · rename_i k n l' _ hh;cases hh;cases h;have := Fi hc;exact ⟨.inr ⟨rfl, k, by simp [this]⟩, zs, h2, rfl⟩
   · cases h
theorem A5v {t e : TypeId} {n size : Nat} {k : IntKind} {j : Int} {x : SV} {v : Value} (ht : P.underlying t = some (.array n e)) (hz : Ai P e = some size)
 (hx : Conc V ρ x v) (h : Ui n size j x K) : Tells P V ρ w (Instr.indexAt t v (.int k j)) K := by
 cases x <;> simp only [Ui] at h <;> (try exact h.elim)
 case p n o => exact Aic (x := .ps n o) ht hz h.1 h.2.1 (by simp only [Conc] at *; exact hx) h.2.2
 all_goals exact Aic ht hz h.1 h.2.1 hx h.2.2
theorem Ik {s : FS} {args : Array Operand} {x : List Opd} {p : SV} (h : A1 args.toList = some x) (hl : Bz s x = [p]) :
 ∃ y, args = #[y] ∧ ∃ o, Bu y = some o ∧ s.ev o = p := by
 obtain ⟨l⟩ := args;cases x with
 | nil => simp [Bz] at hl
 | cons o x =>
   cases x with
   | cons o' x => simp [Bz] at hl
   | nil =>
     cases l with
     | nil => simp [A1, Au] at h
     | cons y l =>
       obtain ⟨o2, zs, e, h1, h2⟩ := Bd (show Au (Bu y :: l.map Bu) = some [o] from h);cases e;cases l with
       | nil => exact ⟨y, rfl, o, h1, by simpa [Bz] using hl⟩
       | cons y' l =>
         obtain ⟨_, _, e, _, _⟩ := Bd (show Au (Bu y' :: l.map Bu) = some [] from h2);cases e
theorem Nl {s : FS} {args : Array Operand} {x : List Opd} {p q : SV} (h : A1 args.toList = some x) (hl : Bz s x = [p, q]) :
 ∃ y z, args = #[y, z] ∧ (∃ o, Bu y = some o ∧ s.ev o = p) ∧ (∃ o, Bu z = some o ∧ s.ev o = q) := by
 obtain ⟨l⟩ := args;cases x with
 | nil => simp [Bz] at hl
 | cons o x =>
   cases l with
   | nil => simp [A1, Au] at h
   | cons y l =>
     obtain ⟨o2, zs, e, h1, h2⟩ := Bd (show Au (Bu y :: l.map Bu) = some (o :: x) from h);cases e;simp only [Bz, List.cons.injEq] at hl;obtain ⟨z, e, hz⟩ := Ik (s := s) (args := ⟨l⟩) (x := x) (p := q) h2 hl.2;cases e;exact ⟨y, z, rfl, ⟨o, h1, hl.1⟩, hz⟩
theorem Ad9 {o : Oper} {c : Call} {b : Builtin} {m : Sem Value} (ho : o.op = .call c) (hc : c.callee = .builtin b)
 (hm : ∀ consts, builtin b c.argTypes o.type consts (c.args.map a.eval) = (do pure (Next.value (← m)))) : execOp a.eval o = (do pure (Next.value (← m))) := by
 unfold execOp;simp only [ho, resolve, hc, pure_bind, invoke, hm]
set_option maxHeartbeats 1000000 in
theorem Nm {o : Oper} {k : Kd} {x : List Opd} (hk : J7 P o = some (k, x)) (hc1 : ∀ f, k ≠ .call f) (hc2 : k ≠ .callv) (hR : RelR F N ρ s a w) (h : An (o.dst.getD 0) s.h k (Bz s x) K) : OpOk P F N s a w o K := by
 obtain ⟨dst, op, type, pos, after, guard⟩ := o;have ht := hR.tm;cases op <;> simp only [J7] at hk <;> (try cases hk)
 case move y =>
  obtain ⟨hk1, hk2⟩ := Ao hk; subst hk1;obtain ⟨z, rfl, hz⟩ := Fh hk2;exact ⟨_, w, _, _, [], ρ, rfl, .inl rfl, h, hR, Ah hz ht⟩
 case assign y =>
  obtain ⟨hk1, hk2⟩ := Ao hk; subst hk1;obtain ⟨z, rfl, hz⟩ := Fh hk2;exact ⟨_, w, _, _, [], ρ, rfl, .inl rfl, h, hR, Ah hz ht⟩
 case pick c p q =>
  obtain ⟨hk1, hk2⟩ := Ao hk; subst hk1;obtain ⟨y, u, v, rfl, h1, h2, h3⟩ := A8z hk2;obtain ⟨r, z, g1, g2, g3⟩ := Ax6 (P := P) (w := w) (Ah h1 ht) (Ah h2 ht) (Ah h3 ht) h;exact ⟨_, w, _, _, [], ρ, g1, .inl rfl, g2, hR, g3⟩
 case alloc t =>
  split at hk
  · rename_i z hz;cases hk;exact .of_mak rfl (A43 hR hz h)
  · cases hk
 case box t y =>
  obtain ⟨hk1, hk2⟩ := Ao hk; subst hk1;obtain ⟨z, rfl, hz⟩ := Fh hk2;simp only [An, Bz] at h;exact .of_mak rfl (A6x hR (Ah hz ht) h.1 h.2)
 case build t parts =>
  split at hk
  · rename_i fs hu;split at hk
    · rename_i hb;obtain ⟨hk1, hk2⟩ := Ao hk; subst hk1;simp only [Bool.and_eq_true, decide_eq_true_eq, List.all_eq_true] at hb;obtain ⟨⟨⟨⟨b1, b2⟩, b3⟩, b4⟩, b5⟩ := hb;simp only [An] at h;exact .of_tells hR rfl (A6z hR hu b1 b3 (fun p hp => by simpa using b4 p hp) b5 hk2 h.1 h.2.1 h.2.2)
    · cases hk
  · rename_i n e hu;split at hk
    · rename_i sz hsz;split at hk
      · rename_i hb;obtain ⟨hk1, hk2⟩ := Ao hk; subst hk1;simp only [Bool.and_eq_true, decide_eq_true_eq, List.all_eq_true] at hb;obtain ⟨⟨⟨b1, b2⟩, b3⟩, b4⟩ := hb;have hs : ∃ size, Ai P e = some size := by
         cases he : Ai P e with
         | none => rw [he, hsz] at b3; cases b3
         | some size => exact ⟨size, rfl⟩
        obtain ⟨size, hs⟩ := hs;simp only [An] at h;rw [At8 hs] at h;exact .of_tells hR rfl (A02 hR hu hs b1 (fun p hp => by simpa using b2 p hp) b4 hk2 h.1 h.2)
      · cases hk
    · cases hk
  · cases hk
 case buildSlice t len parts =>
  split at hk
  · rename_i e hu;split at hk
    · rename_i sz hsz;split at hk
      · rename_i hb;obtain ⟨hk1, hk2⟩ := Ao hk; subst hk1;simp only [Bool.and_eq_true, decide_eq_true_eq, List.all_eq_true] at hb;obtain ⟨⟨⟨⟨b1, b2⟩, b3⟩, b4⟩, b5⟩ := hb;simp only [An] at h;exact .of_mak rfl (A6t hR hu hsz b3 b1 (fun p hp => by simpa using b2 p hp) b4 b5 hk2 h)
      · cases hk
    · cases hk
  · cases hk
 case load t y =>
  split at hk
  · rename_i sz ag hsz hag;split at hk
    · cases hk
    · rename_i hne;obtain ⟨hk1, hk2⟩ := Ao hk; subst hk1;obtain ⟨z, rfl, hz⟩ := Fh hk2;obtain ⟨v, r, g1, g2, g3⟩ := Ak3 (P := P) hR (Ah hz ht) (by omega) hsz hag h;exact .of_tells hR rfl (.mk g1 g2 g3)
  · cases hk
 case store t y z =>
  split at hk
  · rename_i sz hsz;obtain ⟨hk1, hk2⟩ := Ao hk; subst hk1;obtain ⟨p, q, rfl, h1, h2⟩ := Kl hk2;obtain ⟨w', hu, g1, g2, g3⟩ := A8l (P := P) hR (Ah h1 ht) (Ah h2 ht) hsz h;refine ⟨.skip, w', undef, .dead, hu, ρ, ?_, .inr ⟨rfl, rfl⟩, g2, g3, by simp only [Conc]⟩;show ((do Instr.storeAt t (a.eval y) (a.eval z); pure .skip : Sem Next)).run P w = _;rw [Ab g1]; rfl
  · cases hk
 case nilCheck y =>
  obtain ⟨hk1, hk2⟩ := Ao hk; subst hk1;obtain ⟨z, rfl, hz⟩ := Fh hk2;have hc := Ah (s := s) (a := a) hz ht;simp only [Bz] at h;have h0 : An 0 s.h .nilc [s.ev z] K := h;obtain ⟨r, g1, _, g2⟩ := Ayx (P := P) (w := w) hc h0;exact ⟨_, w, _, _, [], ρ, g1, .inl rfl, g2, hR, hc⟩
 case binOp op t y z yt =>
  split at hk
  · rename_i hu;obtain ⟨hk1, hk2⟩ := Ao hk; subst hk1;obtain ⟨p, q, rfl, h1, h2⟩ := Kl hk2;exact .of_tells hR rfl (Avk (Ah h1 ht) (Ah h2 ht) h y z)
  · rename_i hu;obtain ⟨hk1, hk2⟩ := Ao hk; subst hk1;obtain ⟨p, q, rfl, h1, h2⟩ := Kl hk2;exact .of_tells hR rfl (Avk (Ah h1 ht) (Ah h2 ht) h y z)
  · rename_i hu;obtain ⟨hk1, hk2⟩ := Ao hk; subst hk1;obtain ⟨p, q, rfl, h1, h2⟩ := Kl hk2;have g1 := Ah (s := s) (a := a) h1 ht;have g2 := Ah (s := s) (a := a) h2 ht;simp only [Bz] at h;generalize s.ev p = pp at h g1;generalize s.ev q = qq at h g2;simp only [An] at h;split at h
    · rename_i hl; cases hl;exact .of_tells hR rfl (Avp hu g1 g2 h y z)
    · exact h.elim
  · rename_i e hu;have nilv : ∀ q : Operand, Aci q = true → a.eval q = .slice none 0 0 := fun q hq => by
     unfold Aci at hq; split at hq
     · rfl
     · cases hq
    have key : ∀ (neg : Bool) (op : BinOp), op = (if neg then .neq else .eql) → Aci z = true → An (dst.getD 0) s.h (.eqn neg) (Bz s x) K → A1 [y] = some x → Tells P (vw F w ρ s) ρ w (do eqGuard op t y z (a.eval y) (a.eval z); binOp op t (a.eval y) (a.eval z)) K := fun neg op hop hg h hk2 => by
     obtain ⟨p, rfl, h1⟩ := Fh hk2;have g1 := Ah (s := s) (a := a) h1 ht;simp only [Bz] at h;generalize s.ev p = pp at h g1;simp only [An] at h;rw [nilv _ hg];split at h
     · rename_i hl; cases hl;exact Auv (neg := neg) hR hu g1 rfl (by intro l; simp) h y z op hop
     · rename_i n hl; cases hl;cases he : G8 (s.h n) with
       | none => rw [he] at h; exact h.elim
       | some es => rw [he] at h; exact Auv (neg := neg) (x := .os n) hR hu g1 (by simp [C1, he]) (by intro l; simp) h y z op hop
     · exact h.elim
    split at hk
    · rename_i hg;obtain ⟨hk1, hk2⟩ := Ao hk; subst hk1;exact .of_tells hR rfl (key false _ rfl hg h hk2)
    · rename_i hg;obtain ⟨hk1, hk2⟩ := Ao hk; subst hk1;exact .of_tells hR rfl (key true _ rfl hg h hk2)
    · cases hk
  · rename_i e hu;have nilv : ∀ q : Operand, Acg q = true → a.eval q = .pointer none := fun q hq => by
     unfold Acg at hq; split at hq
     · rfl
     · cases hq
    have key : ∀ (neg : Bool) (op : BinOp), op = (if neg then .neq else .eql) → Acg z = true → An (dst.getD 0) s.h (.eqv neg []) (Bz s x) K → A1 [y] = some x → Tells P (vw F w ρ s) ρ w (do eqGuard op t y z (a.eval y) (a.eval z); binOp op t (a.eval y) (a.eval z)) K := fun neg op hop hg h hk2 => by
     obtain ⟨p, rfl, h1⟩ := Fh hk2;have g1 := Ah (s := s) (a := a) h1 ht;simp only [Bz] at h;generalize s.ev p = pp at h g1;simp only [An] at h;rw [nilv _ hg];exact A0b hu g1 h y z op hop
    split at hk
    · rename_i hg;obtain ⟨hk1, hk2⟩ := Ao hk; subst hk1;exact .of_tells hR rfl (key false _ rfl hg h hk2)
    · rename_i hg;obtain ⟨hk1, hk2⟩ := Ao hk; subst hk1;exact .of_tells hR rfl (key true _ rfl hg h hk2)
    · cases hk
  · rename_i hu;have nilv : ∀ q : Operand, Ach q = true → a.eval q = .nilFunc := fun q hq => by
     unfold Ach at hq; split at hq
     · rfl
     · cases hq
    have key : ∀ (neg : Bool) (op : BinOp), op = (if neg then .neq else .eql) → Ach z = true → An (dst.getD 0) s.h (.eqv neg [.other]) (Bz s x) K → A1 [y] = some x → Tells P (vw F w ρ s) ρ w (do eqGuard op t y z (a.eval y) (a.eval z); binOp op t (a.eval y) (a.eval z)) K := fun neg op hop hg h hk2 => by
     obtain ⟨p, rfl, h1⟩ := Fh hk2;have g1 := Ah (s := s) (a := a) h1 ht;simp only [Bz] at h;generalize s.ev p = pp at h g1;simp only [An] at h;rw [nilv _ hg];exact A0e hu g1 h y z op hop
    split at hk
    · rename_i hg;obtain ⟨hk1, hk2⟩ := Ao hk; subst hk1;exact .of_tells hR rfl (key false _ rfl hg h hk2)
    · rename_i hg;obtain ⟨hk1, hk2⟩ := Ao hk; subst hk1;exact .of_tells hR rfl (key true _ rfl hg h hk2)
    · cases hk
  · rename_i fs hu;split at hk
    · cases hk
    · rename_i hg;split at hk
      · rename_i ks hks;obtain ⟨hk1, hk2⟩ := Ao hk; subst hk1;obtain ⟨p, q, rfl, h1, h2⟩ := Kl hk2;simp only [An, Bz] at h;exact .of_tells hR rfl (Acv (neg := false) rfl (.inl ⟨fs, hu⟩) (by simpa using hg) hks (Ah h1 ht) (Ah h2 ht) h.1 h.2.1 h.2.2)
      · rename_i ks hks;obtain ⟨hk1, hk2⟩ := Ao hk; subst hk1;obtain ⟨p, q, rfl, h1, h2⟩ := Kl hk2;simp only [An, Bz] at h;exact .of_tells hR rfl (Acv (neg := true) rfl (.inl ⟨fs, hu⟩) (by simpa using hg) hks (Ah h1 ht) (Ah h2 ht) h.1 h.2.1 h.2.2)
      · cases hk
  · rename_i n e hu;split at hk
    · cases hk
    · rename_i hg;split at hk
      · rename_i ks hks;obtain ⟨hk1, hk2⟩ := Ao hk; subst hk1;obtain ⟨p, q, rfl, h1, h2⟩ := Kl hk2;simp only [An, Bz] at h;exact .of_tells hR rfl (Acv (neg := false) rfl (.inr ⟨n, e, hu⟩) (by simpa using hg) hks (Ah h1 ht) (Ah h2 ht) h.1 h.2.1 h.2.2)
      · rename_i ks hks;obtain ⟨hk1, hk2⟩ := Ao hk; subst hk1;obtain ⟨p, q, rfl, h1, h2⟩ := Kl hk2;simp only [An, Bz] at h;exact .of_tells hR rfl (Acv (neg := true) rfl (.inr ⟨n, e, hu⟩) (by simpa using hg) hks (Ah h1 ht) (Ah h2 ht) h.1 h.2.1 h.2.2)
      · cases hk
  · cases hk
 case unOp op t y =>
  obtain ⟨hk1, hk2⟩ := Ao hk; subst hk1;obtain ⟨z, rfl, hz⟩ := Fh hk2;exact .of_tells hR rfl (A8c (Ah hz ht) h)
 case convert src dst y =>
  split at hk
  · rename_i k1 k2 hs hd;obtain ⟨hk1, hk2⟩ := Ao hk; subst hk1;obtain ⟨z, rfl, hz⟩ := Fh hk2;have g1 := Ah (s := s) (a := a) hz ht;simp only [Bz] at h;generalize s.ev z = pp at h g1;simp only [An] at h;split at h
    · rename_i hl; cases hl;have := Fi g1;refine .of_tells hR (m := convert src dst (a.eval y)) rfl (.mk ?_ h Dj);rw [this];unfold convert;rw [Ab (Fw.run_underlying hs w), Ab (Fw.run_underlying hd w)];rfl
    · exact h.elim
  · rename_i k1 hs hd;obtain ⟨hk1, hk2⟩ := Ao hk; subst hk1;obtain ⟨z, rfl, hz⟩ := Fh hk2;have g1 := Ah (s := s) (a := a) hz ht;simp only [Bz] at h;generalize s.ev z = pp at h g1;simp only [An] at h;split at h
    · rename_i j n hl; cases hl;have := Fi g1;refine .of_tells hR (m := convert src dst (a.eval y)) rfl (.mk (v := .string (Utf8.encode n)) ?_ h Ts);rw [this];unfold convert;rw [Ab (Fw.run_underlying hs w), Ab (Fw.run_underlying hd w)];rfl
    · exact h.elim
  · rename_i hs hd;obtain ⟨hk1, hk2⟩ := Ao hk; subst hk1;obtain ⟨z, rfl, hz⟩ := Fh hk2;have g1 := Ah (s := s) (a := a) hz ht;simp only [Bz] at h;generalize s.ev z = pp at h g1;simp only [An] at h;split at h
    · rename_i hl; cases hl;have := M6 g1;refine .of_tells hR (m := convert src dst (a.eval y)) rfl (.mk ?_ h Ts);rw [this];unfold convert;rw [Ab (Fw.run_underlying hs w), Ab (Fw.run_underlying hd w)];rfl
    · exact h.elim
  · rename_i e hs hd;split at hk
    · rename_i he;obtain ⟨hk1, hk2⟩ := Ao hk; subst hk1;obtain ⟨z, rfl, hz⟩ := Fh hk2;have g1 := Ah (s := s) (a := a) hz ht;simp only [Bz] at h;generalize s.ev z = pp at h g1;simp only [An] at h;split at h
      · rename_i hl; cases hl;have hv := M6 g1;refine .of_mak (m := convert src dst (a.eval y)) rfl ?_;rw [hv];exact A3j hR hs hd (Rj he) h
      · exact h.elim
    · cases hk
  · rename_i e hs hd;split at hk
    · rename_i he;obtain ⟨hk1, hk2⟩ := Ao hk; subst hk1;obtain ⟨z, rfl, hz⟩ := Fh hk2;have g1 := Ah (s := s) (a := a) hz ht;simp only [Bz] at h;generalize s.ev z = pp at h g1;simp only [An] at h;split at h
      · rename_i hl; cases hl;exact .of_tells hR rfl (Avt hR hs (Rj he) hd g1 (by simp) h)
      · rename_i hl; cases hl;exact .of_tells hR rfl (Avt hR hs (Rj he) hd g1 (by simp) h)
      · exact h.elim
    · cases hk
  · rename_i e e' hs hd;split at hk
    · rename_i he;obtain ⟨hk1, hk2⟩ := Ao hk; subst hk1;obtain ⟨z, rfl, hz⟩ := Fh hk2;have g1 := Ah (s := s) (a := a) hz ht;simp only [Bz] at h;generalize s.ev z = pp at h g1;simp only [An] at h;simp only [Bool.and_eq_true, beq_iff_eq] at he;split at h
      · rename_i n hl; cases hl;obtain ⟨he1, he2⟩ := he;subst he1;obtain ⟨w', r1, r2, r3, r4⟩ := A7f hR hs (Rj he2) g1 h;exact .of_mak (m := convert src src (a.eval y)) rfl ⟨_, w', _, [], ρ, r1, r2, r3, r4⟩
      · exact h.elim
    · cases hk
  · cases hk
 case range t y =>
  split at hk
  · rename_i hs;obtain ⟨hk1, hk2⟩ := Ao hk; subst hk1;obtain ⟨z, rfl, hz⟩ := Fh hk2;have g1 := Ah (s := s) (a := a) hz ht;simp only [Bz] at h;generalize s.ev z = pp at h g1;simp only [An] at h;split at h
    · rename_i hl; cases hl;have hv := M6 g1;refine .of_mak (m := Instr.range t (a.eval y)) rfl ?_;rw [hv];exact A3l hR hs h
    · exact h.elim
  · cases hk
 case next y b =>
  split at hk
  · rename_i hb;obtain ⟨hk1, hk2⟩ := Ao hk; subst hk1;obtain ⟨z, rfl, hz⟩ := Fh hk2;have g1 := Ah (s := s) (a := a) hz ht;simp only [Bz] at h;generalize s.ev z = pp at h g1;simp only [An] at h;subst hb;exact .of_mak (m := Instr.next (a.eval y) true _) rfl (A41 hR g1 h)
  · cases hk
 case makeFunc fn first cap =>
  split at hk
  · rename_i hf;obtain ⟨hk1, hk2⟩ := Ao hk; subst hk1;have hc := Lt (s := s) (a := a) hk2 ht;simp only [An] at h;have hf' : first = #[] := by simpa using hf
    subst hf';refine ⟨.value (.func fn #[] (cap.map a.eval)), w, .func fn #[] (cap.map a.eval), _, [], ρ, by simp [execOp, Instr.makeFunc], .inl rfl, h, hR, ?_⟩;simp only [Conc];refine ⟨(cap.map a.eval).toList, rfl, ?_⟩;rw [Array.toList_map]; exact hc
  · cases hk
 case makeSlice t l c =>
  split at hk
  · rename_i e hu;split at hk
    · rename_i z b sz hz hb hs;split at hk
      · rename_i hc;obtain ⟨hk1, hk2⟩ := Ao hk; subst hk1;obtain ⟨p, q, rfl, h1, h2⟩ := Kl hk2;have g1 := Ah (s := s) (a := a) h1 ht;have g2 := Ah (s := s) (a := a) h2 ht;simp only [Bz] at h;generalize s.ev p = pp at h g1;generalize s.ev q = qq at h g2;simp only [An] at h;split at h
        · rename_i hl; cases hl;refine .of_mak (m := Instr.makeSlice t (a.eval l) (a.eval c)) rfl ?_;rw [Fi g1, Fi g2];exact A44 hR hu hz hb hs hc.1 hc.2.1 hc.2.2 h.1 h.2.1 h.2.2.1 h.2.2.2
        · exact h.elim
      · cases hk
    · cases hk
  · cases hk
 case slice t y lo hi mx =>
  split at hk
  · rename_i hu;split at hk
    · cases hk
    · rename_i hmx;obtain ⟨hk1, hk2⟩ := Ao hk; subst hk1;obtain ⟨z, zs, rfl, hz, hzs⟩ := Bd (show Au (Bu y :: (lo.toList ++ hi.toList).map Bu) = some x from hk2);have g1 := Ah (s := s) (a := a) hz ht;simp only [Bz] at h;generalize s.ev z = pp at h g1;simp only [An] at h;split at h
      · rename_i st l' hl; cases hl;have hmx' : mx = none := by cases mx <;> simp_all
        subst hmx';unfold Ady at h;split at h
        · rename_i i l2 e1;obtain ⟨b1, ys2, hy2, rfl⟩ := H2 (lo := lo) (d := 0) (rest := hi.toList) hzs ht e1;unfold Ahd at h;split at h
          · rename_i j l3 e2;obtain ⟨b2, ys3, hy3, rfl⟩ := H2 (lo := hi) (d := st.length) (rest := []) (by simpa using hy2) ht e2;refine .of_tells hR (m := Instr.sliceAt t (a.eval y) (lo.map a.eval) (hi.map a.eval) none) rfl (.mk ?_ h.2.2.2 Ts);rw [M6 g1];exact A27 hu b1 b2 h.1 h.2.1 h.2.2.1
          · exact h.elim
        · exact h.elim
      · exact h.elim
  · rename_i e hu;split at hk
    · rename_i sz hsz;split at hk
      · cases hk
      · rename_i hmx;obtain ⟨hk1, hk2⟩ := Ao hk; subst hk1;obtain ⟨z, zs, rfl, hz, hzs⟩ := Bd (show Au (Bu y :: (lo.toList ++ hi.toList ++ mx.toList).map Bu) = some x from hk2);have g1 := Ah (s := s) (a := a) hz ht;simp only [Bz, An] at h;unfold Pd at h;split at h
        · rename_i es hes;unfold Ad1 at h;split at h
          · rename_i i l2 e1;obtain ⟨b1, ys2, hy2, rfl⟩ := H2 (lo := lo) (d := 0) (rest := hi.toList ++ mx.toList) (by simpa [A1] using hzs) ht e1;unfold Ad0 at h;split at h
            · rename_i j l3 e2;obtain ⟨b2, ys3, hy3, rfl⟩ := H2 (lo := hi) (d := es.length) (rest := mx.toList) hy2 ht e2;unfold Adz at h;split at h
              · rename_i m l4 e3;obtain ⟨b3, ys4, hy4, rfl⟩ := H2 (lo := mx) (d := es.length) (rest := []) (by simpa using hy3) ht e3;refine .of_mak (m := Instr.sliceAt t (a.eval y) (lo.map a.eval) (hi.map a.eval) (mx.map a.eval)) rfl ?_;exact A3b hR hu hsz g1 hes b1 b2 b3 (by intro h1; simp only [h1, Bool.true_and, Bool.not_eq_true, Bool.not_eq_false'] at hmx; exact hmx) h.1 h.2.1 h.2.2.1 h.2.2.2.1 h.2.2.2.2
              · exact h.elim
            · exact h.elim
          · exact h.elim
        · exact h.elim
    · cases hk
  · cases hk
 case fieldAddr t y f =>
  split at hk
  · rename_i fs hu;split at hk
    · rename_i fd hf;split at hk
      · cases hk
      · rename_i hne;obtain ⟨hk1, hk2⟩ := Ao hk; subst hk1;obtain ⟨z, rfl, hz⟩ := Fh hk2;exact .of_tells hR rfl (Ba9 hu hf hne (Ah hz ht) h)
    · cases hk
  · cases hk
 case field t y f =>
  split at hk
  · rename_i fs hu;split at hk
    · rename_i fd hf;split at hk
      · rename_i sz ag hsz hag;split at hk
        · cases hk
        · rename_i hne;obtain ⟨hk1, hk2⟩ := Ao hk; subst hk1;obtain ⟨z, rfl, hz⟩ := Fh hk2;simp only [An, Bz] at h;exact .of_tells hR rfl (A53 hu hf (by omega) hsz hag (Ah hz ht) h.1 h.2)
      · cases hk
    · cases hk
  · cases hk
 case indexAddr t y ix =>
  split at hk
  · rename_i e hu;split at hk
    · rename_i sz hsz;obtain ⟨hk1, hk2⟩ := Ao hk; subst hk1;obtain ⟨p, q, rfl, h1, h2⟩ := Kl hk2;have g1 := Ah (s := s) (a := a) h1 ht;have g2 := Ah (s := s) (a := a) h2 ht;simp only [Bz] at h;generalize s.ev q = qq at h g2;simp only [An] at h;split at h
      · rename_i hl; cases hl;refine .of_tells hR (m := Instr.indexAt t (a.eval y) (a.eval ix)) rfl ?_;rw [Fi g2];exact A5t hR hu hsz g1 h
      · exact h.elim
    · cases hk
  · rename_i n e hu;split at hk
    · rename_i sz j hsz hj;split at hk
      · rename_i hc;obtain ⟨hk1, hk2⟩ := Ao hk; subst hk1;obtain ⟨p, rfl, h1⟩ := Fh hk2;have g1 := Ah (s := s) (a := a) h1 ht;simp only [An, Bz] at h;have : ∃ k, ix = .const (.int k j) := by
         unfold R3 at hj;split at hj
         · cases hj; exact ⟨_, rfl⟩
         · cases hj
        obtain ⟨k, rfl⟩ := this;exact .of_tells hR (m := Instr.indexAt t (a.eval y) (.int k j)) rfl (Aic hu hsz hc.1 hc.2.1 g1 h)
      · cases hk
    · rename_i sz hsz hj;split at hk
      · rename_i hc;obtain ⟨hk1, hk2⟩ := Ao hk; subst hk1;obtain ⟨p, q, rfl, h1, h2⟩ := Kl hk2;have g1 := Ah (s := s) (a := a) h1 ht;have g2 := Ah (s := s) (a := a) h2 ht;simp only [Bz] at h;generalize s.ev q = qq at h g2;simp only [An] at h;split at h
        · rename_i hl; cases hl;refine .of_tells hR (m := Instr.indexAt t (a.eval y) (a.eval ix)) rfl ?_;rw [Fi g2];exact A5v hu hsz g1 h
        · exact h.elim
      · cases hk
    · cases hk
  · cases hk
 case index t y ix =>
  split at hk
  · rename_i hu;obtain ⟨hk1, hk2⟩ := Ao hk; subst hk1;obtain ⟨p, q, rfl, h1, h2⟩ := Kl hk2;have g1 := Ah (s := s) (a := a) h1 ht;have g2 := Ah (s := s) (a := a) h2 ht;simp only [Bz] at h;generalize s.ev p = pp at h g1;generalize s.ev q = qq at h g2;simp only [An] at h;split at h
    · rename_i hl; cases hl;refine .of_tells hR (m := Instr.index t (a.eval y) (a.eval ix)) rfl ?_;rw [Fi g2, M6 g1];exact A5i hu h.1 h.2.1 h.2.2
    · exact h.elim
  · rename_i n e hu;split at hk
    · rename_i sz ag j hsz hag hj;split at hk
      · rename_i hc;obtain ⟨hk1, hk2⟩ := Ao hk; subst hk1;obtain ⟨p, rfl, h1⟩ := Fh hk2;have g1 := Ah (s := s) (a := a) h1 ht;simp only [An, Bz] at h;have : ∃ k, ix = .const (.int k j) := by
         unfold R3 at hj;split at hj
         · cases hj; exact ⟨_, rfl⟩
         · cases hj
        obtain ⟨k, rfl⟩ := this;exact .of_tells hR (m := Instr.index t (a.eval y) (.int k j)) rfl (Az3 hu hc.2.2 hsz hag hc.1 hc.2.1 g1 h.1 h.2)
      · cases hk
    · rename_i sz ag hsz hag hj;split at hk
      · cases hk
      · rename_i hc;obtain ⟨hk1, hk2⟩ := Ao hk; subst hk1;obtain ⟨p, q, rfl, h1, h2⟩ := Kl hk2;have g1 := Ah (s := s) (a := a) h1 ht;have g2 := Ah (s := s) (a := a) h2 ht;simp only [Bz] at h;generalize s.ev q = qq at h g2;simp only [An] at h;split at h
        · rename_i hl; cases hl;refine .of_tells hR (m := Instr.index t (a.eval y) (a.eval ix)) rfl ?_;rw [Fi g2];exact A5j hu (by omega) hsz hag h.1 h.2.1 g1 h.2.2.1 h.2.2.2
        · exact h.elim
    · cases hk
  · cases hk
 case extract y j =>
  obtain ⟨hk1, hk2⟩ := Ao hk; subst hk1;obtain ⟨z, rfl, hz⟩ := Fh hk2;have g1 := Ah (s := s) (a := a) hz ht;simp only [Bz] at h;generalize s.ev z = pp at h g1;simp only [An] at h;split at h
  · rename_i hl; cases hl;exact .of_tells hR (m := Instr.extract (a.eval y) j) rfl (A6c g1 h)
  · exact h.elim
 case call c =>
  have he : ∀ {b : Builtin} {m : Sem Value}, c.callee = .builtin b → (∀ consts, builtin b c.argTypes type consts (c.args.map a.eval) = (do pure (Next.value (← m)))) →
   execOp a.eval ⟨dst, .call c, type, pos, after, guard⟩ = (do pure (Next.value (← m))) := fun h1 h2 => Ad9 (c := c) rfl h1 h2
  split at hk
  · obtain ⟨hk1, hk2⟩ := Ao hk; exact absurd hk1 (hc1 _)
  · obtain ⟨hk1, hk2⟩ := Ao hk; exact absurd hk1 hc2
  · rename_i hcal;split at hk
    · rename_i t rest htl;have hty : c.argTypes = ⟨t :: rest⟩ := by rw [← htl]
      split at hk
      · rename_i hu;obtain ⟨hk1, hk2⟩ := Ao hk; subst hk1;simp only [An] at h;split at h
        · rename_i l hl;obtain ⟨y, hargs, _, hy⟩ := Ik hk2 hl;have g1 := Ah (s := s) (a := a) hy.1 ht;rw [hy.2] at g1;refine .of_tells hR (he hcal fun _ => ?_) (Aza (rest := rest) (ty := type) hu g1 h);simp [hty, hargs, builtin]
        · exact h.elim
      · rename_i e hu;obtain ⟨hk1, hk2⟩ := Ao hk; subst hk1;simp only [An] at h;split at h
        · rename_i hl;obtain ⟨y, hargs, _, hy⟩ := Ik hk2 hl;have g1 := Ah (s := s) (a := a) hy.1 ht;rw [hy.2] at g1;refine .of_tells hR (he hcal fun _ => ?_) (Atd (rest := rest) (ty := type) hR g1 ⟨e, hu⟩ (by simp) h);simp [hty, hargs, builtin]
        · rename_i hl;obtain ⟨y, hargs, _, hy⟩ := Ik hk2 hl;have g1 := Ah (s := s) (a := a) hy.1 ht;rw [hy.2] at g1;refine .of_tells hR (he hcal fun _ => ?_) (Atd (rest := rest) (ty := type) hR g1 ⟨e, hu⟩ (by simp) h);simp [hty, hargs, builtin]
        · rename_i hl;obtain ⟨y, hargs, _, hy⟩ := Ik hk2 hl;have g1 := Ah (s := s) (a := a) hy.1 ht;rw [hy.2] at g1;refine .of_tells hR (he hcal fun _ => ?_) (A48 (rest := rest) (ty := type) g1 ⟨e, hu⟩ h);simp [hty, hargs, builtin]
        · rename_i hl;obtain ⟨y, hargs, _, hy⟩ := Ik hk2 hl;have g1 := Ah (s := s) (a := a) hy.1 ht;rw [hy.2] at g1;refine .of_tells hR (he hcal fun _ => ?_) (A49 (rest := rest) (ty := type) g1 ⟨e, hu⟩ h);simp [hty, hargs, builtin]
        · exact h.elim
      · cases hk
    · cases hk
  · rename_i hcal;split at hk
    · rename_i t u htl;have hty : c.argTypes = #[t, u] := by rw [← htl]
      split at hk
      · rename_i e hu;split at hk
        · rename_i hrow;split at hk
          · rename_i sz b z hsz hb hz;split at hk
            · rename_i hcond;obtain ⟨hk1, hk2⟩ := Ao hk; subst hk1;simp only [An] at h;split at h
              · rename_i p q hl;obtain ⟨y1, y2, hargs, ⟨_, hy1⟩, ⟨_, hy2⟩⟩ := Nl hk2 hl;have g1 := Ah (s := s) (a := a) hy1.1 ht;have g2 := Ah (s := s) (a := a) hy2.1 ht;rw [hy1.2] at g1;rw [hy2.2] at g2;have hT : AppT P t u e sz b := ⟨hu, Atk hrow, hsz, hb, ⟨z, hz, hcond.2.2.2⟩, hcond.1, hcond.2.1, hcond.2.2.1⟩
                have hmk : Y5 P F N s a w (Builtin.append_ #[t, u] type #[a.eval y1, a.eval y2]) K := by
                 by_cases hov : ∃ n z lo i, p = .ov n z lo i
                 · obtain ⟨n, z, lo, i, rfl⟩ := hov;obtain ⟨_, h2, h3⟩ : z = sz ∧ lo = 0 ∧ Qm (s.h n) n sz i (Fe s.h q) (Hg s.h q) K := h;exact A7j hT hR g1 g2 h2 h3
                 · exact A7m (ty := type) hT hR g1 g2 h fun n z lo i e => hov ⟨n, z, lo, i, e⟩
                refine .of_mak (he hcal fun _ => ?_) hmk;simp [hty, hargs, builtin]
              · exact h.elim
            · cases hk
          · cases hk
        · split at hk
          · rename_i hint;obtain ⟨ku, hku⟩ : ∃ ku, P.underlying u = some (.int ku) := by
             unfold Ah9 at hint; split at hint
             · exact ⟨_, by assumption⟩
             · cases hint
            split at hk
            · rename_i sz b z hsz hb hz;split at hk
              · rename_i hcond;obtain ⟨hk1, hk2⟩ := Ao hk; subst hk1;simp only [An] at h;split at h
                · rename_i p kk m hl;obtain ⟨y1, y2, hargs, ⟨_, hy1⟩, ⟨_, hy2⟩⟩ := Nl hk2 hl;have g1 := Ah (s := s) (a := a) hy1.1 ht;have g2 := Ah (s := s) (a := a) hy2.1 ht;rw [hy1.2] at g1;rw [hy2.2] at g2;have e2 := Fi g2;refine .of_mak (he hcal fun _ => ?_) (A7i (ty := type) (k := kk) ⟨hu, .inl ⟨e, hu⟩, hsz, hb, ⟨z, hz, hcond.2.2.2⟩, hcond.1, hcond.2.1, hcond.2.2.1⟩ hz hcond.2.2.2 hku hR g1 h);simp [hty, hargs, builtin, e2]
                · exact h.elim
              · cases hk
            · cases hk
          · cases hk
      · cases hk
    · cases hk
  · rename_i hcal;split at hk
    · rename_i t htl;have hty : c.argTypes = #[t] := by rw [← htl]
      split at hk
      · rename_i e hu;obtain ⟨hk1, hk2⟩ := Ao hk; subst hk1;simp only [An] at h;split at h
        · rename_i n hl;obtain ⟨y, hargs, _, hy⟩ := Ik hk2 hl;have g1 := Ah (s := s) (a := a) hy.1 ht;rw [hy.2] at g1;refine .of_mak (he hcal fun _ => ?_) (A6r (ty := type) hR hu g1 h);simp [hty, hargs, builtin]
        · exact h.elim
      · cases hk
    · cases hk
  · rename_i hcal;split at hk
    · rename_i t u htl;have hty : c.argTypes = #[t, u] := by rw [← htl]
      split at hk
      · rename_i e hu;split at hk
        · rename_i sz hsz;split at hk
          · rename_i hpos;obtain ⟨hk1, hk2⟩ := Ao hk; subst hk1;simp only [An] at h;split at h
            · rename_i p q hl;obtain ⟨y1, y2, hargs, ⟨_, hy1⟩, ⟨_, hy2⟩⟩ := Nl hk2 hl;have g1 := Ah (s := s) (a := a) hy1.1 ht;have g2 := Ah (s := s) (a := a) hy2.1 ht;rw [hy1.2] at g1;rw [hy2.2] at g2;refine .of_mak (he hcal fun _ => ?_) (A6l (ty := type) (u := u) hR hu hsz hpos g1 g2 h);simp [hty, hargs, builtin]
            · exact h.elim
          · cases hk
        · cases hk
      · cases hk
    · cases hk
  · rename_i hcal;split at hk
    · rename_i t htl;have hty : c.argTypes = #[t] := by rw [← htl]
      split at hk
      · rename_i e hu;split at hk
        · rename_i sz z hsz hz;split at hk
          · rename_i hpos;obtain ⟨hk1, hk2⟩ := Ao hk; subst hk1;simp only [An] at h;split at h
            · rename_i p hl;obtain ⟨y1, hargs, ⟨_, hy1⟩⟩ := Ik hk2 hl;have g1 := Ah (s := s) (a := a) hy1.1 ht;rw [hy1.2] at g1;refine .of_mak (he hcal fun _ => ?_) (A6q (ty := type) hR hu hsz hz hpos.2 hpos.1 g1 h);simp [hty, hargs, builtin]
            · exact h.elim
          · cases hk
        · cases hk
      · cases hk
    · cases hk
  · rename_i hcal;split at hk
    · obtain ⟨hk1, hk2⟩ := Ao hk; subst hk1;simp only [An] at h;split at h
      · rename_i p q hl;obtain ⟨y1, y2, hargs, ⟨_, hy1⟩, ⟨_, hy2⟩⟩ := Nl hk2 hl;have g1 := Ah (s := s) (a := a) hy1.1 ht;have g2 := Ah (s := s) (a := a) hy2.1 ht;rw [hy1.2] at g1;rw [hy2.2] at g2;refine .of_tells hR (he hcal fun _ => ?_) (Baa (ts := c.argTypes) (t := type) g1 g2 h);simp [hargs, builtin]
      · exact h.elim
    · cases hk
  · rename_i hcal;split at hk
    · obtain ⟨hk1, hk2⟩ := Ao hk; subst hk1;simp only [An] at h;split at h
      · rename_i p q hl;obtain ⟨y1, y2, hargs, ⟨_, hy1⟩, ⟨_, hy2⟩⟩ := Nl hk2 hl;have g1 := Ah (s := s) (a := a) hy1.1 ht;have g2 := Ah (s := s) (a := a) hy2.1 ht;rw [hy1.2] at g1;rw [hy2.2] at g2;refine .of_tells hR (he hcal fun _ => ?_) (Bab (ts := c.argTypes) (t := type) g1 g2 h);simp [hargs, builtin]
      · exact h.elim
    · cases hk
  · cases hk
theorem A5d {o : Oper} {sz : Nat} {lo hi : Bool} {x : List Opd} (hk : J7 P o = some (.slc sz lo hi false, x)) :
 ∃ t y lo' hi' e, o.op = .slice t y lo' hi' none ∧ lo'.isSome = lo ∧ hi'.isSome = hi ∧ P.underlying t = some (.slice e) ∧ Ai P e = some sz ∧ A1 (y :: (lo'.toList ++ hi'.toList)) = some x := by
 obtain ⟨dst, op, type, pos, after, guard⟩ := o;cases op <;> simp only [J7] at hk <;> (try cases hk)
 case slice t y lo' hi' mx =>
  split at hk
  · split at hk
    · cases hk
    · obtain ⟨e, _⟩ := Ao hk; cases e
  · rename_i e hu;split at hk
    · rename_i sz' hsz;split at hk
      · cases hk
      · obtain ⟨e1, h2⟩ := Ao hk;simp only [Kd.slc.injEq] at e1;obtain ⟨rfl, rfl, rfl, e4⟩ := e1;have : mx = none := by cases mx with
         | none => rfl
         | some _ => simp at e4
        subst this;exact ⟨t, y, lo', hi', e, rfl, rfl, rfl, hu, hsz, by simpa using h2⟩
    · cases hk
  · cases hk
 all_goals (repeat' (split at hk)) <;> first | cases hk | (obtain ⟨e, _⟩ := Ao hk; cases e)
theorem A5c {o : Oper} {sz : Nat} {x : List Opd} (hk : J7 P o = some (.slc sz true true true, x)) :
 ∃ t y lo' hi' m' e, o.op = .slice t y (some lo') (some hi') (some m') ∧ P.underlying t = some (.slice e) ∧ Ai P e = some sz ∧ A1 [y, lo', hi', m'] = some x := by
 obtain ⟨dst, op, type, pos, after, guard⟩ := o;cases op <;> simp only [J7] at hk <;> (try cases hk)
 case slice t y lo' hi' mx =>
  split at hk
  · split at hk
    · cases hk
    · obtain ⟨e, _⟩ := Ao hk; cases e
  · rename_i e hu;split at hk
    · rename_i sz' hsz;split at hk
      · cases hk
      · obtain ⟨e1, h2⟩ := Ao hk;simp only [Kd.slc.injEq] at e1;obtain ⟨rfl, e2, e3, e4⟩ := e1;cases lo' <;> simp at e2;cases hi' <;> simp at e3;cases mx <;> simp at e4;exact ⟨t, y, _, _, _, e, rfl, hu, hsz, by simpa using h2⟩
    · cases hk
  · cases hk
 all_goals (repeat' (split at hk)) <;> first | cases hk | (obtain ⟨e, _⟩ := Ao hk; cases e)
theorem A5e {o : Oper} {x : List Opd} (hk : J7 P o = some (.s2b, x)) :
 ∃ src dst y e, o.op = .convert src dst y ∧ P.underlying src = some .string ∧ P.underlying dst = some (.slice e) ∧ Anx P e = true ∧ A1 [y] = some x := by
 obtain ⟨dst, op, type, pos, after, guard⟩ := o;cases op <;> simp only [J7] at hk <;> (try cases hk)
 case convert src dst y =>
  split at hk
  all_goals (try split at hk)
  all_goals first | (cases hk; done) | (obtain ⟨e, h2⟩ := Ao hk; first | (cases e; done) | exact ⟨_, _, _, _, rfl, by assumption, by assumption, by assumption, h2⟩)
 all_goals (repeat' (split at hk)) <;> first | cases hk | (obtain ⟨e, _⟩ := Ao hk; cases e)
theorem Awz {o : Oper} {k : Kd} {v xx : Bool} {x : List Opd} (hk : J7 P o = some (k, x)) (hc1 : ∀ f, k ≠ .call f) (hc2 : k ≠ .callv) (hR : RelR F N ρ s a w) (h : An (o.dst.getD 0) s.h (Mz v xx k) (Bz s x) K) : OpOk P F N s a w o K := by
 have hself : Mz v xx k = k → OpOk P F N s a w o K := fun e => by rw [e] at h; exact Nm hk hc1 hc2 hR h
 have ht := hR.tm;unfold Mz at h hself;split at h
 · rename_i sz lo hi;obtain ⟨t, y, lo', hi', e, ho, rfl, rfl, hu, hsz, hx⟩ := A5d hk;have hold : An (o.dst.getD 0) s.h (.slc sz lo'.isSome hi'.isSome false) (Bz s x) K → OpOk P F N s a w o K := fun h => Nm hk hc1 hc2 hR h;obtain ⟨z, zs, rfl, hz, hzs⟩ := Bd (show Au (Bu y :: (lo'.toList ++ hi'.toList).map Bu) = some x from hx);have g1 := Ah (s := s) (a := a) hz ht;have hex : ∀ m K, Y5 P F N s a w m K → m = Instr.sliceAt t (a.eval y) (lo'.map a.eval) (hi'.map a.eval) none → OpOk P F N s a w o K := fun m K h1 h2 => by
    subst h2;obtain ⟨dst, op, type, pos, after, guard⟩ := o;simp only at ho; subst ho;exact .of_mak rfl h1
   split at h
   · -- a view
     simp only [Bz] at h hold;generalize s.ev z = zz at h hold g1;simp only [An] at h;unfold L6 at h;split at h
     · rename_i n;unfold Ahc at h;split at h
       · rename_i es i l2 hes e1;obtain ⟨b1, ys2, hy2, rfl⟩ := H2 (lo := lo') (d := 0) (rest := hi'.toList) (by simpa [A1] using hzs) ht e1;obtain ⟨hszz, h⟩ := h;unfold Ahb at h;split at h
         · rename_i j l3 e2;obtain ⟨b2, ys3, hy3, rfl⟩ := H2 (lo := hi') (d := es.length) (rest := []) (by simpa using hy2) ht e2;exact hex _ _ (Tells.mak hR (A23 hR hu hsz g1 hes hszz b1 b2 h.1 h.2.1 h.2.2.1 h.2.2.2)) rfl
         · exact h.elim
       · exact h.elim
     · exact hold (by simp only [An]; exact h)
     · rename_i n zz0 a0 b0;obtain ⟨rfl, rfl, hl, hh, h⟩ := h;obtain ⟨ql, rfl⟩ : ∃ q, lo' = some q := by cases lo' <;> simp_all
       obtain ⟨qh, rfl⟩ := (by cases hi' <;> simp_all : ∃ q, hi' = some q)
       obtain ⟨z1, zs1, rfl, hz1, hzs1⟩ := Bd (show Au (Bu ql :: [Bu qh]) = some zs from by simpa using hzs);obtain ⟨z2, zs2, rfl, hz2, hzs2⟩ := Bd (show Au (Bu qh :: []) = some zs1 from by simpa using hzs1);have hn2 : zs2 = [] := by simpa [Au] using hzs2.symm
       subst hn2;have g2 := Ah (s := s) (a := a) hz1 ht;have g3 := Ah (s := s) (a := a) hz2 ht;simp only [Bz] at h;generalize s.ev z1 = q1 at h g2;generalize s.ev z2 = q2 at h g3;unfold Axp at h;split at h
       · rename_i k1 i k2 j hl2;simp only [List.cons.injEq, and_true] at hl2;obtain ⟨rfl, rfl⟩ := hl2;have e2 := Fi g2;have e3 := Fi g3;exact hex _ _ (Tells.mak hR (Axo (ki := k1) (kj := k2) hR hu hsz g1 h)) (by rw [Option.map_some, Option.map_some, e2, e3])
       · exact h.elim
     · exact h.elim
   · split at h
     · -- s[:n]
       rename_i hc;have hlo : lo' = none := by cases lo' <;> simp_all
       have hhi : ∃ q, hi' = some q := by cases hi' <;> simp_all
       obtain ⟨q, rfl⟩ := hhi;subst hlo;obtain ⟨zq, zs', rfl, hzq, hzs'⟩ := Bd (show Au (Bu q :: List.map Bu []) = some zs from by simpa using hzs);have hn : zs' = [] := by simpa [Au] using hzs'.symm
       subst hn;have g2 := Ah (s := s) (a := a) hzq ht;simp only [Bz] at h hold;generalize s.ev z = zz at h hold g1;generalize s.ev zq = zqq at h hold g2;simp only [An] at h;split at h
       · rename_i x1 k1 j hl;simp only [List.cons.injEq, and_true] at hl;obtain ⟨rfl, rfl⟩ := hl;unfold Wn at h;split at h
         · rename_i n;rcases A21 (kh := k1) hR hu hsz g1 h with h | h
           · have e2 := Fi g2;exact hex _ _ h (by rw [Option.map_some, e2]; rfl)
           · exact hold (by simp only [An]; exact h)
         · exact hold (by simp only [An]; exact h)
         · exact h.elim
       all_goals first | exact h.elim | (rename_i hl; cases hl) | (rename_i hl _; cases hl)
     · exact hold h
 · rename_i sz;obtain ⟨t, y, l', h', m', e, ho, hu, hsz, hx⟩ := A5c hk;have hold : An (o.dst.getD 0) s.h (.slc sz true true true) (Bz s x) K → OpOk P F N s a w o K := fun h => Nm hk hc1 hc2 hR h;obtain ⟨z0, zs0, rfl, hz0, hzs0⟩ := Bd (show Au (Bu y :: [Bu l', Bu h', Bu m']) = some x from hx);obtain ⟨z1, zs1, rfl, hz1, hzs1⟩ := Bd (show Au (Bu l' :: [Bu h', Bu m']) = some zs0 from hzs0);obtain ⟨z2, zs2, rfl, hz2, hzs2⟩ := Bd (show Au (Bu h' :: [Bu m']) = some zs1 from hzs1);obtain ⟨z3, zs3, rfl, hz3, hzs3⟩ := Bd (show Au (Bu m' :: []) = some zs2 from hzs2);have hn3 : zs3 = [] := by simpa [Au] using hzs3.symm
   subst hn3;have g0 := Ah (s := s) (a := a) hz0 ht;have g1 := Ah (s := s) (a := a) hz1 ht;have g2 := Ah (s := s) (a := a) hz2 ht;have g3 := Ah (s := s) (a := a) hz3 ht;split at h
   · simp only [Bz] at h hold;generalize s.ev z0 = q0 at h g0 hold;generalize s.ev z1 = q1 at h g1 hold;generalize s.ev z2 = q2 at h g2 hold;generalize s.ev z3 = q3 at h g3 hold;simp only [An] at h;split at h
     · rename_i hl; cases hl
     · rename_i n k1 i k2 j k3 m hl;simp only [List.cons.injEq, and_true] at hl;obtain ⟨rfl, rfl, rfl, rfl⟩ := hl;have e1 := Fi g1;have e2 := Fi g2;have e3 := Fi g3;have hT := Tells.mak hR (Axn (ki := k1) (kj := k2) (km := k3) hR hu hsz g0 h);rw [← e1, ← e2, ← e3] at hT;obtain ⟨dst, op, type, pos, after, guard⟩ := o;simp only at ho; subst ho;exact .of_mak rfl hT
     · rename_i p i j m hno hl;simp only [List.cons.injEq, and_true] at hl;obtain ⟨rfl, rfl, rfl, rfl⟩ := hl;exact hold (by simp only [An]; exact h)
     · exact h.elim
   · exact hold h
 · obtain ⟨src, dst', y, e, ho, hs, hd, he, hx⟩ := A5e hk;split at h
   · obtain ⟨z, rfl, hz⟩ := Fh hx;have g1 := Ah (s := s) (a := a) hz ht;simp only [Bz] at h;generalize s.ev z = pp at h g1;simp only [An] at h;split at h
     · rename_i l hl; cases hl;have hv := M6 g1;obtain ⟨dst, op, type, pos, after, guard⟩ := o;simp only at ho; subst ho;refine .of_mak (m := convert src dst' (a.eval y)) rfl ?_;rw [hv];exact Axw hR hs hd (Rj he) h
     · exact h.elim
   · exact Nm hk hc1 hc2 hR h
 · exact Nm hk hc1 hc2 hR h
end Go.Proofs.YthiamojjhdcegaaGreat.Fw
