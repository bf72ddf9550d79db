/- What the functions that the law EntryMeets reaches compute. -/
import Derived.Test.YthleeikkpjiicaaDoorIr
import Derived.OpenShut
import Derived.ShutString
import Derived.ChangeOld
import Derived.SizedLaws
import Derived.ChangeOld
import Derived.Lib.Overlaps
import Derived.OpenShut
import Derived.ShutString
import Derived.SizedLaws
set_option linter.unusedVariables false
set_option linter.unusedSimpArgs false
set_option linter.unusedSectionVars false
set_option maxRecDepth 100000
namespace Go.Proofs.YthleeikkpjiicaaDoor.Fw
open Go.RowKit Go.Proofs
def vJoin (a b : Vc) : Vc := fun i => max (a i) (b i)
def vMeet (a b : Vc) : Vc := fun i => min (a i) (b i)
/-- all that the one means the other one does -/
def vLe (a b : Vc) : Prop := ∀ i, i < 8 → a i ≤ b i
instance (a b : Vc) : Decidable (vLe a b) := inferInstanceAs (Decidable (∀ i, i < 8 → a i ≤ b i))
def vOrd (a b : Vc) : Int := if vEq a b then 0 else if vLe a b then -1 else if vLe b a then 1 else 2
theorem vOrd_le (a b : Vc) : vOrd a b ≤ 0 ↔ vLe a b := by
  unfold vOrd
  by_cases h : vEq a b
  · have : vLe a b := fun i hi => by rw [h i hi]; exact Nat.le_refl _
    simp [h, this]
  · by_cases h2 : vLe a b
    · simp [h, h2]
    · by_cases h3 : vLe b a <;> simp [h, h2, h3]
def stJoin (a b : Vc) (k : Nat) : FS := mk [(8, .pv (.i .i64 k)), (7, .vec 8 (vE b)), (4, .p 4 0), (2, .p 2 0)] [(2, some (.var (.vec 8 (vE fun i => if i < k then vJoin a b i else a i)))), (4, some (.var (.vec 8 (vE fun _ => 0))))]
theorem okJoin (a b : Vc) {h d} : FunOk Tryd.prog 44 [.vec 8 (vE a), .vec 8 (vE b)] h d (.vec 8 (vE (vJoin a b))) [] := by
  refine fun_pure mixed fn44 (by simp) rfl rfl fun F => ?_
  (try simp only [brK_e, gdK_e, skK_e, gdA_e, skA_e, pkK_e]); simp (maxSteps := 10000000) (disch := omega) only [ir44, go_sem, ↓reduceIte, Nat.reduceEqDiff, Nat.reduceSub, Nat.reduceLeDiff, Nat.reduceAdd, Int.reduceEq, Int.reduceLT, Int.reduceLE]
  refine loop_ok mixed (stJoin a b) (fun k => k ≤ 8) (fun k => 8 - k) 0 (by simp) (weak_mk ?_ ?_) fun k hk => ?_
  · (try simp only [brK_e, gdK_e, skK_e, gdA_e, skA_e, pkK_e]); simp (maxSteps := 10000000) (disch := omega) only [go_sem, ↓reduceIte, Nat.reduceEqDiff, Nat.reduceSub, Nat.reduceLeDiff, Nat.reduceAdd, Int.reduceEq, Int.reduceLT, Int.reduceLE]
  · (try simp only [brK_e, gdK_e, skK_e, gdA_e, skA_e, pkK_e]); simp (maxSteps := 10000000) (disch := omega) only [vE_none, go_sem, ↓reduceIte, Nat.reduceEqDiff, Nat.reduceSub, Nat.reduceLeDiff, Nat.reduceAdd, Int.reduceEq, Int.reduceLT, Int.reduceLE]
  by_cases hlt : k < 8
  · (try simp only [brK_e, gdK_e, skK_e, gdA_e, skA_e, pkK_e]); simp (maxSteps := 10000000) (disch := omega) only [stJoin, go_sem, ↓reduceIte, Nat.reduceEqDiff, Nat.reduceSub, Nat.reduceLeDiff, Nat.reduceAdd, Int.reduceEq, Int.reduceLT, Int.reduceLE]
    refine loop_next (k + 1) _ _ rfl (by omega) (by omega) ?_ ?_
    · (try simp only [brK_e, gdK_e, skK_e, gdA_e, skA_e, pkK_e]); simp (maxSteps := 10000000) (disch := omega) only [go_sem, ↓reduceIte, Nat.reduceEqDiff, Nat.reduceSub, Nat.reduceLeDiff, Nat.reduceAdd, Int.reduceEq, Int.reduceLT, Int.reduceLE]
    · (try simp only [brK_e, gdK_e, skK_e, gdA_e, skA_e, pkK_e]); simp (maxSteps := 10000000) (disch := omega) only [go_sem, ↓reduceIte, Nat.reduceEqDiff, Nat.reduceSub, Nat.reduceLeDiff, Nat.reduceAdd, Int.reduceEq, Int.reduceLT, Int.reduceLE]
      exact imp_vec (vE_setV_lt _ _ _ (by simp [vJoin]))
  · (try simp only [brK_e, gdK_e, skK_e, gdA_e, skA_e, pkK_e]); simp (maxSteps := 10000000) (disch := omega) only [stJoin, vE_all, go_sem, ↓reduceIte, Nat.reduceEqDiff, Nat.reduceSub, Nat.reduceLeDiff, Nat.reduceAdd, Int.reduceEq, Int.reduceLT, Int.reduceLE]
end Go.Proofs.YthleeikkpjiicaaDoor.Fw
namespace Go.Proofs.YthleeikkpjiicaaDoor.Fw
open Go.RowKit
/-! How an argument of any plain type that lies in a world reads in the small language. -/
noncomputable abbrev allOf (w : World) : View := viewOf w fun _ => False
theorem cell_view {w : World} {a : Addr} {v : Value} (h : w.cell? a = some v) : a.spot = none ∧ ∃ arr, allOf w a.block = some arr ∧ arr[a.off]? = some v := by
  unfold World.cell? at h
  split at h
  · rename_i c ty fr hb
    split at h
    · cases h
    · rename_i hs
      refine ⟨by cases hx : a.spot <;> simp_all, c, ?_, h⟩
      unfold allOf viewOf cellsAt
      simp [hb]
  · cases h
inductive Sh where
  | int (k : IntKind) | bool | str | arr (n : Nat) (s : Sh) | st (l : List Sh) | sl (s : Sh)
mutual
def Sh.w : Sh → Nat
  | .arr n s => n * s.w
  | .st l => Sh.wL l
  | _ => 1
def Sh.wL : List Sh → Nat
  | [] => 0
  | s :: l => s.w + Sh.wL l
end
mutual
def shB (P : Program) : Sh → TypeId → Bool
  | .int k, t => match P.underlying t with | some (.int k') => decide (k = k') | _ => false
  | .bool, t => match P.underlying t with | some .bool => true | _ => false
  | .str, t => match P.underlying t with | some .string => true | _ => false
  | .arr n s, t => match P.underlying t with | some (.array n' e) => decide (n = n') && decide (P.cellsOf e = s.w) && decide (P.cellsOf t = n * s.w) && shB P s e | _ => false
  | .st l, t => match P.underlying t with | some (.struct fs) => decide (P.cellsOf t = Sh.wL l) && shBL P l fs.toList 0 | _ => false
  | .sl s, t => match P.underlying t with | some (.slice e) => decide (P.cellsOf e = s.w) && decide (0 < s.w) && shB P s e | _ => false
def shBL (P : Program) : List Sh → List Field → Nat → Bool
  | [], [], _ => true
  | s :: l, f :: fs, off => decide (f.offset = off) && decide (P.cellsOf f.type = s.w) && shB P s f.type && shBL P l fs (off + s.w)
  | _, _, _ => false
end
mutual
/-- cells of a shape -/
def GC : Sh → List PV → Prop
  | .int k, cs => ∃ n, cs = [.i k n] ∧ (Lit.int k n).wf = true
  | .bool, cs => ∃ b, cs = [.b b]
  | .str, cs => ∃ l, cs = [.s l] ∧ l.length ≤ maxLen
  | .arr n s, cs => ∃ cc : List (List PV), cs = cc.flatten ∧ cc.length = n ∧ ∀ c ∈ cc, GC s c
  | .st l, cs => GCL l cs
  | .sl s, cs => ∃ es, cs = [.sl false s.w es] ∧ es.length ≤ maxLen ∧ ∀ c ∈ es, GC s c
def GCL : List Sh → List PV → Prop
  | [], cs => cs = []
  | s :: l, cs => ∃ c cs', cs = c ++ cs' ∧ GC s c ∧ GCL l cs'
end
theorem flat_len {w : Nat} : ∀ {cc : List (List PV)}, (∀ c ∈ cc, c.length = w) → cc.flatten.length = cc.length * w
  | [], _ => by simp
  | c :: cc, h => by
    rw [List.flatten_cons, List.length_append, flat_len fun c hc => h c (by simp [hc]), h c (by simp), List.length_cons, Nat.add_mul]; omega
mutual
theorem GC.len : ∀ {s : Sh} {cs : List PV}, GC s cs → cs.length = s.w
  | .int k, cs, h => by obtain ⟨n, rfl, _⟩ := h; rfl
  | .bool, cs, h => by obtain ⟨n, rfl⟩ := h; rfl
  | .str, cs, h => by obtain ⟨n, rfl, _⟩ := h; rfl
  | .arr n s, cs, h => by
    simp only [GC] at h
    obtain ⟨cc, rfl, rfl, h⟩ := h
    rw [flat_len fun c hc => GC.len (h c hc)]; rfl
  | .st l, cs, h => by simp only [GC] at h; simp only [Sh.w]; exact GCL.len h
  | .sl s, cs, h => by obtain ⟨n, rfl, _⟩ := h; rfl
theorem GCL.len : ∀ {l : List Sh} {cs : List PV}, GCL l cs → cs.length = Sh.wL l
  | [], cs, h => by simp only [GCL] at h; subst h; rfl
  | s :: l, cs, h => by
    simp only [GCL] at h
    obtain ⟨c, cs', rfl, h1, h2⟩ := h
    rw [List.length_append, GC.len h1, GCL.len h2]; rfl
end
theorem arr_GC {V : View} {s : Sh} : ∀ (n : Nat) (vs : List Value), vs.length = n * s.w → (∀ i, i < n → ∃ c, GC s c ∧ PCells V c ((vs.drop (i * s.w)).take s.w)) → ∃ cc : List (List PV), cc.length = n ∧ (∀ c ∈ cc, GC s c) ∧ PCells V cc.flatten vs
  | 0, vs, hl, h => by
    have : vs = [] := List.eq_nil_of_length_eq_zero (by omega)
    subst this
    exact ⟨[], rfl, by simp, PCells.nil⟩
  | n + 1, vs, hl, h => by
    rw [Nat.add_mul] at hl
    obtain ⟨c, g, p⟩ := h 0 (by omega)
    rw [Nat.zero_mul, List.drop_zero] at p
    obtain ⟨cc, e1, e2, e3⟩ := arr_GC (V := V) (s := s) n (vs.drop s.w) (by rw [List.length_drop]; omega) fun i hi => by
      obtain ⟨c', g', p'⟩ := h (i + 1) (by omega)
      refine ⟨c', g', ?_⟩
      rw [List.drop_drop, show s.w + i * s.w = (i + 1) * s.w from by rw [Nat.add_mul]; omega]
      exact p'
    refine ⟨c :: cc, by simp [e1], fun x hx => ?_, ?_⟩
    · rcases List.mem_cons.1 hx with rfl | hx
      · exact g
      · exact e2 x hx
    · rw [List.flatten_cons]
      have := PCells.append p e3
      rwa [List.take_append_drop] at this
theorem add_add {a : Addr} (h : a.spot = none) (i j : Nat) : (a.add i).add j = ⟨a.block, a.off + (i + j), none⟩ := by
  obtain ⟨b, o, sp⟩ := a
  simp only at h; subst h
  unfold Addr.add
  by_cases hi : i = 0
  · subst hi
    by_cases hj : j = 0
    · subst hj; simp
    · simp [hj]
  · by_cases hj : j = 0
    · subst hj; simp [hi]
    · simp [hi, hj]; omega
theorem slice_GC {w : World} {s : Sh} {a : Addr} {len cap : Nat} (hcap : len ≤ cap) (hw : 0 < s.w)
    (h : ∀ i, i < len → ∃ c vs, GC s c ∧ PCells (allOf w) c vs ∧ w.cells? 0 (a.add (i * s.w)) s.w = some vs) :
    ∃ es : List (List PV), es.length = len ∧ (∀ c ∈ es, GC s c) ∧ PConc (allOf w) (.sl false s.w es) (.slice (some a) len cap) := by
  by_cases h0 : len = 0
  · subst h0
    exact ⟨[], rfl, by simp, .sl false s.w [] (some a) cap (fun _ _ => undef) 0 0 #[] (by simp) (by simp) (by simp) (by simp) (by simp) (by simp)⟩
  · have h' : ∀ i, ∃ c vs, i < len → GC s c ∧ PCells (allOf w) c vs ∧ w.cells? 0 (a.add (i * s.w)) s.w = some vs := fun i => by
      by_cases hi : i < len
      · obtain ⟨c, vs, h1⟩ := h i hi; exact ⟨c, vs, fun _ => h1⟩
      · exact ⟨[], [], fun h => absurd h hi⟩
    obtain ⟨c, hc⟩ := Classical.axiomOfChoice h'
    obtain ⟨vs, hv⟩ := Classical.axiomOfChoice hc
    obtain ⟨g0, p0, k0⟩ := hv 0 (by omega)
    obtain ⟨_, l0, c0⟩ := World.cells?_some k0
    have c00 := c0 0 hw
    have hlen0 : 0 < (vs 0).length := by omega
    rw [List.getElem?_eq_getElem hlen0, Nat.zero_mul] at c00
    have e0 : (a.add 0).add 0 = a := by simp [Addr.add]
    rw [e0] at c00
    obtain ⟨hs, arr, harr, _⟩ := cell_view c00
    have hget : ∀ i j, i < len → j < s.w → arr[a.off + (i * s.w + j)]? = (vs i)[j]? := fun i j hi hj => by
      obtain ⟨_, _, k⟩ := hv i hi
      obtain ⟨_, ll, cc⟩ := World.cells?_some k
      have h1 := cc j hj
      have hlt : j < (vs i).length := by omega
      rw [List.getElem?_eq_getElem hlt, add_add hs] at h1
      obtain ⟨_, arr', ha', h2⟩ := cell_view h1
      simp only at ha' h2
      rw [harr] at ha'; cases ha'
      rw [h2, List.getElem?_eq_getElem hlt]
    have hel : ∀ i, i < len → ((List.range len).map c)[i]? = some (c i) := fun i hi => by simp [hi]
    refine ⟨(List.range len).map c, by simp, fun x hx => ?_, ?_⟩
    · obtain ⟨i, hi, rfl⟩ := List.mem_map.1 hx
      exact (hv i (by simpa using hi)).1
    · have e := PConc.sl (V := allOf w) false s.w ((List.range len).map c) (some a) cap (fun i j => (vs i).getD j undef) a.block a.off arr (by simpa using hcap) (by simp) (fun x hx => by
          obtain ⟨i, hi, rfl⟩ := List.mem_map.1 hx
          exact (hv i (by simpa using hi)).1.len) (fun _ => by
          obtain ⟨b, o, sp⟩ := a
          simp only at hs; subst hs
          exact ⟨rfl, harr⟩) (fun i j hi hj => by
          have hi' : i < len := by simpa using hi
          rw [hget i j hi' hj]
          have : j < (vs i).length := by
            obtain ⟨_, ll, _⟩ := World.cells?_some (hv i hi').2.2; omega
          simp [List.getD_eq_getElem?_getD, this]) (fun i j x y hx hy => by
          have hi' : i < len := by
            have := (List.getElem?_eq_some_iff.1 hx).1; simpa using this
          rw [hel i hi'] at hx; cases hx
          obtain ⟨v, hv1, hv2⟩ := (hv i hi').2.1.2 j y hy
          simp only [List.getD_eq_getElem?_getD, hv1, Option.getD_some]; exact hv2)
      simpa using e
section
variable {H : Type} {enc : TypeId × Value → H} {P : Program} {w : World} {spare : Nat → Bool} {held : Bool}
mutual
theorem trod_GC : ∀ (s : Sh) {t : TypeId} {fuel : Nat} {vs : List Value} {x}, shB P s t = true → DataW.trod enc P w 0 spare held fuel t vs = some x → ∃ cs, GC s cs ∧ PCells (allOf w) cs vs
  | .int k, t, fuel, vs, x, hs, h => by
    simp only [shB] at hs
    split at hs
    · rename_i k' hu
      obtain rfl := of_decide_eq_true hs
      obtain ⟨n, rfl, _, hw⟩ := DataW.trod_int hu h
      exact ⟨[.i k n], ⟨n, rfl, hw⟩, PCells.cons (.i _ _) PCells.nil⟩
    · cases hs
  | .bool, t, fuel, vs, x, hs, h => by
    simp only [shB] at hs
    split at hs
    · rename_i hu
      obtain ⟨n, rfl, _⟩ := DataW.trod_bool hu h
      exact ⟨[.b n], ⟨n, rfl⟩, PCells.cons (.b _) PCells.nil⟩
    · cases hs
  | .str, t, fuel, vs, x, hs, h => by
    simp only [shB] at hs
    split at hs
    · rename_i hu
      obtain ⟨b, rfl, _, hl⟩ := DataW.trod_string hu h
      refine ⟨[.s b.data.toList], ⟨b.data.toList, rfl, by simpa using hl⟩, PCells.cons ?_ PCells.nil⟩
      have := PConc.s (V := allOf w) b.data.toList
      simpa using this
    · cases hs
  | .arr n s, t, fuel, vs, x, hs, h => by
    simp only [shB] at hs
    split at hs
    · rename_i n' e hu
      simp only [Bool.and_eq_true, decide_eq_true_eq] at hs
      obtain ⟨⟨⟨rfl, h1⟩, h2⟩, h3⟩ := hs
      obtain ⟨xs, m, rfl, _, hl, hx, hg⟩ := DataW.trod_array hu h
      rw [h1] at hg
      obtain ⟨cc, e1, e2, e3⟩ := arr_GC (V := allOf w) (s := s) n vs (by rw [hl, h2]) fun i hi => by
        have := hg i hi
        rw [List.getElem?_eq_getElem (by omega)] at this
        exact trod_GC s h3 this
      exact ⟨cc.flatten, by simp only [GC]; exact ⟨cc, rfl, e1, e2⟩, e3⟩
    · cases hs
  | .st l, t, fuel, vs, x, hs, h => by
    simp only [shB] at hs
    split at hs
    · rename_i fs hu
      simp only [Bool.and_eq_true, decide_eq_true_eq] at hs
      obtain ⟨h2, h3⟩ := hs
      obtain ⟨xs, m, rfl, _, hl, hx, hg⟩ := DataW.trod_struct hu h
      obtain ⟨cs, e1, e2⟩ := trod_GCL l (off := 0) (vs := vs) h3 fun f hf => by
        obtain ⟨i, hi⟩ := List.mem_iff_getElem?.1 hf
        have hi2 : fs[i]? = some f := by simpa using hi
        have := hg i f hi2
        have hlt := (Array.getElem?_eq_some_iff.1 hi2).1
        rw [List.getElem?_eq_getElem (by omega)] at this
        exact ⟨_, _, this⟩
      rw [List.drop_zero, ← h2, ← hl, List.take_length] at e2
      exact ⟨cs, by simp only [GC]; exact e1, e2⟩
    · cases hs
  | .sl s, t, fuel, vs, x, hs, h => by
    simp only [shB] at hs
    split at hs
    · rename_i e hu
      simp only [Bool.and_eq_true, decide_eq_true_eq] at hs
      obtain ⟨⟨h1, h2⟩, h3⟩ := hs
      rcases DataW.trod_slice hu h with ⟨rfl, _⟩ | ⟨a, len, cap, elems, rest, n, rfl, rfl, _, _, hl, hm, hle, hg, _⟩
      · exact ⟨[.sl false s.w []], by simp only [GC]; exact ⟨[], rfl, by simp, by simp⟩, PCells.cons (.sl false s.w [] none 0 (fun _ _ => undef) 0 0 #[] (by simp) (by simp) (by simp) (by simp) (by simp) (by simp)) PCells.nil⟩
      · rw [h1] at hg
        obtain ⟨es, e1, e2, e3⟩ := slice_GC (w := w) (s := s) (a := a) hl h2 fun i hi => by
          have h4 := hg i hi
          rw [List.getElem?_eq_getElem (by omega)] at h4
          obtain ⟨vs, h5, h6⟩ := Option.bind_eq_some_iff.1 h4
          obtain ⟨c, g, p⟩ := trod_GC s h3 h6
          exact ⟨c, vs, g, p, h5⟩
        exact ⟨[.sl false s.w es], by simp only [GC]; exact ⟨es, rfl, by omega, e2⟩, PCells.cons e3 PCells.nil⟩
    · cases hs
theorem trod_GCL : ∀ (l : List Sh) {fs : List Field} {off : Nat} {vs : List Value}, shBL P l fs off = true →
    (∀ f ∈ fs, ∃ n x, DataW.trod enc P w 0 spare held n f.type ((vs.drop f.offset).take (P.cellsOf f.type)) = some x) → ∃ cs, GCL l cs ∧ PCells (allOf w) cs ((vs.drop off).take (Sh.wL l))
  | [], fs, off, vs, hs, h => ⟨[], by simp only [GCL], by simp only [Sh.wL, List.take_zero]; exact PCells.nil⟩
  | s :: l, [], off, vs, hs, h => by simp [shBL] at hs
  | s :: l, f :: fs, off, vs, hs, h => by
    simp only [shBL, Bool.and_eq_true, decide_eq_true_eq] at hs
    obtain ⟨⟨⟨h1, h2⟩, h3⟩, h4⟩ := hs
    obtain ⟨n, x, hx⟩ := h f (by simp)
    obtain ⟨c, g, p⟩ := trod_GC s h3 hx
    obtain ⟨cs, gl, pl⟩ := trod_GCL l (vs := vs) h4 fun f hf => h f (by simp [hf])
    refine ⟨c ++ cs, by simp only [GCL]; exact ⟨c, cs, rfl, g, gl⟩, ?_⟩
    rw [h1, h2] at p
    have := PCells.append p pl
    have e : (vs.drop off).take (Sh.wL (s :: l)) = (vs.drop off).take s.w ++ (vs.drop (off + s.w)).take (Sh.wL l) := by
      simp only [Sh.wL]
      rw [List.take_add, List.drop_drop]
    rw [e]; exact this
end
end
mutual
/-- the value of cells of a shape -/
def toSV : Sh → List PV → SV
  | .arr n s, cs => .vec (n * s.w) cs
  | .st l, cs => .agg (toSegs l cs)
  | _, cs => .pv (cs.headD (.b false))
def toSegs : List Sh → List PV → List SV
  | [], _ => []
  | s :: l, cs => (toSV s (cs.take s.w)).segs ++ toSegs l (cs.drop s.w)
end
def Sh.isAg : Sh → Bool
  | .arr _ _ => true
  | .st _ => true
  | _ => false
theorem cells_append {V : View} {ρ : Nat → Value} : ∀ {l m : List SV} {a b : List Value}, Cells V ρ l a → Cells V ρ m b → Cells V ρ (l ++ m) (a ++ b)
  | [], m, a, b, h1, h2 => by simp only [Cells] at h1; subst h1; exact h2
  | x :: l, m, a, b, h1, h2 => by
    simp only [Cells, List.cons_append] at h1 ⊢
    obtain ⟨u, us, rfl, c, d, e, f⟩ := h1
    exact ⟨u, us ++ b, by simp, c, d, e, cells_append f h2⟩
mutual
theorem conc_toSV {V : View} {ρ : Nat → Value} : ∀ (s : Sh) {cs : List PV} {v : Value}, GC s cs → PCells V cs (flatV v) → (s.isAg = true → ∃ vs, v = .agg ⟨vs⟩) → (s.isAg = false → ∀ vs, v ≠ .agg vs) → Conc V ρ (toSV s cs) v
  | .int k, cs, v, g, p, _, h => by
    obtain ⟨n, rfl, _⟩ := g
    have e : flatV v = [v] := by cases v <;> first | rfl | exact absurd rfl (h rfl _)
    rw [e] at p
    obtain ⟨v', h1, h2⟩ := p.2 0 _ rfl
    simp at h1; subst h1
    simp only [toSV, Conc, List.headD_cons]; exact h2
  | .bool, cs, v, g, p, _, h => by
    obtain ⟨n, rfl⟩ := g
    have e : flatV v = [v] := by cases v <;> first | rfl | exact absurd rfl (h rfl _)
    rw [e] at p
    obtain ⟨v', h1, h2⟩ := p.2 0 _ rfl
    simp at h1; subst h1
    simp only [toSV, Conc, List.headD_cons]; exact h2
  | .str, cs, v, g, p, _, h => by
    obtain ⟨n, rfl, _⟩ := g
    have e : flatV v = [v] := by cases v <;> first | rfl | exact absurd rfl (h rfl _)
    rw [e] at p
    obtain ⟨v', h1, h2⟩ := p.2 0 _ rfl
    simp at h1; subst h1
    simp only [toSV, Conc, List.headD_cons]; exact h2
  | .sl s, cs, v, g, p, _, h => by
    simp only [GC] at g
    obtain ⟨n, rfl, _⟩ := g
    have e : flatV v = [v] := by cases v <;> first | rfl | exact absurd rfl (h rfl _)
    rw [e] at p
    obtain ⟨v', h1, h2⟩ := p.2 0 _ rfl
    simp at h1; subst h1
    simp only [toSV, Conc, List.headD_cons]; exact h2
  | .arr n s, cs, v, g, p, h, _ => by
    obtain ⟨vs, rfl⟩ := h rfl
    have hl := g.len
    simp only [toSV, Conc]
    refine ⟨vs, rfl, ?_, p⟩
    have e1 : vs.length = cs.length := p.1.symm
    rw [e1, hl]; rfl
  | .st l, cs, v, g, p, h, _ => by
    obtain ⟨vs, rfl⟩ := h rfl
    simp only [GC] at g
    simp only [toSV, Conc]
    exact ⟨vs, rfl, conc_toSegs l g p⟩
theorem conc_toSegs {V : View} {ρ : Nat → Value} : ∀ (l : List Sh) {cs : List PV} {vs : List Value}, GCL l cs → PCells V cs vs → Cells V ρ (toSegs l cs) vs
  | [], cs, vs, g, p => by
    simp only [GCL] at g; subst g
    have : vs = [] := List.eq_nil_of_length_eq_zero (by rw [← p.1]; rfl)
    subst this
    simp only [toSegs, Cells]
  | s :: l, cs, vs, g, p => by
    simp only [GCL] at g
    obtain ⟨c, cs', rfl, g1, g2⟩ := g
    have hl := g1.len
    have p1 : PCells V c (vs.take c.length) := by
      have := p.split c.length |>.1
      simpa using this
    have p2 : PCells V cs' (vs.drop c.length) := by
      have := p.split c.length |>.2
      simpa using this
    have hvs : vs = vs.take c.length ++ vs.drop c.length := (List.take_append_drop _ _).symm
    have hlen : (vs.take c.length).length = s.w := by rw [← p1.1, hl]
    simp only [toSegs]
    rw [List.take_left' hl, List.drop_left' hl]
    rw [hvs]
    refine cells_append ?_ (conc_toSegs l g2 p2)
    cases s with
    | st m =>
      simp only [GC] at g1
      simp only [toSV, SV.segs]
      exact conc_toSegs m g1 p1
    | arr n s' =>
      have := conc_toSV (V := V) (ρ := ρ) (.arr n s') (v := .agg ⟨vs.take c.length⟩) g1 (by simpa [flatV] using p1) (fun _ => ⟨_, rfl⟩) (by simp [Sh.isAg])
      simp only [toSV] at this ⊢
      simp only [SV.segs, Cells]
      exact ⟨_, [], by simp [flatV], this, by simpa [flatV, SV.width, Sh.w] using hlen, fun v hv => p1.one v (by simpa [flatV] using hv), rfl⟩
    | int k =>
      obtain ⟨n, rfl, _⟩ := g1
      obtain ⟨v, h1, h2⟩ := p1.2 0 _ rfl
      have e : vs.take [PV.i k n].length = [v] := by
        match hx : vs.take [PV.i k n].length, h1, hlen with
        | [u], h1, _ => simp at h1; rw [h1]
      have ho := h2.one
      have fv : flatV v = [v] := by cases v <;> first | rfl | exact absurd ho (by simp [oneCell])
      rw [e]
      simp only [toSV, SV.segs, Cells, Conc, List.headD_cons]
      exact ⟨v, [], by rw [fv]; rfl, h2, by rw [fv]; rfl, by rw [fv]; simpa using ho, rfl⟩
    | bool =>
      obtain ⟨n, rfl⟩ := g1
      obtain ⟨v, h1, h2⟩ := p1.2 0 _ rfl
      have e : vs.take [PV.b n].length = [v] := by
        match hx : vs.take [PV.b n].length, h1, hlen with
        | [u], h1, _ => simp at h1; rw [h1]
      have ho := h2.one
      have fv : flatV v = [v] := by cases v <;> first | rfl | exact absurd ho (by simp [oneCell])
      rw [e]
      simp only [toSV, SV.segs, Cells, Conc, List.headD_cons]
      exact ⟨v, [], by rw [fv]; rfl, h2, by rw [fv]; rfl, by rw [fv]; simpa using ho, rfl⟩
    | str =>
      obtain ⟨n, rfl, _⟩ := g1
      obtain ⟨v, h1, h2⟩ := p1.2 0 _ rfl
      have e : vs.take [PV.s n].length = [v] := by
        match hx : vs.take [PV.s n].length, h1, hlen with
        | [u], h1, _ => simp at h1; rw [h1]
      have ho := h2.one
      have fv : flatV v = [v] := by cases v <;> first | rfl | exact absurd ho (by simp [oneCell])
      rw [e]
      simp only [toSV, SV.segs, Cells, Conc, List.headD_cons]
      exact ⟨v, [], by rw [fv]; rfl, h2, by rw [fv]; rfl, by rw [fv]; simpa using ho, rfl⟩
    | sl s' =>
      simp only [GC] at g1
      obtain ⟨n, rfl, _⟩ := g1
      obtain ⟨v, h1, h2⟩ := p1.2 0 _ rfl
      have e : vs.take [PV.sl false s'.w n].length = [v] := by
        match hx : vs.take [PV.sl false s'.w n].length, h1, hlen with
        | [u], h1, _ => simp at h1; rw [h1]
      have ho := h2.one
      have fv : flatV v = [v] := by cases v <;> first | rfl | exact absurd ho (by simp [oneCell])
      rw [e]
      simp only [toSV, SV.segs, Cells, Conc, List.headD_cons]
      exact ⟨v, [], by rw [fv]; rfl, h2, by rw [fv]; rfl, by rw [fv]; simpa using ho, rfl⟩
end
mutual
theorem toSV_closed : ∀ (s : Sh) (cs : List PV), (toSV s cs).closed = true
  | .int k, cs => rfl
  | .bool, cs => rfl
  | .str, cs => rfl
  | .sl s, cs => rfl
  | .arr n s, cs => rfl
  | .st l, cs => by simp only [toSV, SV.closed]; exact toSegs_closed l cs
theorem toSegs_closed : ∀ (l : List Sh) (cs : List PV), SV.closedL (toSegs l cs) = true
  | [], cs => rfl
  | s :: l, cs => by
    simp only [toSegs]
    have h2 := toSegs_closed l (cs.drop s.w)
    have app : ∀ (a b : List SV), SV.closedL a = true → SV.closedL b = true → SV.closedL (a ++ b) = true := fun a b ha hb => by
      induction a with
      | nil => exact hb
      | cons x a ih => simp only [SV.closedL, Bool.and_eq_true, List.cons_append] at ha ⊢; exact ⟨ha.1, ih ha.2⟩
    refine app _ _ ?_ h2
    cases s with
    | st m => simp only [toSV, SV.segs]; exact toSegs_closed m _
    | int k => rfl
    | bool => rfl
    | str => rfl
    | sl s => rfl
    | arr n s => rfl
end
theorem okWide_ag {P : Program} {w : World} {base : Nat} {t : TypeId} {v : Value} : ∀ {s : Sh}, shB P s t = true → Value.okWide P w .any base t v → (s.isAg = true → ∃ vs, v = .agg ⟨vs⟩) ∧ (s.isAg = false → ∀ vs, v ≠ .agg vs)
  | .int k, hs, h => by
    simp only [shB] at hs
    split at hs
    · rename_i k' hu
      obtain ⟨n, rfl⟩ := WideShapes.okWide_int hu h
      exact ⟨fun h => (by cases h), fun _ vs e => by cases e⟩
    · cases hs
  | .bool, hs, h => by
    simp only [shB] at hs
    split at hs
    · rename_i hu
      obtain ⟨n, rfl⟩ := WideShapes.okWide_bool hu h
      exact ⟨fun h => (by cases h), fun _ vs e => by cases e⟩
    · cases hs
  | .str, hs, h => by
    simp only [shB] at hs
    split at hs
    · rename_i hu
      obtain ⟨n, rfl⟩ := WideShapes.okWide_string hu h
      exact ⟨fun h => (by cases h), fun _ vs e => by cases e⟩
    · cases hs
  | .sl s, hs, h => by
    simp only [shB] at hs
    split at hs
    · rename_i e hu
      obtain ⟨a, b, c, rfl⟩ := WideShapes.okWide_slice hu h
      exact ⟨fun h => (by cases h), fun _ vs e => by cases e⟩
    · cases hs
  | .arr n s, hs, h => by
    simp only [shB] at hs
    split at hs
    · rename_i n' e hu
      simp only [Value.okWide, hu] at h
      obtain ⟨⟨xs⟩, rfl, _⟩ := h
      exact ⟨fun _ => ⟨_, rfl⟩, fun h => (by cases h)⟩
    · cases hs
  | .st l, hs, h => by
    simp only [shB] at hs
    split at hs
    · rename_i fs hu
      simp only [Value.okWide, hu] at h
      obtain ⟨⟨xs⟩, rfl, _⟩ := h
      exact ⟨fun _ => ⟨_, rfl⟩, fun h => (by cases h)⟩
    · cases hs
/-- an argument, as it reads -/
theorem arg_conc {H : Type} {enc : TypeId × Value → H} {P : Program} {w : World} {spare : Nat → Bool} {held : Bool} {base : Nat} {t : TypeId} {v : Value} {d : DataW H} {ps : List MemPlace} {s : Sh} (hs : shB P s t = true)
    (hv : Value.okWide P w .any base t v) (h : DataW.Trod enc P w 0 spare held t v d ps) : ∃ cs, GC s cs ∧ Conc (allOf w) (fun _ => undef) (toSV s cs) v := by
  obtain ⟨fuel, hf⟩ := h
  obtain ⟨cs, g, p⟩ := trod_GC s hs hf
  rw [flatV_cells] at p
  obtain ⟨h1, h2⟩ := okWide_ag hs hv
  exact ⟨cs, g, conc_toSV s g p h1 h2⟩
end Go.Proofs.YthleeikkpjiicaaDoor.Fw
namespace Go.Proofs.YthleeikkpjiicaaDoor.Fw
open Go.RowKit
/-! Arguments of the shapes that the laws have. -/
theorem flat_get {m : Nat} : ∀ {cc : List (List PV)} {i j : Nat}, (∀ c ∈ cc, c.length = m) → j < m → cc.flatten[i * m + j]? = (cc[i]?).bind (·[j]?)
  | [], i, j, _, _ => by simp
  | c :: cc, 0, j, h, hj => by
    have hc := h c (by simp)
    rw [List.flatten_cons, Nat.zero_mul, Nat.zero_add, List.getElem?_append_left (by omega)]; rfl
  | c :: cc, i + 1, j, h, hj => by
    have hc := h c (by simp)
    rw [List.flatten_cons, List.getElem?_append_right (by rw [Nat.add_mul]; omega)]
    rw [show (i + 1) * m + j - c.length = i * m + j from by rw [Nat.add_mul]; omega]
    rw [flat_get (fun c hc => h c (by simp [hc])) hj]; rfl
theorem arr_el {n : Nat} {s : Sh} {cs : List PV} (h : GC (.arr n s) cs) : cs.length = n * s.w ∧ ∀ i, i < n → ∃ c, GC s c ∧ ∀ j, j < s.w → cs[i * s.w + j]? = c[j]? := by
  refine ⟨h.len, fun i hi => ?_⟩
  simp only [GC] at h
  obtain ⟨cc, rfl, rfl, g⟩ := h
  refine ⟨cc[i], g _ (List.getElem_mem _), fun j hj => ?_⟩
  rw [flat_get (fun c hc => (g c hc).len) hj, List.getElem?_eq_getElem hi]; rfl
theorem u32_wf {n : Int} (h : (Lit.int .u32 n).wf = true) : 0 ≤ n ∧ n < 4294967296 := by
  simp [Lit.wf, IntKind.min, IntKind.max, IntKind.signed, IntKind.bits] at h; omega
theorem u64_wf {n : Int} (h : (Lit.int .u64 n).wf = true) : 0 ≤ n ∧ n < 18446744073709551616 := by
  simp [Lit.wf, IntKind.min, IntKind.max, IntKind.signed, IntKind.bits] at h; omega
theorem u8_wf {n : Int} (h : (Lit.int .u8 n).wf = true) : 0 ≤ n ∧ n < 256 := by
  simp [Lit.wf, IntKind.min, IntKind.max, IntKind.signed, IntKind.bits] at h; omega
theorem i64_wf {n : Int} (h : (Lit.int .i64 n).wf = true) : -9223372036854775808 ≤ n ∧ n < 9223372036854775808 := by
  simp [Lit.wf, IntKind.min, IntKind.max, IntKind.signed, IntKind.bits] at h; omega
theorem arrF_of {n : Nat} {cs : List PV} {f : Nat → PV} (hl : cs.length = n) (h : ∀ i, i < n → cs[i]? = some (f i)) : cs = arrF n f := by
  apply List.ext_getElem?
  intro i
  by_cases hi : i < n
  · rw [h i hi, arrF_get hi]
  · rw [List.getElem?_eq_none (by omega), List.getElem?_eq_none (by rw [arrF_length]; omega)]
theorem GC_vE {cs : List PV} (h : GC (.arr 8 (.int .u32)) cs) : ∃ a : Vc, cs = vE a ∧ ∀ i, i < 8 → a i < 4294967296 := by
  obtain ⟨hl, g⟩ := arr_el h
  have key : ∀ i, ∃ n : Nat, i < 8 → cs[i]? = some (.i .u32 n) ∧ n < 4294967296 := fun i => by
    by_cases hi : i < 8
    · obtain ⟨c, ⟨n, rfl, hw⟩, k⟩ := g i hi
      have := k 0 (by simp [Sh.w])
      simp only [Sh.w, Nat.mul_one, Nat.add_zero] at this
      have hr := u32_wf hw
      refine ⟨n.toNat, fun _ => ⟨?_, by omega⟩⟩
      rw [this, show ((n.toNat : Nat) : Int) = n from by omega]; rfl
    · exact ⟨0, fun h => absurd h hi⟩
  obtain ⟨a, ha⟩ := Classical.axiomOfChoice key
  exact ⟨a, arrF_of hl fun i hi => (ha i hi).1, fun i hi => (ha i hi).2⟩
theorem GC_wE {cs : List PV} (h : GC (.arr 8 .bool) cs) : ∃ a : Nat → Bool, cs = wE a := by
  obtain ⟨hl, g⟩ := arr_el h
  have key : ∀ i, ∃ n : Bool, i < 8 → cs[i]? = some (.b n) := fun i => by
    by_cases hi : i < 8
    · obtain ⟨c, ⟨n, rfl⟩, k⟩ := g i hi
      have := k 0 (by simp [Sh.w])
      simp only [Sh.w, Nat.mul_one, Nat.add_zero] at this
      exact ⟨n, fun _ => this⟩
    · exact ⟨false, fun h => absurd h hi⟩
  obtain ⟨a, ha⟩ := Classical.axiomOfChoice key
  exact ⟨a, arrF_of hl fun i hi => ha i hi⟩
theorem GC_tE {cs : List PV} (h : GC (.arr 8 (.arr 8 (.int .u32))) cs) : ∃ t : Nat → Vc, cs = tE t ∧ ∀ i, i < 8 → ∀ j, j < 8 → t i j < 4294967296 := by
  obtain ⟨hl, g⟩ := arr_el h
  have key : ∀ i, ∃ a : Vc, i < 8 → (∀ j, j < 8 → cs[i * 8 + j]? = some (.i .u32 (a j))) ∧ ∀ j, j < 8 → a j < 4294967296 := fun i => by
    by_cases hi : i < 8
    · obtain ⟨c, hc, k⟩ := g i hi
      obtain ⟨a, rfl, hb⟩ := GC_vE hc
      refine ⟨a, fun _ => ⟨fun j hj => ?_, hb⟩⟩
      have := k j hj
      simp only [Sh.w] at this
      rw [this]; exact arrF_get hj _
    · exact ⟨fun _ => 0, fun h => absurd h hi⟩
  obtain ⟨t, ht⟩ := Classical.axiomOfChoice key
  refine ⟨t, arrF_of hl fun i hi => ?_, fun i hi => (ht i hi).2⟩
  have := (ht (i / 8) (by omega)).1 (i % 8) (by omega)
  rw [show i / 8 * 8 + i % 8 = i from by omega] at this
  exact this
theorem GC_i64 {cs : List PV} (h : GC (.int .i64) cs) : ∃ n : Int, cs = [.i .i64 n] ∧ -9223372036854775808 ≤ n ∧ n < 9223372036854775808 := by
  obtain ⟨n, rfl, hw⟩ := h; exact ⟨n, rfl, i64_wf hw⟩
theorem GC_u64 {cs : List PV} (h : GC (.int .u64) cs) : ∃ n : Nat, cs = [.i .u64 n] ∧ n < 18446744073709551616 := by
  obtain ⟨n, rfl, hw⟩ := h
  have := u64_wf hw
  exact ⟨n.toNat, by rw [show ((n.toNat : Nat) : Int) = n from by omega], by omega⟩
theorem GC_bool {cs : List PV} (h : GC .bool cs) : ∃ n : Bool, cs = [.b n] := h
theorem GC_bytes {cs : List PV} (h : GC (.sl (.int .u8)) cs) : ∃ l : List UInt8, cs = [.sl false 1 (bytesE l)] ∧ l.length ≤ maxLen := by
  simp only [GC] at h
  obtain ⟨es, rfl, hl, g⟩ := h
  have key : ∀ es : List (List PV), (∀ c ∈ es, ∃ n, c = [PV.i .u8 n] ∧ (Lit.int .u8 n).wf = true) → ∃ l : List UInt8, es = bytesE l := fun es => by
    induction es with
    | nil => intro _; exact ⟨[], rfl⟩
    | cons c es ih =>
      intro h
      obtain ⟨n, rfl, hw⟩ := h c (by simp)
      obtain ⟨l, rfl⟩ := ih fun c hc => h c (by simp [hc])
      have hr := u8_wf hw
      refine ⟨UInt8.ofNat n.toNat :: l, ?_⟩
      simp only [bytesE, List.map_cons]
      rw [UInt8.toNat_ofNat', show n.toNat % 2 ^ 8 = n.toNat from Nat.mod_eq_of_lt (by omega), show ((n.toNat : Nat) : Int) = n from by omega]
  obtain ⟨l, rfl⟩ := key es g
  exact ⟨l, rfl, by simpa [bytesE] using hl⟩
theorem wrap_u64_mod (n : Int) : IntKind.u64.wrap n = n % 18446744073709551616 := by simp [IntKind.wrap, IntKind.signed, IntKind.bits]
theorem u64_idx (a : Int) {n : Nat} (h0 : 0 < n) (h : n < 4611686018427387904) : ∃ j : Nat, j < n ∧ IntKind.i64.wrap ((IntKind.u64.wrap a).tmod (IntKind.u64.wrap (n : Int))) = j := by
  rw [wrap_u64 (n := (n : Int)) (by omega), wrap_u64_mod]
  have h1 : 0 ≤ a % 18446744073709551616 := by omega
  rw [Int.tmod_eq_emod_of_nonneg h1]
  generalize a % 18446744073709551616 = m at *
  have h2 := Int.emod_nonneg m (b := (n : Int)) (by omega)
  have h3 := Int.emod_lt_of_pos m (b := (n : Int)) (by omega)
  refine ⟨(m % n).toNat, by omega, ?_⟩
  rw [wrap_i64 (by omega)]; omega
theorem GC_sl {s : Sh} {cs : List PV} (h : GC (.sl s) cs) : ∃ es, cs = [.sl false s.w es] ∧ es.length ≤ maxLen ∧ ∀ c ∈ es, GC s c := by
  simp only [GC] at h; exact h
end Go.Proofs.YthleeikkpjiicaaDoor.Fw
namespace Go.Proofs.YthleeikkpjiicaaDoor.Fw
open Go.RowKit Go.Proofs
/-! Numbers of events, and what they share with vectors. -/
/-- a number: the replica and the place -/
def idLt (r : Int) (q : Nat) (r' : Int) (q' : Nat) : Bool := decide (q < q' ∨ q = q' ∧ r < r')
theorem okLess (r : Int) (q : Nat) (r' : Int) (q' : Nat) {h d} : FunOk Tryd.prog 69 [.vec 2 [.i .i64 r, .i .u32 q], .vec 2 [.i .i64 r', .i .u32 q']] h d (.pv (.b (idLt r q r' q'))) [] := by
  refine fun_pure mixed fn69 (by simp) rfl rfl fun F => ?_
  by_cases h : q = q'
  · subst h
    have e : idLt r q r' q = decide (r < r') := by simp [idLt]
    (try simp only [brK_e, gdK_e, skK_e, gdA_e, skA_e, pkK_e]); simp (maxSteps := 10000000) (disch := omega) only [ir69, e, go_sem, ↓reduceIte, Nat.reduceEqDiff, Nat.reduceSub, Nat.reduceLeDiff, Nat.reduceAdd, Int.reduceEq, Int.reduceLT, Int.reduceLE]
  · have hz : ¬ (q : Int) = (q' : Int) := by omega
    have e : idLt r q r' q' = decide ((q : Int) < (q' : Int)) := by simp [idLt, h]
    (try simp only [brK_e, gdK_e, skK_e, gdA_e, skA_e, pkK_e]); simp (maxSteps := 10000000) (disch := omega) only [ir69, e, go_sem, ↓reduceIte, Nat.reduceEqDiff, Nat.reduceSub, Nat.reduceLeDiff, Nat.reduceAdd, Int.reduceEq, Int.reduceLT, Int.reduceLE]
theorem okLessR (r : Int) (q : Nat) (r' : Int) (q' : Nat) {h d} : FunOk Tryd.prog 46 [.vec 2 [.i .i64 r, .i .u32 q], .vec 2 [.i .i64 r', .i .u32 q']] h d (.pv (.b (idLt r q r' q'))) [] := by
  refine fun_pure mixed fn46 (by simp) rfl rfl fun F => ?_
  by_cases h : q = q'
  · subst h
    have e : idLt r q r' q = decide (r < r') := by simp [idLt]
    have hl : ¬ (q : Int) < (q : Int) := by omega
    (try simp only [brK_e, gdK_e, skK_e, gdA_e, skA_e, pkK_e]); simp (maxSteps := 10000000) (disch := omega) only [ir46, e, hl, go_sem, ↓reduceIte, Nat.reduceEqDiff, Nat.reduceSub, Nat.reduceLeDiff, Nat.reduceAdd, Int.reduceEq, Int.reduceLT, Int.reduceLE]
  · have hz : ¬ (q : Int) = (q' : Int) := by omega
    have e : idLt r q r' q' = decide ((q : Int) < (q' : Int)) := by simp [idLt, h]
    by_cases hl : (q : Int) < (q' : Int)
    · (try simp only [brK_e, gdK_e, skK_e, gdA_e, skA_e, pkK_e]); simp (maxSteps := 10000000) (disch := omega) only [ir46, e, hl, go_sem, ↓reduceIte, Nat.reduceEqDiff, Nat.reduceSub, Nat.reduceLeDiff, Nat.reduceAdd, Int.reduceEq, Int.reduceLT, Int.reduceLE]
    · (try simp only [brK_e, gdK_e, skK_e, gdA_e, skA_e, pkK_e]); simp (maxSteps := 10000000) (disch := omega) only [ir46, e, hl, go_sem, ↓reduceIte, Nat.reduceEqDiff, Nat.reduceSub, Nat.reduceLeDiff, Nat.reduceAdd, Int.reduceEq, Int.reduceLT, Int.reduceLE]
theorem peqId_t {r r' : Int} {q q' : Nat} (h : r = r' ∧ q = q') : peq [.i .i64 r, .i .u32 q] [.i .i64 r', .i .u32 q'] = true := by
  obtain ⟨rfl, rfl⟩ := h; simp [peq]
theorem peqId_f {r r' : Int} {q q' : Nat} (h : ¬ (r = r' ∧ q = q')) : peq [.i .i64 r, .i .u32 q] [.i .i64 r', .i .u32 q'] = false := by
  simp only [peq, decide_eq_false_iff_not]
  intro e
  simp only [List.cons.injEq, PV.i.injEq, true_and, and_true] at e
  exact h ⟨e.1, by omega⟩
abbrev Idn := Int × Nat
def idE (b : Idn) : List PV := [.i .i64 b.1, .i .u32 b.2]
/-- how many of a replica's events are meant -/
def getV (a : Vc) (r : Int) : Nat := if 1 ≤ r ∧ r ≤ 8 then a (r - 1).toNat else 0
def hasB (a : Vc) (r : Int) (q : Nat) : Bool := decide (1 ≤ q ∧ q ≤ getV a r)
theorem imp_agg {l : List SV} {cs : List PV} {n : Nat} (hc : SV.cellsL? l = some cs) (hn : cs.length = n) : Imp (.agg l) (.vec n cs) := by
  intro V ρ v h
  have hp := Conc.cells h (x := .agg l) (cs := cs) hc
  simp only [Conc] at h ⊢
  obtain ⟨vs, rfl, _⟩ := h
  exact ⟨vs, rfl, by rw [← hn]; exact hp.1.symm, hp⟩
def ImpL : List SV → List SV → Prop
  | [], [] => True
  | x :: l, y :: m => Imp x y ∧ ImpL l m
  | _, _ => False
theorem ImpL.conc {V : View} {ρ : Nat → Value} : ∀ {l m : List SV} {vs : List Value}, ImpL l m → ConcL V ρ l vs → ConcL V ρ m vs
  | [], [], vs, _, h => h
  | x :: l, y :: m, vs, h, k => by
    simp only [ConcL] at k ⊢
    obtain ⟨v, us, rfl, k1, k2⟩ := k
    exact ⟨v, us, rfl, h.1 _ _ _ k1, ImpL.conc h.2 k2⟩
  | [], _ :: _, _, h, _ => h.elim
  | _ :: _, [], _, h, _ => h.elim
theorem FunOk.imp {P : Program} {f : Nat} {args args' : List SV} {h d x u} (hf : FunOk P f args' h d x u) (hi : ImpL args args') (ht : ∀ n ∈ tops args', n ∈ tops args) : FunOk P f args h d x u :=
  ⟨hf.1, fun F N ρ s a w hR hh vs hc => hf.2 F N ρ s a w hR (fun n hn => hh n (ht n hn)) vs (hi.conc hc)⟩
abbrev shId : Sh := .st [.int .i64, .int .u32]
theorem GC_id {cs : List PV} (h : GC shId cs) : ∃ b : Idn, cs = idE b ∧ (-9223372036854775808 ≤ b.1 ∧ b.1 < 9223372036854775808) ∧ b.2 < 4294967296 := by
  simp only [GC, GCL] at h
  obtain ⟨c, cs', rfl, ⟨n, rfl, hw⟩, c', cs'', rfl, ⟨m, rfl, hw'⟩, rfl⟩ := h
  have hr := u32_wf hw'
  exact ⟨(n, m.toNat), by simp [idE]; omega, i64_wf hw, by show m.toNat < _; omega⟩
theorem els_of {α : Type} {f : α → List PV} {p : α → Prop} {s : Sh} (key : ∀ {cs}, GC s cs → ∃ x, cs = f x ∧ p x) : ∀ {es : List (List PV)}, (∀ c ∈ es, GC s c) → ∃ l : List α, es = l.map f ∧ ∀ x ∈ l, p x
  | [], _ => ⟨[], rfl, by simp⟩
  | c :: es, h => by
    obtain ⟨l, e, hp⟩ := els_of (es := es) key fun c hc => h c (List.mem_cons_of_mem _ hc)
    obtain ⟨x, e2, hx⟩ := key (h c List.mem_cons_self)
    exact ⟨x :: l, by rw [e, e2]; rfl, fun y hy => by
      rcases List.mem_cons.1 hy with hy | hy
      · rw [hy]; exact hx
      · exact hp y hy⟩
end Go.Proofs.YthleeikkpjiicaaDoor.Fw
namespace Go.Proofs.YthleeikkpjiicaaDoor.Fw
open Go.RowKit Go.Proofs
/-! Entries of directories. -/
structure Ent where
  id : Idn
  dir : Idn
  name : List UInt8
  obj : Idn
  gone : Vc
def entH (x : Ent) : List PV := [.i .i64 x.id.1, .i .u32 x.id.2, .i .i64 x.dir.1, .i .u32 x.dir.2, .s x.name, .i .i64 x.obj.1, .i .u32 x.obj.2]
def entE (x : Ent) : List PV := entH x ++ vE x.gone
theorem vE_flat (a : Vc) : (vE a).all PV.flat = true := by simp [vE, arrF, PV.flat]
theorem entE_len (x : Ent) : (entE x).length = 15 := by simp [entE, entH, vE_length]
theorem entE_flat1 (x : Ent) : (entE x).all PV.flat = true := by
  unfold entE entH; rw [List.all_append, vE_flat]; rfl
theorem entE_flat (l : List Ent) : ∀ c ∈ l.map entE, c.all PV.flat = true := by
  intro c hc
  obtain ⟨v, _, rfl⟩ := List.mem_map.1 hc
  exact entE_flat1 v
theorem ld_ent (x : Ent) (K : KK) : LoadK (some (entE x)) 0 15 true K = K (.vec 15 (entE x)) [] := by
  have e : ((entE x).drop 0).take 15 = entE x := List.take_of_length_le (by rw [List.drop_zero, entE_len]; omega)
  simp only [LoadK, ldX, eq_iff_iff, e, entE_len]
  exact ⟨fun h => h.2.2, fun h => ⟨by omega, .inl trivial, h⟩⟩
theorem ld_entId (x : Ent) (K : KK) : LoadK (some (entE x)) 0 2 true K = K (.vec 2 [.i .i64 x.id.1, .i .u32 x.id.2]) [] := by
  simp only [LoadK, ldX, eq_iff_iff, entE_len]
  exact ⟨fun h => h.2.2, fun h => ⟨by omega, .inl trivial, h⟩⟩
theorem ld_entDir (x : Ent) (K : KK) : LoadK (some (entE x)) 2 2 true K = K (.vec 2 [.i .i64 x.dir.1, .i .u32 x.dir.2]) [] := by
  simp only [LoadK, ldX, eq_iff_iff, entE_len]
  exact ⟨fun h => h.2.2, fun h => ⟨by omega, .inl trivial, h⟩⟩
theorem ld_entName (x : Ent) (K : KK) : LoadK (some (entE x)) 4 1 false K = K (.pv (.s x.name)) [] := by
  simp only [LoadK, ldX, eq_iff_iff, entE_len]
  exact ⟨fun h => h.2.2, fun h => ⟨by omega, .inr trivial, h⟩⟩
theorem ld_entObj (x : Ent) (K : KK) : LoadK (some (entE x)) 5 2 true K = K (.vec 2 [.i .i64 x.obj.1, .i .u32 x.obj.2]) [] := by
  simp only [LoadK, ldX, eq_iff_iff, entE_len]
  exact ⟨fun h => h.2.2, fun h => ⟨by omega, .inl trivial, h⟩⟩
theorem ld_entBy (x : Ent) (K : KK) : LoadK (some (entE x)) 7 8 true K = K (.vec 8 (vE x.gone)) [] := by
  have e : ((entE x).drop 7).take 8 = vE x.gone := by
    unfold entE
    rw [List.drop_left' (by rfl)]
    exact List.take_of_length_le (by rw [vE_length]; omega)
  simp only [LoadK, ldX, eq_iff_iff, entE_len, e]
  exact ⟨fun h => h.2.2, fun h => ⟨by omega, .inl trivial, h⟩⟩
theorem ld_entG (x : Ent) {k : Nat} (hk : k < 8) (K : KK) : LoadK (some (entE x)) (7 + k) 1 false K = K (.pv (.i .u32 (x.gone k))) [] := by
  have e : (entE x).getD (7 + k) (.b false) = .i .u32 (x.gone k) := by
    unfold entE
    rw [List.getD_eq_getElem?_getD, List.getElem?_append_right (by simp [entH])]
    rw [show 7 + k - (entH x).length = k by simp [entH]]
    unfold vE; rw [arrF_get hk]; rfl
  simp only [LoadK, ldX, eq_iff_iff, entE_len, e]
  exact ⟨fun h => h.2.2, fun h => ⟨by omega, .inr trivial, h⟩⟩
/-- another vector in an entry -/
theorem splice_by (x : Ent) (v : Vc) : splice (entE x) 7 (vE v) = entE { x with gone := v } := by
  unfold splice entE
  rw [List.take_left' (by rfl), vE_length]
  have : (entH x ++ vE x.gone).drop (7 + 8) = [] := List.drop_of_length_le (by simp [entH, vE_length])
  rw [this, List.append_nil]; rfl
theorem splice_ent (x y : Ent) : splice (entE x) 0 (entE y) = entE y := by
  unfold splice
  rw [List.take_zero, List.nil_append, Nat.zero_add, entE_len, List.drop_of_length_le (by rw [entE_len]; omega), List.append_nil]
/-- beyond its eight numbers a vector bears nought -/
def tidyV (a : Vc) : Prop := ∀ i, 8 ≤ i → a i = 0
def trimV (a : Vc) : Vc := fun i => if i < 8 then a i else 0
theorem trimV_tidy (a : Vc) : tidyV (trimV a) := fun i hi => by unfold trimV; rw [if_neg (by omega)]
theorem trimV_vE (a : Vc) : vE (trimV a) = vE a := vE_ext fun i hi => by unfold trimV; rw [if_pos hi]
theorem tidy_ext {a b : Vc} (ha : tidyV a) (hb : tidyV b) (h : ∀ i, i < 8 → a i = b i) : a = b := by
  funext i
  by_cases hi : i < 8
  · exact h i hi
  · rw [ha i (by omega), hb i (by omega)]
theorem entE_inj {x y : Ent} (hx : tidyV x.gone) (hy : tidyV y.gone) (h : entE x = entE y) : x = y := by
  unfold entE at h
  obtain ⟨h1, h2⟩ := List.append_inj h (by simp [entH])
  have h3 := vE_inj.1 h2
  obtain ⟨⟨a, b⟩, ⟨c, d⟩, n, ⟨e, f⟩, g⟩ := x
  obtain ⟨⟨a', b'⟩, ⟨c', d'⟩, n', ⟨e', f'⟩, g'⟩ := y
  simp only [entH, List.cons.injEq, PV.i.injEq, PV.s.injEq, true_and, and_true] at h1
  obtain ⟨h1, h4, h5, h6, h7, h8, h9⟩ := h1
  have : g = g' := tidy_ext hx hy h3
  subst this
  have e4 : b = b' := by omega
  have e6 : d = d' := by omega
  have e9 : f = f' := by omega
  subst h1; subst e4; subst h5; subst e6; subst h7; subst h8; subst e9
  rfl
abbrev shEnt : Sh := .st [shId, shId, .str, shId, .arr 8 (.int .u32)]
theorem GC_ent {cs : List PV} (h : GC shEnt cs) : ∃ x : Ent, cs = entE x ∧ tidyV x.gone ∧ x.name.length ≤ maxLen := by
  simp only [GC, GCL] at h
  obtain ⟨c1, r1, rfl, g1, c2, r2, rfl, g2, c3, r3, rfl, ⟨n, rfl, hn⟩, c4, r4, rfl, g4, c5, r5, rfl, g5, rfl⟩ := h
  obtain ⟨a, rfl, _⟩ := GC_id (by simpa only [GC, GCL] using g1)
  obtain ⟨b, rfl, _⟩ := GC_id (by simpa only [GC, GCL] using g2)
  obtain ⟨c, rfl, _⟩ := GC_id (by simpa only [GC, GCL] using g4)
  obtain ⟨v, rfl, _⟩ := GC_vE (by simpa only [GC, GCL] using g5)
  refine ⟨⟨a, b, n, c, trimV v⟩, ?_, trimV_tidy v, hn⟩
  unfold entE
  simp only [trimV_vE]
  simp [idE, entH]
end Go.Proofs.YthleeikkpjiicaaDoor.Fw
namespace Go.Proofs.YthleeikkpjiicaaDoor.Fw
open Go.RowKit Go.Proofs
/-- two owned slices do not overlap -/
theorem overlaps_apart {P : Program} {F : Fr} {N : Nat} {ρ : Nat → Value} {s : FS} {a : Act} {w : World} {tS tR e : TypeId} {sz m n lo hi : Nat} {es fs : List (List PV)} (ht : P.underlying tS = some (.slice e)) (hz : sizeOfT P e = some sz) (h1 : sz ≠ 1)
    (hR : RelR F N ρ s a w) (hm : s.h m = some (.row sz fs)) (hn : s.h n = some (.row sz es)) (hne : m ≠ n) (hfs : fs ≠ []) (hes : es ≠ []) (hlt : lo < hi) {v u : Value}
    (hv : Conc (vw F w ρ s) ρ (.os m) v) (hu : Conc (vw F w ρ s) ρ (.ov n sz lo hi) u) :
    (Extern.SlicesOverlaps.overlaps #[tS, tS] #[tR] #[v, u]).run P w = .ok (.bool false) w := by
  obtain ⟨bm, lm, cm, vm, tym, frm, a1, a2, a3, a4, a5, a6, a7, a8, a9, rfl, a11⟩ := row_cells (hR.own m _ hm) (List.length_pos_iff.2 hfs)
  obtain ⟨bn, ln, cn, vn, tyn, frn, b1, b2, b3, b4, b5, b6, b7, b8, b9, rfl, b11⟩ := row_cells (hR.own n _ hn) (List.length_pos_iff.2 hes)
  simp only [Conc] at hv hu
  obtain ⟨base, len, cap, base', c1, c2, c3, rfl, c4⟩ := hu
  rw [hv.1, a1]
  rw [b1] at c1; cases c1
  have := c4 hlt
  simp only [Option.map_some, add_plain, Nat.zero_add] at this
  subst this
  have hbb : bm ≠ bn := fun e => hne (hR.inj m n _ _ bm hm hn (by rw [a1]; simp [idOf, a7]) (by rw [b1]; simp [idOf, b7, e]))
  have hfr : frm.1 = frm.2 := by rcases a3 with h | h; exact h; exact absurd h.1 h1
  have fz : ∀ o, w.frozen? ⟨bm, o, none⟩ = false := fun o => by
    unfold World.frozen?
    simp only [a2]
    obtain ⟨x, y⟩ := frm
    simp only at hfr
    simp; omega
  exact Lib.run_overlaps_apart w tS tR e ht sz (fun w => run_sizeOf hz w) ⟨bm, 0, none⟩ ⟨bn, lo * sz, none⟩ _ _ _ _ hbb tym tyn vm.length vn.length (by unfold World.shape?; rw [a2]; rfl) (by unfold World.shape?; rw [b2]; rfl)
    (by rw [b5]; exact Nat.mul_ne_zero b7 (by omega)) (fz _) (fz _)
end Go.Proofs.YthleeikkpjiicaaDoor.Fw
namespace Go.Proofs.YthleeikkpjiicaaDoor.Fw
open Go.RowKit Go.Proofs
theorem okOvlE {m n lo hi : Nat} {es fs : List (List PV)} {h} (hm : h m = some (.row 15 fs)) (hn : h n = some (.row 15 es)) (hne : m ≠ n) (hfs : fs ≠ []) (hes : es ≠ []) (hlt : lo < hi) : ExtOk Tryd.prog 60 [.os m, .ov n 15 lo hi] h (.pv (.b false)) := by
  intro F N ρ s a w hR hh vs hc
  simp only [ConcL] at hc
  obtain ⟨v, us, rfl, hv, u, us', rfl, hu, rfl⟩ := hc
  have hsm := (hh m (by simp [tops, tn])).trans hm
  have hsn := (hh n (by simp [tops, tn])).trans hn
  refine ⟨.bool false, ?_, conc_b⟩
  rw [run_callFunc_extern (fn := (Tryd.prog.funcs[60]?).getD default) (by kernel_rfl) (by kernel_rfl) (by kernel_rfl) (by kernel_rfl) (e := Extern.SlicesOverlaps.overlaps #[22, 22] #[4]) (by kernel_rfl)]
  rw [overlaps_apart (tS := 22) (e := 31) (by kernel_rfl) (by kernel_rfl) (by decide) hR hsm hsn hne hfs hes hlt hv hu]
  rfl
set_option maxHeartbeats 4000000 in
theorem okInsE_900_901 (es : List (List PV)) (cs : List PV) (i : Nat) (hi : i ≤ es.length) (hb : es.length ≤ 1000) (hes : ∀ c ∈ es, c.length = 15) (hcs : cs.length = 15) {h d} (h1 : h 900 = some (.row 15 es)) (h2 : h 901 = some (.row 15 [cs])) : FunOk Tryd.prog 45 [.os 900, .pv (.i .i64 i), .os 901] h d (.os d) [.del 900, .del 901, .new d (.row 15 (es.take i ++ cs :: es.drop i))] := by
  refine fun_own mixed fn45 (by simp) rfl fun F => ?_
  simp only [lentNames]
  by_cases he : i = es.length
  · subst he
    have e1 : es.take es.length ++ cs :: es.drop es.length = es ++ [cs] := by simp
    rw [e1]
    (try simp only [brK_e, gdK_e, skK_e, gdA_e, skA_e, pkK_e]); simp (maxSteps := 10000000) (disch := omega) only [ir45, h1, h2, go_sem, ↓reduceIte, Nat.reduceEqDiff, Nat.reduceSub, Nat.reduceLeDiff, Nat.reduceAdd, Int.reduceEq, Int.reduceLT, Int.reduceLE]
  · have hne : es ≠ [] := by intro e; subst e; simp at hi; exact he (by simpa using hi)
    (try simp only [brK_e, gdK_e, skK_e, gdA_e, skA_e, pkK_e]); simp (maxSteps := 10000000) (disch := omega) only [ir45, h1, h2, go_sem, ↓reduceIte, Nat.reduceEqDiff, Nat.reduceSub, Nat.reduceLeDiff, Nat.reduceAdd, Int.reduceEq, Int.reduceLT, Int.reduceLE]
    intro c hc
    by_cases hcap : c < es.length + 1
    · have hp : ((c : Int) < (es.length : Int) + ((1 : Nat) : Int)) = True := eq_true (by omega)
      have ek : ((es.length : Int) + ((1 : Nat) : Int) - (i : Int)).toNat = es.length + 1 - i := by omega
      (try simp only [brK_e, gdK_e, skK_e, gdA_e, skA_e, pkK_e]); simp (maxSteps := 10000000) (disch := omega) only [hp, ek, go_sem, ↓reduceIte, Nat.reduceEqDiff, Nat.reduceSub, Nat.reduceLeDiff, Nat.reduceAdd, Int.reduceEq, Int.reduceLT, Int.reduceLE]
      generalize hT : List.take i es ++ List.replicate (es.length + 1 - i) _ = T
      have hTl : T.length = es.length + 1 := by rw [← hT]; simp; omega
      have t1 : T.take i = es.take i := by
        rw [← hT, List.take_append_of_le_length (by simp; omega), List.take_take, Nat.min_self]
      have hi' : (es.take i).length = i := by simp; omega
      have m1 : min 1 (es.length + 1 - i) = 1 := by omega
      have m2 : [cs].take (es.length + 1 - i) = [cs] := List.take_of_length_le (by simp; omega)
      have hU : (es.take i ++ [cs] ++ T.drop (i + 1)).length = es.length + 1 := by simp [hTl]; omega
      have e1 : ((i : Int) + ((1 : Nat) : Int)).toNat = i + 1 := by omega
      have u1 : (es.take i ++ [cs] ++ T.drop (i + 1)).take (i + 1) = es.take i ++ [cs] := by
        rw [List.take_append_of_le_length (by simp; omega)]
        exact List.take_of_length_le (by simp; omega)
      have u2 : (es.take es.length).drop i = es.drop i := by rw [List.take_length]
      have u3 : min (es.drop i).length (es.length + 1 - (i + 1)) = es.length - i := by simp
      have u4 : (es.drop i).take (es.length + 1 - (i + 1)) = es.drop i := List.take_of_length_le (by simp)
      have u5 : (es.take i ++ [cs] ++ T.drop (i + 1)).drop (i + 1 + (es.length - i)) = [] := List.drop_of_length_le (by rw [hU]; omega)
      have u6 : es.take i ++ cs :: es.drop i = es.take i ++ [cs] ++ es.drop i := by simp
      simp only [hTl, t1, m1, m2, e1, List.length_singleton]
      simp only [hU, u1, u2, u3, u4, u5, u6, List.append_nil]
      exact ⟨by omega, by omega, trivial⟩
    · have hp : ((c : Int) < (es.length : Int) + ((1 : Nat) : Int)) = False := eq_false (by omega)
      (try simp only [brK_e, gdK_e, skK_e, gdA_e, skA_e, pkK_e]); simp (maxSteps := 10000000) (disch := omega) only [hp, go_sem, ↓reduceIte, Nat.reduceEqDiff, Nat.reduceSub, Nat.reduceLeDiff, Nat.reduceAdd, Int.reduceEq, Int.reduceLT, Int.reduceLE]
      intro g hg hgs
      have hg1 : g.length = 1 := by omega
      have e1 : ((i : Int) + ((1 : Nat) : Int)).toNat = i + 1 := by omega
      have hE : (es ++ g).length = es.length + 1 := by simp [hg1]
      refine ⟨by omega, ?_⟩
      rw [e1]
      refine call_ext (okOvlE (es := es ++ g) (fs := [cs]) rfl rfl (by decide) (by simp) (by simp [hne]) (by omega)) ?_
      have v1 : ((es ++ g).take (es ++ g).length).drop i = (es ++ g).drop i := by rw [List.take_length]
      have v2 : min ((es ++ g).drop i).length ((es ++ g).length - (i + 1)) = es.length - i := by simp [hg1]; omega
      have v3 : ((es ++ g).drop i).take ((es ++ g).length - (i + 1)) = es.drop i := by
        rw [hE, List.drop_append_of_le_length hi, show es.length + 1 - (i + 1) = (es.drop i).length from by simp]
        exact List.take_left
      have v4 : (es ++ g).drop (i + 1 + (es.length - i)) = [] := List.drop_of_length_le (by omega)
      have v5 : ((es ++ g).take (i + 1) ++ es.drop i).length = es.length + 1 := by simp [hg1]; omega
      have v6 : ((es ++ g).take (i + 1) ++ es.drop i).take i = es.take i := by
        rw [List.take_append_of_le_length (by simp; omega), List.take_take, Nat.min_eq_left (by omega), List.take_append_of_le_length hi]
      have v7 : ((es ++ g).take (i + 1) ++ es.drop i).drop (i + 1) = es.drop i := by
        rw [List.drop_append_of_le_length (by simp; omega), List.drop_of_length_le (by simp; omega), List.nil_append]
      have m1 : min 1 (es.length + 1 - i) = 1 := by omega
      have m2 : [cs].take (es.length + 1 - i) = [cs] := List.take_of_length_le (by simp; omega)
      have u6 : es.take i ++ cs :: es.drop i = es.take i ++ [cs] ++ es.drop i := by simp
      (try simp only [brK_e, gdK_e, skK_e, gdA_e, skA_e, pkK_e]); simp (maxSteps := 10000000) (disch := omega) only [e1, v1, v2, v3, v4, v5, v6, v7, m1, m2, u6, go_sem, ↓reduceIte, Nat.reduceEqDiff, Nat.reduceSub, Nat.reduceLeDiff, Nat.reduceAdd, Int.reduceEq, Int.reduceLT, Int.reduceLE]
theorem okInsE {m n : Nat} (es : List (List PV)) (cs : List PV) (i : Nat) (hi : i ≤ es.length) (hb : es.length ≤ 1000) (hes : ∀ c ∈ es, c.length = 15) (hcs : cs.length = 15) (hmn : m ≠ n) (hm : m < 900) (hn : n < 900) {h d} (hd : d ≠ m ∧ d ≠ n ∧ d < 900) (h1 : h m = some (.row 15 es)) (h2 : h n = some (.row 15 [cs])) : FunOk Tryd.prog 45 [.os m, .pv (.i .i64 i), .os n] h d (.os d) [.del m, .del n, .new d (.row 15 (es.take i ++ cs :: es.drop i))] := by
  have hπ := sw2_inv (a := 900) (m := m) (b := 901) (n := n) (by omega) (by omega) (by omega) hmn
  have e1 : sw2 900 m 901 n 900 = m := by unfold sw2; simp
  have e2 : sw2 900 m 901 n 901 = n := by unfold sw2; repeat' split <;> (try omega)
  have e3 : sw2 900 m 901 n d = d := by unfold sw2; repeat' split <;> (try omega)
  have := (okInsE_900_901 es cs i hi hb hes hcs (h := fun k => (h (sw2 900 m 901 n k))) (d := d) (by rw [← h1, e1]) (by rw [← h2, e2])).rn (π := sw2 900 m 901 n) hπ (d' := d)
  simp only [SV.rnL, SV.rn, HU.rn, Blk.rn, List.map_cons, List.map_nil, e1, e2, e3] at this
  refine this.at fun k hk => ?_
  simp only [tops, tn, List.append_nil, List.nil_append, List.mem_append, List.mem_singleton] at hk
  simp only [hπ]
  rcases hk with rfl | rfl
  · rw [h1]; rfl
  · rw [h2]; rfl
/-- slices.Clone, of whatever is handed in or lent -/
theorem okCloneE {x : SV} {f : Bool} {z : Nat} {es : List (List PV)} {h d} (hx : lents h [x] = [.pv (.sl f z es)]) (hl : lendable [x] = true) (hz : es = [] ∨ z = 15) (hb : es.length ≤ 1000) (hs : ∀ c ∈ es, c.all PV.flat = true) :
    FunOk Tryd.prog 42 [x] h d (.os d) [.new d (.row 15 es)] := by
  refine fun_rowN mixed fn42 (by simp) hl (.inr hs) fun F => ?_
  rw [hx]
  (try simp only [brK_e, gdK_e, skK_e, gdA_e, skA_e, pkK_e]); simp (maxSteps := 10000000) (disch := omega) only [ir42, go_sem, ↓reduceIte, Nat.reduceEqDiff, Nat.reduceSub, Nat.reduceLeDiff, Nat.reduceAdd, Int.reduceEq, Int.reduceLT, Int.reduceLE]
  intro b hb'
  cases b
  · (try simp only [brK_e, gdK_e, skK_e, gdA_e, skA_e, pkK_e]); simp (maxSteps := 10000000) (disch := omega) only [go_sem, ↓reduceIte, Nat.reduceEqDiff, Nat.reduceSub, Nat.reduceLeDiff, Nat.reduceAdd, Int.reduceEq, Int.reduceLT, Int.reduceLE]
  · have he : es = [] := by
      cases es with
      | nil => rfl
      | cons c l => exact absurd (hb' (by simp)) (by simp)
    subst he
    (try simp only [brK_e, gdK_e, skK_e, gdA_e, skA_e, pkK_e]); simp (maxSteps := 10000000) (disch := omega) only [go_sem, ↓reduceIte, Nat.reduceEqDiff, Nat.reduceSub, Nat.reduceLeDiff, Nat.reduceAdd, Int.reduceEq, Int.reduceLT, Int.reduceLE]
    decide
end Go.Proofs.YthleeikkpjiicaaDoor.Fw
namespace Go.Proofs.YthleeikkpjiicaaDoor.Fw
open Go.RowKit Go.Proofs
/-! Lists of entries in the order of their numbers, as what they tell of each number. -/
abbrev ilt (a b : Idn) : Bool := idLt a.1 a.2 b.1 b.2
theorem ilt_iff {a b : Idn} : ilt a b = true ↔ a.2 < b.2 ∨ a.2 = b.2 ∧ a.1 < b.1 := by simp [ilt, idLt]
theorem ilt_trans {a b c : Idn} (h : ilt a b = true) (k : ilt b c = true) : ilt a c = true := by rw [ilt_iff] at *; omega
theorem ilt_irr {a : Idn} : ¬ ilt a a = true := by rw [ilt_iff]; omega
theorem ilt_as {a b : Idn} (h : ilt a b = true) : ¬ ilt b a = true := by rw [ilt_iff] at *; omega
theorem ilt_tot {a b : Idn} (h : ¬ ilt a b = true) (k : a ≠ b) : ilt b a = true := by
  rw [ilt_iff] at *
  by_cases e : a.2 = b.2
  · have : a.1 ≠ b.1 := fun e1 => k (Prod.ext e1 e)
    omega
  · omega
def SortE (l : List Ent) : Prop := l.Pairwise fun a b => ilt a.id b.id = true
def look : List Ent → Idn → Option Ent
  | [], _ => none
  | x :: l, i => if x.id = i then some x else look l i
theorem look_some {l : List Ent} {i : Idn} {x : Ent} (h : look l i = some x) : x ∈ l ∧ x.id = i := by
  induction l with
  | nil => simp [look] at h
  | cons y l ih =>
    simp only [look] at h
    split at h
    · cases h; exact ⟨List.mem_cons_self, by assumption⟩
    · exact ⟨List.mem_cons_of_mem _ (ih h).1, (ih h).2⟩
theorem look_none {l : List Ent} {i : Idn} : look l i = none ↔ ∀ x ∈ l, x.id ≠ i := by
  induction l with
  | nil => simp [look]
  | cons y l ih =>
    simp only [look]
    by_cases h : y.id = i
    · rw [if_pos h]
      exact ⟨fun e => (nomatch e), fun e => absurd h (e y List.mem_cons_self)⟩
    · rw [if_neg h, ih]
      simp only [List.mem_cons, forall_eq_or_imp]
      exact ⟨fun e => ⟨h, e⟩, fun e => e.2⟩
theorem look_mem {l : List Ent} (hs : SortE l) {x : Ent} (h : x ∈ l) : look l x.id = some x := by
  induction l with
  | nil => cases h
  | cons y l ih =>
    obtain ⟨h1, h2⟩ := List.pairwise_cons.1 hs
    simp only [look]
    rcases List.mem_cons.1 h with rfl | h
    · rw [if_pos rfl]
    · rw [if_neg fun e => ilt_irr (by have := h1 x h; rwa [e] at this)]
      exact ih h2 h
theorem look_ext : ∀ {l m : List Ent}, SortE l → SortE m → (∀ i, look l i = look m i) → l = m
  | [], [], _, _, _ => rfl
  | [], y :: m, _, _, h => by have := h y.id; simp [look] at this
  | x :: l, [], _, _, h => by have := h x.id; simp [look] at this
  | x :: l, y :: m, hl, hm, h => by
    obtain ⟨h1, h2⟩ := List.pairwise_cons.1 hl
    obtain ⟨k1, k2⟩ := List.pairwise_cons.1 hm
    have ex : x = y := by
      have a : x ∈ y :: m := (look_some (by rw [← h x.id]; simp [look])).1
      have b : y ∈ x :: l := (look_some (by rw [h y.id]; simp [look])).1
      rcases List.mem_cons.1 a with a | a
      · exact a
      · rcases List.mem_cons.1 b with b | b
        · exact b.symm
        · exact absurd (h1 y b) (ilt_as (k1 x a))
    subst ex
    congr 1
    refine look_ext h2 k2 fun i => ?_
    by_cases e : x.id = i
    · subst e
      rw [look_none.2 fun z hz e => ilt_irr (by have := h1 z hz; rwa [e] at this), look_none.2 fun z hz e => ilt_irr (by have := k1 z hz; rwa [e] at this)]
    · have := h i
      simpa only [look, if_neg e] using this
/-- the place of a number, or where it would stand -/
def posE (l : List Ent) (i : Idn) : Nat := l.findIdx fun x => !ilt x.id i
theorem posE_le (l : List Ent) (i : Idn) : posE l i ≤ l.length := List.findIdx_le_length
theorem posE_cons (x : Ent) (l : List Ent) (i : Idn) : posE (x :: l) i = if ilt x.id i = true then posE l i + 1 else 0 := by
  unfold posE
  rw [List.findIdx_cons]
  cases ilt x.id i <;> simp
theorem pos_lt {l : List Ent} {i : Idn} {k : Nat} (hk : k < posE l i) : ∃ x, l[k]? = some x ∧ ilt x.id i = true := by
  have hl : k < l.length := Nat.lt_of_lt_of_le hk (posE_le l i)
  refine ⟨l[k], by simp [hl], ?_⟩
  have := List.not_of_lt_findIdx hk
  simpa using this
theorem pos_ge {l : List Ent} (hs : SortE l) {i : Idn} {k : Nat} (hk : posE l i ≤ k) {x : Ent} (hx : l[k]? = some x) : ¬ ilt x.id i = true := by
  obtain ⟨hl, rfl⟩ := List.getElem?_eq_some_iff.1 hx
  have hp : posE l i < l.length := by omega
  have h0 : ¬ ilt l[posE l i].id i = true := by
    have : (!ilt (l[posE l i]'hp).id i) = true := List.findIdx_getElem (p := fun x : Ent => !ilt x.id i) (w := hp)
    simpa using this
  by_cases e : posE l i = k
  · subst e; exact h0
  · have := List.pairwise_iff_getElem.1 hs (posE l i) k hp hl (by omega)
    exact fun h => h0 (ilt_trans this h)
/-- where a walk that only asks which are less comes to an end -/
theorem posE_eq {l : List Ent} {i : Idn} {k : Nat} (hk : k ≤ l.length) (h1 : ∀ j x, j < k → l[j]? = some x → ilt x.id i = true) (h2 : ∀ x, l[k]? = some x → ¬ ilt x.id i = true) : posE l i = k := by
  rcases Nat.lt_trichotomy (posE l i) k with h | h | h
  · have hl : posE l i < l.length := by omega
    have h0 : (!ilt (l[posE l i]'hl).id i) = true := List.findIdx_getElem (p := fun x : Ent => !ilt x.id i) (w := hl)
    have := h1 _ _ h (List.getElem?_eq_getElem hl)
    rw [this] at h0; simp at h0
  · exact h
  · obtain ⟨x, e1, e2⟩ := pos_lt h
    exact absurd e2 (h2 x e1)
def isE (l : List Ent) (i : Idn) : Bool := (look l i).isSome
theorem look_pos {l : List Ent} (hs : SortE l) (i : Idn) : look l i = match l[posE l i]? with | some x => if x.id = i then some x else none | none => none := by
  induction l with
  | nil => simp [look]
  | cons y l ih =>
    obtain ⟨h1, h2⟩ := List.pairwise_cons.1 hs
    rw [posE_cons]
    simp only [look]
    by_cases e : y.id = i
    · have : ¬ ilt y.id i = true := by rw [e]; exact ilt_irr
      rw [if_neg this, if_pos e]
      simp [e]
    · rw [if_neg e]
      by_cases hl : ilt y.id i = true
      · rw [if_pos hl, List.getElem?_cons_succ]; exact ih h2
      · rw [if_neg hl, List.getElem?_cons_zero]
        simp only [e, if_false]
        exact look_none.2 fun z hz ez => ilt_irr (by have := ilt_trans (ilt_tot hl e) (h1 z hz); rwa [ez] at this)
theorem sort_get {l : List Ent} (hs : SortE l) {j m : Nat} {x v : Ent} (hj : l[j]? = some x) (hm : l[m]? = some v) (h : j < m) : ilt x.id v.id = true := by
  obtain ⟨h1, rfl⟩ := List.getElem?_eq_some_iff.1 hj
  obtain ⟨h2, rfl⟩ := List.getElem?_eq_some_iff.1 hm
  exact List.pairwise_iff_getElem.1 hs j m h1 h2 h
/-- one more among them -/
def insE (l : List Ent) (x : Ent) : List Ent := l.take (posE l x.id) ++ x :: l.drop (posE l x.id)
theorem insE_cons (y : Ent) (l : List Ent) (x : Ent) : insE (y :: l) x = if ilt y.id x.id = true then y :: insE l x else x :: y :: l := by
  unfold insE
  rw [posE_cons]
  split <;> simp
theorem look_ins {l : List Ent} (hs : SortE l) {x : Ent} (i : Idn) (hn : look l x.id = none) : look (insE l x) i = if x.id = i then some x else look l i := by
  induction l with
  | nil => simp [insE, posE, look]
  | cons y l ih =>
    obtain ⟨h1, h2⟩ := List.pairwise_cons.1 hs
    have hy : y.id ≠ x.id := look_none.1 hn y List.mem_cons_self
    have hn' : look l x.id = none := look_none.2 fun z hz => look_none.1 hn z (List.mem_cons_of_mem _ hz)
    rw [insE_cons]
    split
    · simp only [look]
      rw [ih h2 hn']
      by_cases e : y.id = i
      · rw [if_pos e, if_pos e, if_neg fun e2 => hy (by rw [e, e2])]
      · rw [if_neg e, if_neg e]
    · simp only [look]
theorem mem_ins {l : List Ent} {x z : Ent} : z ∈ insE l x ↔ z = x ∨ z ∈ l := by
  unfold insE
  have := List.take_append_drop (posE l x.id) l
  constructor
  · intro h
    rcases List.mem_append.1 h with h | h
    · exact .inr (List.mem_of_mem_take h)
    · rcases List.mem_cons.1 h with h | h
      · exact .inl h
      · exact .inr (List.mem_of_mem_drop h)
  · intro h
    rcases h with rfl | h
    · simp
    · rw [← this] at h
      rcases List.mem_append.1 h with h | h
      · exact List.mem_append_left _ h
      · exact List.mem_append_right _ (List.mem_cons_of_mem _ h)
theorem sort_ins {l : List Ent} (hs : SortE l) {x : Ent} (hn : look l x.id = none) : SortE (insE l x) := by
  induction l with
  | nil => simp [insE, posE, SortE]
  | cons y l ih =>
    obtain ⟨h1, h2⟩ := List.pairwise_cons.1 hs
    have hy : y.id ≠ x.id := look_none.1 hn y List.mem_cons_self
    have hn' : look l x.id = none := look_none.2 fun z hz => look_none.1 hn z (List.mem_cons_of_mem _ hz)
    rw [insE_cons]
    split
    · rename_i hl
      refine List.Pairwise.cons (fun z hz => ?_) (ih h2 hn')
      rcases mem_ins.1 hz with rfl | hz
      · exact hl
      · exact h1 z hz
    · rename_i hl
      have hxy : ilt x.id y.id = true := ilt_tot hl hy
      refine List.Pairwise.cons (fun z hz => ?_) hs
      rcases List.mem_cons.1 hz with rfl | hz
      · exact hxy
      · exact ilt_trans hxy (h1 z hz)
/-- each entry changed, its number kept -/
theorem look_map {l : List Ent} {f : Ent → Ent} (hf : ∀ x, (f x).id = x.id) (i : Idn) : look (l.map f) i = (look l i).map f := by
  induction l with
  | nil => rfl
  | cons y l ih =>
    simp only [List.map_cons, look, hf]
    split <;> simp [ih]
theorem sort_map {l : List Ent} {f : Ent → Ent} (hf : ∀ x, (f x).id = x.id) (hs : SortE l) : SortE (l.map f) := by
  unfold SortE
  rw [List.pairwise_map]
  exact hs.imp fun h => by simpa only [hf] using h
/-- the entry of a number changed -/
def modE (l : List Ent) (i : Idn) (f : Ent → Ent) : List Ent := l.map fun x => if x.id = i then f x else x
theorem modE_id {i : Idn} {f : Ent → Ent} (hf : ∀ x, (f x).id = x.id) (x : Ent) : (if x.id = i then f x else x).id = x.id := by split <;> simp [hf]
theorem look_mod {l : List Ent} {f : Ent → Ent} (hf : ∀ x, (f x).id = x.id) (i j : Idn) : look (modE l i f) j = if i = j then (look l j).map f else look l j := by
  unfold modE
  rw [look_map (modE_id hf)]
  cases h : look l j with
  | none => simp
  | some x =>
    have := (look_some h).2
    subst this
    by_cases e : x.id = i
    · subst e; simp
    · have e' : ¬ i = x.id := fun q => e q.symm
      simp [e, e']
theorem sort_mod {l : List Ent} {f : Ent → Ent} (hf : ∀ x, (f x).id = x.id) (hs : SortE l) (i : Idn) : SortE (modE l i f) := sort_map (modE_id hf) hs
theorem set_mod {l : List Ent} (hs : SortE l) {i : Idn} {f : Ent → Ent} {x : Ent} (h : look l i = some x) : l.set (posE l i) (f x) = modE l i f := by
  induction l with
  | nil => simp [look] at h
  | cons y l ih =>
    obtain ⟨h1, h2⟩ := List.pairwise_cons.1 hs
    rw [posE_cons]
    simp only [look] at h
    by_cases e : y.id = i
    · rw [if_pos e] at h
      cases h
      rw [if_neg (by rw [e]; exact ilt_irr)]
      simp only [List.set_cons_zero, modE, List.map_cons, if_pos e]
      congr 1
      have e1 : ∀ z ∈ l, (if z.id = i then f z else z) = id z := fun z hz => by
        rw [if_neg fun ez => ilt_irr (by have := h1 z hz; rwa [e, ez] at this)]; rfl
      rw [List.map_congr_left e1, List.map_id]
    · rw [if_neg e] at h
      have hx := look_some h
      have : ilt y.id i = true := by rw [← hx.2]; exact h1 x hx.1
      rw [if_pos this, List.set_cons_succ, ih h2 h]
      simp [modE, e]
/-- entries with one more -/
def addL (l : List Ent) (x : Ent) : List Ent := if isE l x.id = true then l else insE l x
end Go.Proofs.YthleeikkpjiicaaDoor.Fw
namespace Go.Proofs.YthleeikkpjiicaaDoor.Fw
open Go.RowKit Go.Proofs
def cmpI (a b : Idn) : Int := if ilt a b = true then -1 else if ilt b a = true then 1 else 0
theorem okByID (a b : Idn) {h d} : FunOk Tryd.prog 59 [.vec 2 [.i .i64 a.1, .i .u32 a.2], .vec 2 [.i .i64 b.1, .i .u32 b.2]] h d (.pv (.i .i64 (cmpI a b))) [] := by
  refine fun_pure mixed fn59 (by simp) rfl rfl fun F => ?_
  (try simp only [brK_e, gdK_e, skK_e, gdA_e, skA_e, pkK_e]); simp (maxSteps := 10000000) (disch := omega) only [ir59, go_sem, ↓reduceIte, Nat.reduceEqDiff, Nat.reduceSub, Nat.reduceLeDiff, Nat.reduceAdd, Int.reduceEq, Int.reduceLT, Int.reduceLE]
  refine call_with (okLess _ _ _ _) ?_
  by_cases h1 : idLt a.1 a.2 b.1 b.2 = true
  · have e : cmpI a b = -1 := if_pos h1
    (try simp only [brK_e, gdK_e, skK_e, gdA_e, skA_e, pkK_e]); simp (maxSteps := 10000000) (disch := omega) only [h1, e, go_sem, ↓reduceIte, Nat.reduceEqDiff, Nat.reduceSub, Nat.reduceLeDiff, Nat.reduceAdd, Int.reduceEq, Int.reduceLT, Int.reduceLE]
  · have h1' : idLt a.1 a.2 b.1 b.2 = false := by simpa using h1
    (try simp only [brK_e, gdK_e, skK_e, gdA_e, skA_e, pkK_e]); simp (maxSteps := 10000000) (disch := omega) only [h1', go_sem, ↓reduceIte, Nat.reduceEqDiff, Nat.reduceSub, Nat.reduceLeDiff, Nat.reduceAdd, Int.reduceEq, Int.reduceLT, Int.reduceLE]
    refine call_with (okLess _ _ _ _) ?_
    by_cases h2 : idLt b.1 b.2 a.1 a.2 = true
    · have e : cmpI a b = 1 := by unfold cmpI; rw [if_neg h1, if_pos h2]
      (try simp only [brK_e, gdK_e, skK_e, gdA_e, skA_e, pkK_e]); simp (maxSteps := 10000000) (disch := omega) only [h2, e, go_sem, ↓reduceIte, Nat.reduceEqDiff, Nat.reduceSub, Nat.reduceLeDiff, Nat.reduceAdd, Int.reduceEq, Int.reduceLT, Int.reduceLE]
    · have h2' : idLt b.1 b.2 a.1 a.2 = false := by simpa using h2
      have e : cmpI a b = 0 := by unfold cmpI; rw [if_neg h1, if_neg h2]
      (try simp only [brK_e, gdK_e, skK_e, gdA_e, skA_e, pkK_e]); simp (maxSteps := 10000000) (disch := omega) only [h2', e, go_sem, ↓reduceIte, Nat.reduceEqDiff, Nat.reduceSub, Nat.reduceLeDiff, Nat.reduceAdd, Int.reduceEq, Int.reduceLT, Int.reduceLE]
theorem okAtF (x : Ent) (b : Idn) {h d} : FunOk Tryd.prog 58 [.vec 15 (entE x), .vec 2 [.i .i64 b.1, .i .u32 b.2]] h d (.pv (.i .i64 (cmpI x.id b))) [] := by
  refine fun_pure mixed fn58 (by simp) rfl rfl fun F => ?_
  (try simp only [brK_e, gdK_e, skK_e, gdA_e, skA_e, pkK_e]); simp (maxSteps := 10000000) (disch := omega) only [ir58, ld_entId, go_sem, ↓reduceIte, Nat.reduceEqDiff, Nat.reduceSub, Nat.reduceLeDiff, Nat.reduceAdd, Int.reduceEq, Int.reduceLT, Int.reduceLE]
  refine call_with (okByID _ _) ?_
  (try simp only [brK_e, gdK_e, skK_e, gdA_e, skA_e, pkK_e]); simp (maxSteps := 10000000) (disch := omega) only [go_sem, ↓reduceIte, Nat.reduceEqDiff, Nat.reduceSub, Nat.reduceLeDiff, Nat.reduceAdd, Int.reduceEq, Int.reduceLT, Int.reduceLE]
theorem cmpI_lt {a b : Idn} : (cmpI a b < 0) = (ilt a b = true) := by
  unfold cmpI
  by_cases h : ilt a b = true
  · rw [if_pos h]; simp [h]
  · rw [if_neg h]; split <;> simp [h]
theorem cmpI_eq {a b : Idn} : (cmpI a b = 0) = (a = b) := by
  unfold cmpI
  by_cases h : ilt a b = true
  · rw [if_pos h]
    refine propext ⟨fun e => by omega, fun e => ?_⟩
    subst e; exact absurd h ilt_irr
  · rw [if_neg h]
    by_cases k : ilt b a = true
    · rw [if_pos k]
      refine propext ⟨fun e => by omega, fun e => ?_⟩
      subst e; exact absurd k ilt_irr
    · rw [if_neg k]
      refine propext ⟨fun _ => ?_, fun _ => rfl⟩
      exact Classical.byContradiction fun e => k (ilt_tot h e)
def stBsf (f : Bool) (l : List Ent) (i : Idn) (p : Nat × Nat) : FS := mk [(9, .pv (.i .i64 p.1)), (10, .pv (.i .i64 p.2)), (8, .pv (.i .i64 l.length)), (0, .pv (.sl f 15 (l.map entE))), (2, .fn (.func 58) []), (4, .p 4 0)] [(4, some (.var (.vec 2 [.i .i64 i.1, .i .u32 i.2])))]
set_option maxHeartbeats 1000000 in
theorem okBsf {x : SV} {f : Bool} {l : List Ent} (i : Idn) {h d} (hx : lents h [x, .vec 2 [.i .i64 i.1, .i .u32 i.2], .fn (.func 58) []] = [.pv (.sl f 15 (l.map entE)), .vec 2 [.i .i64 i.1, .i .u32 i.2], .fn (.func 58) []]) (hl : lendable [x, .vec 2 [.i .i64 i.1, .i .u32 i.2], .fn (.func 58) []] = true) (hs : SortE l) (hn : l.length ≤ 1000) :
    FunOk Tryd.prog 57 [x, .vec 2 [.i .i64 i.1, .i .u32 i.2], .fn (.func 58) []] h d (.tup [.pv (.i .i64 (posE l i)), .pv (.b (isE l i))]) [] := by
  refine fun_scalar mixed fn57 (by simp) hl rfl fun F => ?_
  rw [hx]
  (try simp only [brK_e, gdK_e, skK_e, gdA_e, skA_e, pkK_e]); simp (maxSteps := 10000000) (disch := omega) only [ir57, List.length_map, go_sem, ↓reduceIte, Nat.reduceEqDiff, Nat.reduceSub, Nat.reduceLeDiff, Nat.reduceAdd, Int.reduceEq, Int.reduceLT, Int.reduceLE]
  refine loop_ok mixed (stBsf f l i) (fun p => p.1 ≤ p.2 ∧ p.2 ≤ l.length ∧ (∀ j x, j < p.1 → l[j]? = some x → ilt x.id i = true) ∧ ∀ j x, p.2 ≤ j → l[j]? = some x → ¬ ilt x.id i = true) (fun p => p.2 - p.1) (0, l.length) ⟨by simp, by simp, by simp, fun j x hj hx => by simp only at hj; rw [List.getElem?_eq_none hj] at hx; cases hx⟩ (weak_mk ?_ ?_) fun p hp => ?_
  · (try simp only [brK_e, gdK_e, skK_e, gdA_e, skA_e, pkK_e]); simp (maxSteps := 10000000) (disch := omega) only [go_sem, ↓reduceIte, Nat.reduceEqDiff, Nat.reduceSub, Nat.reduceLeDiff, Nat.reduceAdd, Int.reduceEq, Int.reduceLT, Int.reduceLE]
  · (try simp only [brK_e, gdK_e, skK_e, gdA_e, skA_e, pkK_e]); simp (maxSteps := 10000000) (disch := omega) only [go_sem, ↓reduceIte, Nat.reduceEqDiff, Nat.reduceSub, Nat.reduceLeDiff, Nat.reduceAdd, Int.reduceEq, Int.reduceLT, Int.reduceLE]
  obtain ⟨a, b⟩ := p
  obtain ⟨p1, p2, p3, p4⟩ := hp
  simp only at p1 p2 p3 p4
  by_cases hlt : a < b
  · have hm : (a + b) / 2 < l.length := by omega
    have hx : l[(a + b) / 2]? = some l[(a + b) / 2] := List.getElem?_eq_getElem hm
    have he : (l.map entE)[(a + b) / 2]? = some (entE l[(a + b) / 2]) := by rw [List.getElem?_map, hx]; rfl
    have e1 : ((a : Int) + (b : Int)).fdiv (2 ^ min (Int.toNat 1) 64) = (((a + b) / 2 : Nat) : Int) := by
      rw [show (2 : Int) ^ min (Int.toNat 1) 64 = 2 from rfl, Int.fdiv_eq_ediv_of_nonneg _ (by omega)]; omega
    have hm1 : a ≤ (a + b) / 2 := by omega
    have hm2 : (a + b) / 2 < b := by omega
    generalize l[(a + b) / 2] = v at *
    generalize (a + b) / 2 = m at *
    (try simp only [brK_e, gdK_e, skK_e, gdA_e, skA_e, pkK_e]); simp (maxSteps := 10000000) (disch := omega) only [stBsf, List.length_map, e1, he, ld_ent, go_sem, ↓reduceIte, Nat.reduceEqDiff, Nat.reduceSub, Nat.reduceLeDiff, Nat.reduceAdd, Int.reduceEq, Int.reduceLT, Int.reduceLE]
    refine call_with (okAtF v i) ?_
    by_cases hc : ilt v.id i = true
    · have e2 : (cmpI v.id i < 0) = True := by rw [cmpI_lt]; exact eq_true hc
      (try simp only [brK_e, gdK_e, skK_e, gdA_e, skA_e, pkK_e]); simp (maxSteps := 10000000) (disch := omega) only [e2, go_sem, ↓reduceIte, Nat.reduceEqDiff, Nat.reduceSub, Nat.reduceLeDiff, Nat.reduceAdd, Int.reduceEq, Int.reduceLT, Int.reduceLE]
      refine loop_next (x := (a, b)) (m + 1, b) _ _ rfl ⟨by show m + 1 ≤ b; omega, p2, fun j x hj hx' => ?_, p4⟩ (by show b - (m + 1) < b - a; omega) ?_ ?_
      · by_cases e : j = m
        · subst e; rw [hx] at hx'; cases hx'; exact hc
        · exact ilt_trans (sort_get hs hx' hx (by simp only at hj; omega)) hc
      · (try simp only [brK_e, gdK_e, skK_e, gdA_e, skA_e, pkK_e]); simp (maxSteps := 10000000) (disch := omega) only [go_sem, ↓reduceIte, Nat.reduceEqDiff, Nat.reduceSub, Nat.reduceLeDiff, Nat.reduceAdd, Int.reduceEq, Int.reduceLT, Int.reduceLE]
      · (try simp only [brK_e, gdK_e, skK_e, gdA_e, skA_e, pkK_e]); simp (maxSteps := 10000000) (disch := omega) only [go_sem, ↓reduceIte, Nat.reduceEqDiff, Nat.reduceSub, Nat.reduceLeDiff, Nat.reduceAdd, Int.reduceEq, Int.reduceLT, Int.reduceLE]
    · have e2 : (cmpI v.id i < 0) = False := by rw [cmpI_lt]; exact eq_false hc
      (try simp only [brK_e, gdK_e, skK_e, gdA_e, skA_e, pkK_e]); simp (maxSteps := 10000000) (disch := omega) only [e2, go_sem, ↓reduceIte, Nat.reduceEqDiff, Nat.reduceSub, Nat.reduceLeDiff, Nat.reduceAdd, Int.reduceEq, Int.reduceLT, Int.reduceLE]
      refine loop_next (x := (a, b)) (a, m) _ _ rfl ⟨by show a ≤ m; omega, by show m ≤ _; omega, p3, fun j x hj hx' => ?_⟩ (by show m - a < b - a; omega) ?_ ?_
      · by_cases e : j = m
        · subst e; rw [hx] at hx'; cases hx'; exact hc
        · exact fun q => hc (ilt_trans (sort_get hs hx hx' (by simp only at hj; omega)) q)
      · (try simp only [brK_e, gdK_e, skK_e, gdA_e, skA_e, pkK_e]); simp (maxSteps := 10000000) (disch := omega) only [go_sem, ↓reduceIte, Nat.reduceEqDiff, Nat.reduceSub, Nat.reduceLeDiff, Nat.reduceAdd, Int.reduceEq, Int.reduceLT, Int.reduceLE]
      · (try simp only [brK_e, gdK_e, skK_e, gdA_e, skA_e, pkK_e]); simp (maxSteps := 10000000) (disch := omega) only [go_sem, ↓reduceIte, Nat.reduceEqDiff, Nat.reduceSub, Nat.reduceLeDiff, Nat.reduceAdd, Int.reduceEq, Int.reduceLT, Int.reduceLE]
  · obtain rfl : a = b := by omega
    have hpos : posE l i = a := posE_eq p2 p3 fun x hx' => p4 a x (Nat.le_refl a) hx'
    by_cases hal : a < l.length
    · have hx' : l[a]? = some l[a] := List.getElem?_eq_getElem hal
      have he : (l.map entE)[a]? = some (entE l[a]) := by rw [List.getElem?_map, hx']; rfl
      have hk := look_pos hs i
      rw [hpos, hx'] at hk
      generalize l[a] = v at *
      (try simp only [brK_e, gdK_e, skK_e, gdA_e, skA_e, pkK_e]); simp (maxSteps := 10000000) (disch := omega) only [stBsf, hal, he, ld_ent, List.length_map, go_sem, ↓reduceIte, Nat.reduceEqDiff, Nat.reduceSub, Nat.reduceLeDiff, Nat.reduceAdd, Int.reduceEq, Int.reduceLT, Int.reduceLE]
      refine call_with (okAtF v i) ?_
      by_cases hv : v.id = i
      · have e2 : (cmpI v.id i = 0) = True := by rw [cmpI_eq]; exact eq_true hv
        have e3 : isE l i = true := by unfold isE; rw [hk]; simp [hv]
        (try simp only [brK_e, gdK_e, skK_e, gdA_e, skA_e, pkK_e]); simp (maxSteps := 10000000) (disch := omega) only [e2, e3, hpos, go_sem, ↓reduceIte, Nat.reduceEqDiff, Nat.reduceSub, Nat.reduceLeDiff, Nat.reduceAdd, Int.reduceEq, Int.reduceLT, Int.reduceLE]
      · have e2 : (cmpI v.id i = 0) = False := by rw [cmpI_eq]; exact eq_false hv
        have e3 : isE l i = false := by unfold isE; rw [hk]; simp [hv]
        (try simp only [brK_e, gdK_e, skK_e, gdA_e, skA_e, pkK_e]); simp (maxSteps := 10000000) (disch := omega) only [e2, e3, hpos, go_sem, ↓reduceIte, Nat.reduceEqDiff, Nat.reduceSub, Nat.reduceLeDiff, Nat.reduceAdd, Int.reduceEq, Int.reduceLT, Int.reduceLE]
    · have hk := look_pos hs i
      rw [hpos, List.getElem?_eq_none (by omega)] at hk
      have e3 : isE l i = false := by unfold isE; rw [hk]; rfl
      (try simp only [brK_e, gdK_e, skK_e, gdA_e, skA_e, pkK_e]); simp (maxSteps := 10000000) (disch := omega) only [stBsf, hal, hpos, e3, go_sem, ↓reduceIte, Nat.reduceEqDiff, Nat.reduceSub, Nat.reduceLeDiff, Nat.reduceAdd, Int.reduceEq, Int.reduceLT, Int.reduceLE]
theorem okAtE {x : SV} {f : Bool} {l : List Ent} (i : Idn) {h d} (hx : lents h [x, .vec 2 [.i .i64 i.1, .i .u32 i.2]] = [.pv (.sl f 15 (l.map entE)), .vec 2 [.i .i64 i.1, .i .u32 i.2]]) (hl : lendable [x, .vec 2 [.i .i64 i.1, .i .u32 i.2]] = true) (hs : SortE l) (hn : l.length ≤ 1000) :
    FunOk Tryd.prog 43 [x, .vec 2 [.i .i64 i.1, .i .u32 i.2]] h d (.tup [.pv (.i .i64 (posE l i)), .pv (.b (isE l i))]) [] := by
  refine fun_scalar mixed fn43 (by simp) hl rfl fun F => ?_
  rw [hx]
  (try simp only [brK_e, gdK_e, skK_e, gdA_e, skA_e, pkK_e]); simp (maxSteps := 10000000) (disch := omega) only [ir43, go_sem, ↓reduceIte, Nat.reduceEqDiff, Nat.reduceSub, Nat.reduceLeDiff, Nat.reduceAdd, Int.reduceEq, Int.reduceLT, Int.reduceLE]
  refine call_with (okBsf (l := l) i rfl rfl hs hn) ?_
  (try simp only [brK_e, gdK_e, skK_e, gdA_e, skA_e, pkK_e]); simp (maxSteps := 10000000) (disch := omega) only [go_sem, ↓reduceIte, Nat.reduceEqDiff, Nat.reduceSub, Nat.reduceLeDiff, Nat.reduceAdd, Int.reduceEq, Int.reduceLT, Int.reduceLE]
theorem okAliveE (x : Ent) {h d} : FunOk Tryd.prog 28 [.vec 15 (entE x)] h d (.pv (.b (decide (vEq x.gone fun _ => 0)))) [] := by
  refine fun_pure mixed fn28 (by simp) rfl rfl fun F => ?_
  (try simp only [brK_e, gdK_e, skK_e, gdA_e, skA_e, pkK_e]); simp (maxSteps := 10000000) (disch := omega) only [ir28, ld_entBy, go_sem, ↓reduceIte, Nat.reduceEqDiff, Nat.reduceSub, Nat.reduceLeDiff, Nat.reduceAdd, Int.reduceEq, Int.reduceLT, Int.reduceLE]
theorem okAddE {a : SV} {f : Bool} {l : List Ent} (x : Ent) {h d} (hx : lents h [a, .vec 15 (entE x)] = [.pv (.sl f 15 (l.map entE)), .vec 15 (entE x)]) (hl : lendable [a, .vec 15 (entE x)] = true) (hs : SortE l) (hn : l.length ≤ 1000) :
    FunOk Tryd.prog 23 [a, .vec 15 (entE x)] h d (.os d) [.new d (.row 15 ((addL l x).map entE))] := by
  refine fun_row mixed fn23 (by simp) hl (.inr (entE_flat _)) fun F => ?_
  rw [hx]
  (try simp only [brK_e, gdK_e, skK_e, gdA_e, skA_e, pkK_e]); simp (maxSteps := 10000000) (disch := omega) only [ir23, ld_entId, go_sem, ↓reduceIte, Nat.reduceEqDiff, Nat.reduceSub, Nat.reduceLeDiff, Nat.reduceAdd, Int.reduceEq, Int.reduceLT, Int.reduceLE]
  refine call_with (okAtE (l := l) x.id rfl rfl hs hn) ?_
  have hfl := entE_flat l
  by_cases hi : isE l x.id = true
  · have e : addL l x = l := by unfold addL; rw [if_pos hi]
    (try simp only [brK_e, gdK_e, skK_e, gdA_e, skA_e, pkK_e]); simp (maxSteps := 10000000) (disch := omega) only [hi, e, go_sem, ↓reduceIte, Nat.reduceEqDiff, Nat.reduceSub, Nat.reduceLeDiff, Nat.reduceAdd, Int.reduceEq, Int.reduceLT, Int.reduceLE]
    refine call_with (okCloneE (es := l.map entE) rfl rfl (.inr rfl) (by simp; omega) hfl) ?_
    (try simp only [brK_e, gdK_e, skK_e, gdA_e, skA_e, pkK_e]); simp (maxSteps := 10000000) (disch := omega) only [go_sem, ↓reduceIte, Nat.reduceEqDiff, Nat.reduceSub, Nat.reduceLeDiff, Nat.reduceAdd, Int.reduceEq, Int.reduceLT, Int.reduceLE]
  · have hi' : isE l x.id = false := by simpa using hi
    have e : addL l x = insE l x := by unfold addL; rw [if_neg hi]
    have hc := entE_len x
    (try simp only [brK_e, gdK_e, skK_e, gdA_e, skA_e, pkK_e]); simp (maxSteps := 10000000) (disch := omega) only [hi', e, go_sem, ↓reduceIte, Nat.reduceEqDiff, Nat.reduceSub, Nat.reduceLeDiff, Nat.reduceAdd, Int.reduceEq, Int.reduceLT, Int.reduceLE]
    refine call_with (okCloneE (es := l.map entE) rfl rfl (.inr rfl) (by simp; omega) hfl) ?_
    (try simp only [brK_e, gdK_e, skK_e, gdA_e, skA_e, pkK_e]); simp (maxSteps := 10000000) (disch := omega) only [hc, ld_ent, go_sem, ↓reduceIte, Nat.reduceEqDiff, Nat.reduceSub, Nat.reduceLeDiff, Nat.reduceAdd, Int.reduceEq, Int.reduceLT, Int.reduceLE]
    have hp := posE_le l x.id
    refine call_with (okInsE (l.map entE) (entE x) (posE l x.id) (by simp; omega) (by simp; omega) (fun c hc => by obtain ⟨y, _, rfl⟩ := List.mem_map.1 hc; exact entE_len y) hc (by decide) (by decide) (by decide) (by decide) rfl rfl) ?_
    (try simp only [brK_e, gdK_e, skK_e, gdA_e, skA_e, pkK_e]); simp (maxSteps := 10000000) (disch := omega) only [go_sem, ↓reduceIte, Nat.reduceEqDiff, Nat.reduceSub, Nat.reduceLeDiff, Nat.reduceAdd, Int.reduceEq, Int.reduceLT, Int.reduceLE]
    simp [insE, List.map_take, List.map_drop]
end Go.Proofs.YthleeikkpjiicaaDoor.Fw
namespace Go.Proofs.YthleeikkpjiicaaDoor.Fw
open Go.RowKit Go.Proofs
/-! Vectors: one more event, the join as the document has it, what went by a vector. -/
def withV (v : Vc) (r : Int) (q : Nat) : Vc := if 1 ≤ r ∧ r ≤ 8 then setV v (r - 1).toNat (max (v (r - 1).toNat) q) else v
set_option maxHeartbeats 1000000 in
theorem okWith (v : Vc) (r : Int) (q : Nat) {h d} : FunOk Tryd.prog 49 [.vec 8 (vE v), .vec 2 [.i .i64 r, .i .u32 q]] h d (.vec 8 (vE (withV v r q))) [] := by
  refine fun_pure mixed fn49 (by simp) rfl rfl fun F => ?_
  by_cases h1 : 1 ≤ r
  · by_cases h2 : r ≤ 8
    · have e : withV v r q = setV v (r - 1).toNat (max (v (r - 1).toNat) q) := by unfold withV; rw [if_pos ⟨h1, h2⟩]
      obtain ⟨k, rfl⟩ : ∃ k : Nat, r = (k : Int) + 1 := ⟨(r - 1).toNat, by omega⟩
      have ek : ((k : Int) + 1 - 1) = (k : Int) := by omega
      rw [ek, Int.toNat_natCast] at e
      rw [e]
      (try simp only [brK_e, gdK_e, skK_e, gdA_e, skA_e, pkK_e]); simp (maxSteps := 10000000) (disch := omega) only [ir49, ek, go_sem, ↓reduceIte, Nat.reduceEqDiff, Nat.reduceSub, Nat.reduceLeDiff, Nat.reduceAdd, Int.reduceEq, Int.reduceLT, Int.reduceLE]
    · have e : withV v r q = v := by unfold withV; rw [if_neg (by omega)]
      rw [e]
      (try simp only [brK_e, gdK_e, skK_e, gdA_e, skA_e, pkK_e]); simp (maxSteps := 10000000) (disch := omega) only [ir49, go_sem, ↓reduceIte, Nat.reduceEqDiff, Nat.reduceSub, Nat.reduceLeDiff, Nat.reduceAdd, Int.reduceEq, Int.reduceLT, Int.reduceLE]
  · have e : withV v r q = v := by unfold withV; rw [if_neg (by omega)]
    rw [e]
    (try simp only [brK_e, gdK_e, skK_e, gdA_e, skA_e, pkK_e]); simp (maxSteps := 10000000) (disch := omega) only [ir49, go_sem, ↓reduceIte, Nat.reduceEqDiff, Nat.reduceSub, Nat.reduceLeDiff, Nat.reduceAdd, Int.reduceEq, Int.reduceLT, Int.reduceLE]
def stJoinR (a b : Vc) (k : Nat) : FS := mk [(6, .pv (.i .i64 k)), (5, .p 5 0), (4, .p 4 0), (3, .p 3 0), (2, .p 2 0)] [(2, some (.var (.vec 8 (vE a)))), (3, some (.var (.vec 8 (vE b)))), (5, some (.var (.vec 8 (vE fun i => if i < k then vJoin a b i else 0)))), (4, some (.var (.vec 8 (vE fun _ => 0))))]
theorem okJoinR (a b : Vc) {h d} : FunOk Tryd.prog 62 [.vec 8 (vE a), .vec 8 (vE b)] h d (.vec 8 (vE (vJoin a b))) [] := by
  refine fun_pure mixed fn62 (by simp) rfl rfl fun F => ?_
  (try simp only [brK_e, gdK_e, skK_e, gdA_e, skA_e, pkK_e]); simp (maxSteps := 10000000) (disch := omega) only [ir62, go_sem, ↓reduceIte, Nat.reduceEqDiff, Nat.reduceSub, Nat.reduceLeDiff, Nat.reduceAdd, Int.reduceEq, Int.reduceLT, Int.reduceLE]
  refine loop_ok mixed (stJoinR a b) (fun k => k ≤ 8) (fun k => 8 - k) 0 (by simp) (weak_mk ?_ ?_) fun k hk => ?_
  · (try simp only [brK_e, gdK_e, skK_e, gdA_e, skA_e, pkK_e]); simp (maxSteps := 10000000) (disch := omega) only [go_sem, ↓reduceIte, Nat.reduceEqDiff, Nat.reduceSub, Nat.reduceLeDiff, Nat.reduceAdd, Int.reduceEq, Int.reduceLT, Int.reduceLE]
  · (try simp only [brK_e, gdK_e, skK_e, gdA_e, skA_e, pkK_e]); simp (maxSteps := 10000000) (disch := omega) only [vE_none, go_sem, ↓reduceIte, Nat.reduceEqDiff, Nat.reduceSub, Nat.reduceLeDiff, Nat.reduceAdd, Int.reduceEq, Int.reduceLT, Int.reduceLE]
  by_cases hlt : k < 8
  · by_cases hc : a k < b k
    · (try simp only [brK_e, gdK_e, skK_e, gdA_e, skA_e, pkK_e]); simp (maxSteps := 10000000) (disch := omega) only [stJoinR, go_sem, ↓reduceIte, Nat.reduceEqDiff, Nat.reduceSub, Nat.reduceLeDiff, Nat.reduceAdd, Int.reduceEq, Int.reduceLT, Int.reduceLE]
      refine loop_next (k + 1) _ _ rfl (by omega) (by omega) ?_ ?_
      · (try simp only [brK_e, gdK_e, skK_e, gdA_e, skA_e, pkK_e]); simp (maxSteps := 10000000) (disch := omega) only [go_sem, ↓reduceIte, Nat.reduceEqDiff, Nat.reduceSub, Nat.reduceLeDiff, Nat.reduceAdd, Int.reduceEq, Int.reduceLT, Int.reduceLE]
      · (try simp only [brK_e, gdK_e, skK_e, gdA_e, skA_e, pkK_e]); simp (maxSteps := 10000000) (disch := omega) only [go_sem, ↓reduceIte, Nat.reduceEqDiff, Nat.reduceSub, Nat.reduceLeDiff, Nat.reduceAdd, Int.reduceEq, Int.reduceLT, Int.reduceLE]
        exact imp_vec (vE_ext fun i hi => by simp only [setV, vJoin]; grind)
    · (try simp only [brK_e, gdK_e, skK_e, gdA_e, skA_e, pkK_e]); simp (maxSteps := 10000000) (disch := omega) only [stJoinR, go_sem, ↓reduceIte, Nat.reduceEqDiff, Nat.reduceSub, Nat.reduceLeDiff, Nat.reduceAdd, Int.reduceEq, Int.reduceLT, Int.reduceLE]
      refine loop_next (k + 1) _ _ rfl (by omega) (by omega) ?_ ?_
      · (try simp only [brK_e, gdK_e, skK_e, gdA_e, skA_e, pkK_e]); simp (maxSteps := 10000000) (disch := omega) only [go_sem, ↓reduceIte, Nat.reduceEqDiff, Nat.reduceSub, Nat.reduceLeDiff, Nat.reduceAdd, Int.reduceEq, Int.reduceLT, Int.reduceLE]
      · (try simp only [brK_e, gdK_e, skK_e, gdA_e, skA_e, pkK_e]); simp (maxSteps := 10000000) (disch := omega) only [go_sem, ↓reduceIte, Nat.reduceEqDiff, Nat.reduceSub, Nat.reduceLeDiff, Nat.reduceAdd, Int.reduceEq, Int.reduceLT, Int.reduceLE]
        exact imp_vec (vE_ext fun i hi => by simp only [setV, vJoin]; grind)
  · (try simp only [brK_e, gdK_e, skK_e, gdA_e, skA_e, pkK_e]); simp (maxSteps := 10000000) (disch := omega) only [stJoinR, vE_all, go_sem, ↓reduceIte, Nat.reduceEqDiff, Nat.reduceSub, Nat.reduceLeDiff, Nat.reduceAdd, Int.reduceEq, Int.reduceLT, Int.reduceLE]
def oneV (r : Int) (q : Nat) : Vc := fun i => if (i : Int) + 1 = r then q else 0
def stOneR (r : Int) (q k : Nat) : FS := mk [(4, .pv (.i .i64 k)), (3, .p 3 0), (2, .p 2 0), (1, .p 1 0)] [(1, some (.var (.vec 2 [.i .i64 r, .i .u32 q]))), (3, some (.var (.vec 8 (vE fun i => if i < k then oneV r q i else 0)))), (2, some (.var (.vec 8 (vE fun _ => 0))))]
theorem okOneR (r : Int) (q : Nat) {h d} : FunOk Tryd.prog 63 [.vec 2 [.i .i64 r, .i .u32 q]] h d (.vec 8 (vE (oneV r q))) [] := by
  refine fun_pure mixed fn63 (by simp) rfl rfl fun F => ?_
  (try simp only [brK_e, gdK_e, skK_e, gdA_e, skA_e, pkK_e]); simp (maxSteps := 10000000) (disch := omega) only [ir63, go_sem, ↓reduceIte, Nat.reduceEqDiff, Nat.reduceSub, Nat.reduceLeDiff, Nat.reduceAdd, Int.reduceEq, Int.reduceLT, Int.reduceLE]
  refine loop_ok mixed (stOneR r q) (fun k => k ≤ 8) (fun k => 8 - k) 0 (by simp) (weak_mk ?_ ?_) fun k hk => ?_
  · (try simp only [brK_e, gdK_e, skK_e, gdA_e, skA_e, pkK_e]); simp (maxSteps := 10000000) (disch := omega) only [go_sem, ↓reduceIte, Nat.reduceEqDiff, Nat.reduceSub, Nat.reduceLeDiff, Nat.reduceAdd, Int.reduceEq, Int.reduceLT, Int.reduceLE]
  · (try simp only [brK_e, gdK_e, skK_e, gdA_e, skA_e, pkK_e]); simp (maxSteps := 10000000) (disch := omega) only [vE_none, go_sem, ↓reduceIte, Nat.reduceEqDiff, Nat.reduceSub, Nat.reduceLeDiff, Nat.reduceAdd, Int.reduceEq, Int.reduceLT, Int.reduceLE]
  by_cases hlt : k < 8
  · by_cases hc : (k : Int) + 1 = r
    · (try simp only [brK_e, gdK_e, skK_e, gdA_e, skA_e, pkK_e]); simp (maxSteps := 10000000) (disch := omega) only [stOneR, hc, go_sem, ↓reduceIte, Nat.reduceEqDiff, Nat.reduceSub, Nat.reduceLeDiff, Nat.reduceAdd, Int.reduceEq, Int.reduceLT, Int.reduceLE]
      refine loop_next (k + 1) _ _ rfl (by omega) (by omega) ?_ ?_
      · (try simp only [brK_e, gdK_e, skK_e, gdA_e, skA_e, pkK_e]); simp (maxSteps := 10000000) (disch := omega) only [go_sem, ↓reduceIte, Nat.reduceEqDiff, Nat.reduceSub, Nat.reduceLeDiff, Nat.reduceAdd, Int.reduceEq, Int.reduceLT, Int.reduceLE]
      · (try simp only [brK_e, gdK_e, skK_e, gdA_e, skA_e, pkK_e]); simp (maxSteps := 10000000) (disch := omega) only [go_sem, ↓reduceIte, Nat.reduceEqDiff, Nat.reduceSub, Nat.reduceLeDiff, Nat.reduceAdd, Int.reduceEq, Int.reduceLT, Int.reduceLE]
        exact imp_vec (vE_ext fun i hi => by simp only [setV, oneV]; grind)
    · (try simp only [brK_e, gdK_e, skK_e, gdA_e, skA_e, pkK_e]); simp (maxSteps := 10000000) (disch := omega) only [stOneR, hc, go_sem, ↓reduceIte, Nat.reduceEqDiff, Nat.reduceSub, Nat.reduceLeDiff, Nat.reduceAdd, Int.reduceEq, Int.reduceLT, Int.reduceLE]
      refine loop_next (k + 1) _ _ rfl (by omega) (by omega) ?_ ?_
      · (try simp only [brK_e, gdK_e, skK_e, gdA_e, skA_e, pkK_e]); simp (maxSteps := 10000000) (disch := omega) only [go_sem, ↓reduceIte, Nat.reduceEqDiff, Nat.reduceSub, Nat.reduceLeDiff, Nat.reduceAdd, Int.reduceEq, Int.reduceLT, Int.reduceLE]
      · (try simp only [brK_e, gdK_e, skK_e, gdA_e, skA_e, pkK_e]); simp (maxSteps := 10000000) (disch := omega) only [go_sem, ↓reduceIte, Nat.reduceEqDiff, Nat.reduceSub, Nat.reduceLeDiff, Nat.reduceAdd, Int.reduceEq, Int.reduceLT, Int.reduceLE]
        exact imp_vec (vE_ext fun i hi => by simp only [setV, oneV]; grind)
  · (try simp only [brK_e, gdK_e, skK_e, gdA_e, skA_e, pkK_e]); simp (maxSteps := 10000000) (disch := omega) only [stOneR, vE_all, go_sem, ↓reduceIte, Nat.reduceEqDiff, Nat.reduceSub, Nat.reduceLeDiff, Nat.reduceAdd, Int.reduceEq, Int.reduceLT, Int.reduceLE]
theorem okWithR (v : Vc) (r : Int) (q : Nat) {h d} : FunOk Tryd.prog 50 [.vec 8 (vE v), .vec 2 [.i .i64 r, .i .u32 q]] h d (.vec 8 (vE (vJoin v (oneV r q)))) [] := by
  refine fun_pure mixed fn50 (by simp) rfl rfl fun F => ?_
  (try simp only [brK_e, gdK_e, skK_e, gdA_e, skA_e, pkK_e]); simp (maxSteps := 10000000) (disch := omega) only [ir50, go_sem, ↓reduceIte, Nat.reduceEqDiff, Nat.reduceSub, Nat.reduceLeDiff, Nat.reduceAdd, Int.reduceEq, Int.reduceLT, Int.reduceLE]
  refine call_with (okOneR _ _) ?_
  (try simp only [brK_e, gdK_e, skK_e, gdA_e, skA_e, pkK_e]); simp (maxSteps := 10000000) (disch := omega) only [go_sem, ↓reduceIte, Nat.reduceEqDiff, Nat.reduceSub, Nat.reduceLeDiff, Nat.reduceAdd, Int.reduceEq, Int.reduceLT, Int.reduceLE]
  refine call_with (okJoinR _ _) ?_
  (try simp only [brK_e, gdK_e, skK_e, gdA_e, skA_e, pkK_e]); simp (maxSteps := 10000000) (disch := omega) only [go_sem, ↓reduceIte, Nat.reduceEqDiff, Nat.reduceSub, Nat.reduceLeDiff, Nat.reduceAdd, Int.reduceEq, Int.reduceLT, Int.reduceLE]
theorem with_one (v : Vc) (r : Int) (q : Nat) : ∀ i, i < 8 → withV v r q i = vJoin v (oneV r q) i := by
  intro i hi
  unfold withV
  split
  · simp only [setV, vJoin, oneV]; grind
  · simp only [vJoin, oneV]; grind
/-- none of these went by an event that the other one means -/
def goneF (a b : Vc) : Prop := ∀ i, i < 8 → ¬ (0 < a i ∧ a i ≤ b i)
instance (a b : Vc) : Decidable (goneF a b) := inferInstanceAs (Decidable (∀ i, i < 8 → _))
def goneB (a b : Vc) : Bool := !decide (goneF a b)
theorem goneB_t {a b : Vc} {k : Nat} (hk : k < 8) (h : 0 < a k ∧ a k ≤ b k) : goneB a b = true := by
  have : ¬ goneF a b := fun g => g k hk h
  simp [goneB, this]
theorem goneB_f {a b : Vc} (h : goneF a b) : goneB a b = false := by simp [goneB, h]
def stGone (a b : Vc) (k : Nat) : FS := mk [(8, .pv (.i .i64 k)), (7, .vec 8 (vE a)), (3, .p 3 0)] [(3, some (.var (.vec 8 (vE b))))]
theorem okGone (a b : Vc) {h d} : FunOk Tryd.prog 32 [.vec 8 (vE a), .vec 8 (vE b)] h d (.pv (.b (goneB a b))) [] := by
  refine fun_pure mixed fn32 (by simp) rfl rfl fun F => ?_
  (try simp only [brK_e, gdK_e, skK_e, gdA_e, skA_e, pkK_e]); simp (maxSteps := 10000000) (disch := omega) only [ir32, go_sem, ↓reduceIte, Nat.reduceEqDiff, Nat.reduceSub, Nat.reduceLeDiff, Nat.reduceAdd, Int.reduceEq, Int.reduceLT, Int.reduceLE]
  refine loop_ok mixed (stGone a b) (fun k => k ≤ 8 ∧ ∀ i, i < k → ¬ (0 < a i ∧ a i ≤ b i)) (fun k => 8 - k) 0 (by simp) (weak_mk ?_ ?_) fun k hk => ?_
  · (try simp only [brK_e, gdK_e, skK_e, gdA_e, skA_e, pkK_e]); simp (maxSteps := 10000000) (disch := omega) only [go_sem, ↓reduceIte, Nat.reduceEqDiff, Nat.reduceSub, Nat.reduceLeDiff, Nat.reduceAdd, Int.reduceEq, Int.reduceLT, Int.reduceLE]
  · (try simp only [brK_e, gdK_e, skK_e, gdA_e, skA_e, pkK_e]); simp (maxSteps := 10000000) (disch := omega) only [go_sem, ↓reduceIte, Nat.reduceEqDiff, Nat.reduceSub, Nat.reduceLeDiff, Nat.reduceAdd, Int.reduceEq, Int.reduceLT, Int.reduceLE]
  obtain ⟨hk1, hk2⟩ := hk
  by_cases hlt : k < 8
  · by_cases hz : 0 < a k
    · by_cases hb : a k ≤ b k
      · have e := goneB_t hlt ⟨hz, hb⟩
        (try simp only [brK_e, gdK_e, skK_e, gdA_e, skA_e, pkK_e]); simp (maxSteps := 10000000) (disch := omega) only [stGone, hz, hb, e, go_sem, ↓reduceIte, Nat.reduceEqDiff, Nat.reduceSub, Nat.reduceLeDiff, Nat.reduceAdd, Int.reduceEq, Int.reduceLT, Int.reduceLE]
      · (try simp only [brK_e, gdK_e, skK_e, gdA_e, skA_e, pkK_e]); simp (maxSteps := 10000000) (disch := omega) only [stGone, hz, hb, go_sem, ↓reduceIte, Nat.reduceEqDiff, Nat.reduceSub, Nat.reduceLeDiff, Nat.reduceAdd, Int.reduceEq, Int.reduceLT, Int.reduceLE]
        refine loop_next (k + 1) _ _ rfl ⟨by omega, fun i hi => ?_⟩ (by omega) ?_ ?_
        · by_cases e : i = k
          · subst e; omega
          · exact hk2 i (by omega)
        · (try simp only [brK_e, gdK_e, skK_e, gdA_e, skA_e, pkK_e]); simp (maxSteps := 10000000) (disch := omega) only [go_sem, ↓reduceIte, Nat.reduceEqDiff, Nat.reduceSub, Nat.reduceLeDiff, Nat.reduceAdd, Int.reduceEq, Int.reduceLT, Int.reduceLE]
        · (try simp only [brK_e, gdK_e, skK_e, gdA_e, skA_e, pkK_e]); simp (maxSteps := 10000000) (disch := omega) only [go_sem, ↓reduceIte, Nat.reduceEqDiff, Nat.reduceSub, Nat.reduceLeDiff, Nat.reduceAdd, Int.reduceEq, Int.reduceLT, Int.reduceLE]
    · (try simp only [brK_e, gdK_e, skK_e, gdA_e, skA_e, pkK_e]); simp (maxSteps := 10000000) (disch := omega) only [stGone, hz, go_sem, ↓reduceIte, Nat.reduceEqDiff, Nat.reduceSub, Nat.reduceLeDiff, Nat.reduceAdd, Int.reduceEq, Int.reduceLT, Int.reduceLE]
      refine loop_next (k + 1) _ _ rfl ⟨by omega, fun i hi => ?_⟩ (by omega) ?_ ?_
      · by_cases e : i = k
        · subst e; omega
        · exact hk2 i (by omega)
      · (try simp only [brK_e, gdK_e, skK_e, gdA_e, skA_e, pkK_e]); simp (maxSteps := 10000000) (disch := omega) only [go_sem, ↓reduceIte, Nat.reduceEqDiff, Nat.reduceSub, Nat.reduceLeDiff, Nat.reduceAdd, Int.reduceEq, Int.reduceLT, Int.reduceLE]
      · (try simp only [brK_e, gdK_e, skK_e, gdA_e, skA_e, pkK_e]); simp (maxSteps := 10000000) (disch := omega) only [go_sem, ↓reduceIte, Nat.reduceEqDiff, Nat.reduceSub, Nat.reduceLeDiff, Nat.reduceAdd, Int.reduceEq, Int.reduceLT, Int.reduceLE]
  · obtain rfl : k = 8 := by omega
    have e := goneB_f (a := a) (b := b) hk2
    (try simp only [brK_e, gdK_e, skK_e, gdA_e, skA_e, pkK_e]); simp (maxSteps := 10000000) (disch := omega) only [stGone, e, go_sem, ↓reduceIte, Nat.reduceEqDiff, Nat.reduceSub, Nat.reduceLeDiff, Nat.reduceAdd, Int.reduceEq, Int.reduceLT, Int.reduceLE]
def stGoneR (a b : Vc) (k : Nat) : FS := mk [(5, .pv (.i .i64 k)), (2, .p 2 0), (3, .p 3 0)] [(2, some (.var (.vec 8 (vE a)))), (3, some (.var (.vec 8 (vE b))))]
theorem okGoneR (a b : Vc) {h d} : FunOk Tryd.prog 33 [.vec 8 (vE a), .vec 8 (vE b)] h d (.pv (.b (goneB a b))) [] := by
  refine fun_pure mixed fn33 (by simp) rfl rfl fun F => ?_
  (try simp only [brK_e, gdK_e, skK_e, gdA_e, skA_e, pkK_e]); simp (maxSteps := 10000000) (disch := omega) only [ir33, go_sem, ↓reduceIte, Nat.reduceEqDiff, Nat.reduceSub, Nat.reduceLeDiff, Nat.reduceAdd, Int.reduceEq, Int.reduceLT, Int.reduceLE]
  refine loop_ok mixed (stGoneR a b) (fun k => k ≤ 8 ∧ ∀ i, i < k → ¬ (0 < a i ∧ a i ≤ b i)) (fun k => 8 - k) 0 (by simp) (weak_mk ?_ ?_) fun k hk => ?_
  · (try simp only [brK_e, gdK_e, skK_e, gdA_e, skA_e, pkK_e]); simp (maxSteps := 10000000) (disch := omega) only [go_sem, ↓reduceIte, Nat.reduceEqDiff, Nat.reduceSub, Nat.reduceLeDiff, Nat.reduceAdd, Int.reduceEq, Int.reduceLT, Int.reduceLE]
  · (try simp only [brK_e, gdK_e, skK_e, gdA_e, skA_e, pkK_e]); simp (maxSteps := 10000000) (disch := omega) only [go_sem, ↓reduceIte, Nat.reduceEqDiff, Nat.reduceSub, Nat.reduceLeDiff, Nat.reduceAdd, Int.reduceEq, Int.reduceLT, Int.reduceLE]
  obtain ⟨hk1, hk2⟩ := hk
  by_cases hlt : k < 8
  · by_cases hz : 0 < a k
    · have hz' : (1 : Int) ≤ a k := by omega
      by_cases hb : a k ≤ b k
      · have e := goneB_t hlt ⟨hz, hb⟩
        (try simp only [brK_e, gdK_e, skK_e, gdA_e, skA_e, pkK_e]); simp (maxSteps := 10000000) (disch := omega) only [stGoneR, hz', hb, e, go_sem, ↓reduceIte, Nat.reduceEqDiff, Nat.reduceSub, Nat.reduceLeDiff, Nat.reduceAdd, Int.reduceEq, Int.reduceLT, Int.reduceLE]
      · (try simp only [brK_e, gdK_e, skK_e, gdA_e, skA_e, pkK_e]); simp (maxSteps := 10000000) (disch := omega) only [stGoneR, hz', hb, go_sem, ↓reduceIte, Nat.reduceEqDiff, Nat.reduceSub, Nat.reduceLeDiff, Nat.reduceAdd, Int.reduceEq, Int.reduceLT, Int.reduceLE]
        refine loop_next (k + 1) _ _ rfl ⟨by omega, fun i hi => ?_⟩ (by omega) ?_ ?_
        · by_cases e : i = k
          · subst e; omega
          · exact hk2 i (by omega)
        · (try simp only [brK_e, gdK_e, skK_e, gdA_e, skA_e, pkK_e]); simp (maxSteps := 10000000) (disch := omega) only [go_sem, ↓reduceIte, Nat.reduceEqDiff, Nat.reduceSub, Nat.reduceLeDiff, Nat.reduceAdd, Int.reduceEq, Int.reduceLT, Int.reduceLE]
        · (try simp only [brK_e, gdK_e, skK_e, gdA_e, skA_e, pkK_e]); simp (maxSteps := 10000000) (disch := omega) only [go_sem, ↓reduceIte, Nat.reduceEqDiff, Nat.reduceSub, Nat.reduceLeDiff, Nat.reduceAdd, Int.reduceEq, Int.reduceLT, Int.reduceLE]
    · have hz' : ¬ (1 : Int) ≤ a k := by omega
      (try simp only [brK_e, gdK_e, skK_e, gdA_e, skA_e, pkK_e]); simp (maxSteps := 10000000) (disch := omega) only [stGoneR, hz', go_sem, ↓reduceIte, Nat.reduceEqDiff, Nat.reduceSub, Nat.reduceLeDiff, Nat.reduceAdd, Int.reduceEq, Int.reduceLT, Int.reduceLE]
      refine loop_next (k + 1) _ _ rfl ⟨by omega, fun i hi => ?_⟩ (by omega) ?_ ?_
      · by_cases e : i = k
        · subst e; omega
        · exact hk2 i (by omega)
      · (try simp only [brK_e, gdK_e, skK_e, gdA_e, skA_e, pkK_e]); simp (maxSteps := 10000000) (disch := omega) only [go_sem, ↓reduceIte, Nat.reduceEqDiff, Nat.reduceSub, Nat.reduceLeDiff, Nat.reduceAdd, Int.reduceEq, Int.reduceLT, Int.reduceLE]
      · (try simp only [brK_e, gdK_e, skK_e, gdA_e, skA_e, pkK_e]); simp (maxSteps := 10000000) (disch := omega) only [go_sem, ↓reduceIte, Nat.reduceEqDiff, Nat.reduceSub, Nat.reduceLeDiff, Nat.reduceAdd, Int.reduceEq, Int.reduceLT, Int.reduceLE]
  · obtain rfl : k = 8 := by omega
    have e := goneB_f (a := a) (b := b) hk2
    (try simp only [brK_e, gdK_e, skK_e, gdA_e, skA_e, pkK_e]); simp (maxSteps := 10000000) (disch := omega) only [stGoneR, e, go_sem, ↓reduceIte, Nat.reduceEqDiff, Nat.reduceSub, Nat.reduceLeDiff, Nat.reduceAdd, Int.reduceEq, Int.reduceLT, Int.reduceLE]
end Go.Proofs.YthleeikkpjiicaaDoor.Fw
namespace Go.Proofs.YthleeikkpjiicaaDoor.Fw
open Go.RowKit Go.Proofs
/-! What is done to entries, plainly. -/
theorem vJoin_comm (a b : Vc) : vJoin a b = vJoin b a := funext fun i => Nat.max_comm _ _
theorem vJoin_assoc (a b c : Vc) : vJoin (vJoin a b) c = vJoin a (vJoin b c) := funext fun i => Nat.max_assoc _ _ _
theorem vJoin_idem (a : Vc) : vJoin a a = a := funext fun i => Nat.max_self _
theorem vJoin_tidy {a b : Vc} (ha : tidyV a) (hb : tidyV b) : tidyV (vJoin a b) := fun i hi => by unfold vJoin; rw [ha i hi, hb i hi]; rfl
/-- one event alone, where a replica has it -/
def oneT (b : Idn) : Vc := fun i => if 1 ≤ b.1 ∧ b.1 ≤ 8 ∧ (i : Int) + 1 = b.1 then b.2 else 0
theorem oneT_tidy (b : Idn) : tidyV (oneT b) := fun i hi => by unfold oneT; rw [if_neg (by omega)]
theorem withV_eq (v : Vc) (b : Idn) : withV v b.1 b.2 = vJoin v (oneT b) := by
  funext i
  unfold withV vJoin oneT
  by_cases h : 1 ≤ b.1 ∧ b.1 ≤ 8
  · rw [if_pos h]
    unfold setV
    by_cases e : i = (b.1 - 1).toNat
    · rw [if_pos e, if_pos (by omega), e]
    · rw [if_neg e, if_neg (by omega)]; simp
  · rw [if_neg h, if_neg (by omega)]; simp
theorem withR_eq (v : Vc) (b : Idn) : vE (vJoin v (oneV b.1 b.2)) = vE (vJoin v (oneT b)) := by
  rw [← withV_eq]
  exact vE_ext fun i hi => (with_one v b.1 b.2 i hi).symm
def mrg2 (x y : Ent) : Ent := { x with gone := vJoin x.gone y.gone }
theorem mrg2_id (y x : Ent) : (mrg2 y x).id = y.id := rfl
theorem modE_none {l : List Ent} {i : Idn} {f : Ent → Ent} (h : ∀ y ∈ l, y.id ≠ i) : modE l i f = l := by
  unfold modE
  have e1 : ∀ z ∈ l, (if z.id = i then f z else z) = id z := fun z hz => by rw [if_neg (h z hz)]; rfl
  rw [List.map_congr_left e1, List.map_id]
/-- entries with one, joined with the one of its number -/
def putL (l : List Ent) (x : Ent) : List Ent := if isE l x.id = true then modE l x.id (fun y => mrg2 y x) else insE l x
def putGo : List Ent → Ent → Bool → List Ent
  | [], x, put => if put = true then [] else [x]
  | y :: l, x, put => if y.id = x.id then mrg2 y x :: putGo l x true else if put = false ∧ ilt x.id y.id = true then x :: y :: putGo l x true else y :: putGo l x put
theorem putGo_true : ∀ {l : List Ent} {x : Ent}, (∀ y ∈ l, y.id ≠ x.id) → putGo l x true = l
  | [], x, _ => by simp [putGo]
  | y :: l, x, h => by
    simp only [putGo]
    rw [if_neg (h y List.mem_cons_self), if_neg (by simp), putGo_true fun z hz => h z (List.mem_cons_of_mem _ hz)]
theorem isE_cons (y : Ent) (l : List Ent) (i : Idn) (h : y.id ≠ i) : isE (y :: l) i = isE l i := by unfold isE; simp only [look]; rw [if_neg h]
theorem isE_f {l : List Ent} {i : Idn} : isE l i = false ↔ look l i = none := by unfold isE; cases look l i <;> simp
theorem isE_t {l : List Ent} {i : Idn} : isE l i = true ↔ ∃ x, look l i = some x := by unfold isE; cases look l i <;> simp
theorem putGo_put : ∀ {l : List Ent} {x : Ent}, SortE l → putGo l x false = putL l x
  | [], x, _ => by simp [putGo, putL, isE, look, insE, posE]
  | y :: l, x, hs => by
    obtain ⟨h1, h2⟩ := List.pairwise_cons.1 hs
    simp only [putGo]
    by_cases e : y.id = x.id
    · have hne : ∀ z ∈ l, z.id ≠ x.id := fun z hz ez => ilt_irr (by have := h1 z hz; rwa [e, ez] at this)
      rw [if_pos e, putGo_true hne]
      have : isE (y :: l) x.id = true := by unfold isE; simp [look, e]
      unfold putL
      rw [if_pos this]
      show _ = List.map _ (y :: l)
      rw [List.map_cons, if_pos e]
      congr 1
      exact (modE_none hne).symm
    · rw [if_neg e]
      by_cases hl : ilt x.id y.id = true
      · have hne : ∀ z ∈ l, z.id ≠ x.id := fun z hz ez => ilt_irr (by have := ilt_trans hl (h1 z hz); rwa [ez] at this)
        rw [if_pos (by simp [hl]), putGo_true hne]
        have : isE (y :: l) x.id = false := isE_f.2 (look_none.2 fun z hz => by
          rcases List.mem_cons.1 hz with rfl | hz
          · exact e
          · exact hne z hz)
        unfold putL
        rw [if_neg (by rw [this]; simp), insE_cons, if_neg (ilt_as hl)]
      · rw [if_neg fun h => hl h.2, putGo_put h2]
        unfold putL
        rw [isE_cons y l _ e]
        split
        · simp [modE, e]
        · rw [insE_cons, if_pos (ilt_tot hl fun q => e q.symm)]
def killF (b : Idn) (y : Ent) : Ent := { y with gone := vJoin y.gone (oneT b) }
theorem killF_id (b : Idn) (y : Ent) : (killF b y).id = y.id := rfl
def killL (l : List Ent) (i b : Idn) : List Ent := modE l i (killF b)
def joinL (l m : List Ent) : List Ent := m.foldl putL l
def mrgO : Option Ent → Option Ent → Option Ent
  | none, b => b
  | some a, none => some a
  | some a, some b => some (mrg2 a b)
theorem sort_put {l : List Ent} (hs : SortE l) (x : Ent) : SortE (putL l x) := by
  unfold putL
  split
  · exact sort_mod (fun y => mrg2_id y x) hs _
  · rename_i h; exact sort_ins hs (isE_f.1 (by simpa using h))
theorem look_put {l : List Ent} (hs : SortE l) (x : Ent) (i : Idn) : look (putL l x) i = if x.id = i then mrgO (look l i) (some x) else look l i := by
  unfold putL
  split
  · rename_i h
    rw [look_mod (fun y => mrg2_id y x)]
    by_cases e : x.id = i
    · rw [if_pos e, if_pos e]
      subst e
      obtain ⟨y, hy⟩ := isE_t.1 h
      rw [hy]; rfl
    · rw [if_neg e, if_neg e]
  · rename_i h
    have hn : look l x.id = none := isE_f.1 (by simpa using h)
    rw [look_ins hs i hn]
    by_cases e : x.id = i
    · rw [if_pos e, if_pos e]
      subst e
      rw [hn]; rfl
    · rw [if_neg e, if_neg e]
theorem sort_add {l : List Ent} (hs : SortE l) (x : Ent) : SortE (addL l x) := by
  unfold addL
  split
  · exact hs
  · rename_i h; exact sort_ins hs (isE_f.1 (by simpa using h))
theorem look_add {l : List Ent} (hs : SortE l) (x : Ent) (i : Idn) : look (addL l x) i = if x.id = i then some ((look l i).getD x) else look l i := by
  unfold addL
  split
  · rename_i h
    by_cases e : x.id = i
    · rw [if_pos e]
      subst e
      obtain ⟨y, hy⟩ := isE_t.1 h
      rw [hy]; rfl
    · rw [if_neg e]
  · rename_i h
    have hn : look l x.id = none := isE_f.1 (by simpa using h)
    rw [look_ins hs i hn]
    by_cases e : x.id = i
    · rw [if_pos e, if_pos e]
      subst e
      rw [hn]; rfl
    · rw [if_neg e, if_neg e]
theorem add_put {l : List Ent} {x : Ent} (h : isE l x.id = false) : addL l x = putL l x := by
  unfold addL putL
  rw [if_neg (by rw [h]; simp), if_neg (by rw [h]; simp)]
theorem sort_kill {l : List Ent} (hs : SortE l) (i b : Idn) : SortE (killL l i b) := sort_mod (killF_id b) hs i
theorem look_kill {l : List Ent} (i b j : Idn) : look (killL l i b) j = if i = j then (look l j).map (killF b) else look l j := look_mod (killF_id b) i j
theorem sort_join : ∀ {m l : List Ent}, SortE l → SortE (joinL l m)
  | [], l, hl => hl
  | x :: m, l, hl => sort_join (m := m) (sort_put hl x)
theorem look_join : ∀ {m l : List Ent}, SortE l → SortE m → ∀ i, look (joinL l m) i = mrgO (look l i) (look m i)
  | [], l, _, _, i => by
    show look l i = _
    cases look l i <;> rfl
  | x :: m, l, hl, hm, i => by
    obtain ⟨h1, h2⟩ := List.pairwise_cons.1 hm
    show look (joinL (putL l x) m) i = _
    rw [look_join (sort_put hl x) h2, look_put hl]
    simp only [look]
    by_cases e : x.id = i
    · rw [if_pos e, if_pos e]
      subst e
      have hn : look m x.id = none := look_none.2 fun z hz ez => ilt_irr (by have := h1 z hz; rwa [ez] at this)
      rw [hn]
      cases look l x.id <;> rfl
    · rw [if_neg e, if_neg e]
def TidyE (l : List Ent) : Prop := ∀ x ∈ l, tidyV x.gone
theorem tidy_ins {l : List Ent} (h : TidyE l) {x : Ent} (hx : tidyV x.gone) : TidyE (insE l x) := fun z hz => by
  rcases mem_ins.1 hz with rfl | hz
  · exact hx
  · exact h z hz
theorem tidy_mod {l : List Ent} (h : TidyE l) {i : Idn} {f : Ent → Ent} (hf : ∀ y, tidyV y.gone → tidyV (f y).gone) : TidyE (modE l i f) := fun z hz => by
  obtain ⟨y, hy, rfl⟩ := List.mem_map.1 hz
  split
  · exact hf y (h y hy)
  · exact h y hy
theorem tidy_put {l : List Ent} (h : TidyE l) {x : Ent} (hx : tidyV x.gone) : TidyE (putL l x) := by
  unfold putL
  split
  · exact tidy_mod h fun y hy => vJoin_tidy hy hx
  · exact tidy_ins h hx
theorem tidy_add {l : List Ent} (h : TidyE l) {x : Ent} (hx : tidyV x.gone) : TidyE (addL l x) := by
  unfold addL
  split
  · exact h
  · exact tidy_ins h hx
theorem tidy_kill {l : List Ent} (h : TidyE l) (i b : Idn) : TidyE (killL l i b) := tidy_mod h fun y hy => vJoin_tidy hy (oneT_tidy b)
theorem tidy_join : ∀ {m l : List Ent}, TidyE l → TidyE m → TidyE (joinL l m)
  | [], l, hl, _ => hl
  | x :: m, l, hl, hm => tidy_join (m := m) (tidy_put hl (hm x List.mem_cons_self)) fun y hy => hm y (List.mem_cons_of_mem _ hy)
theorem map_entE_inj {l m : List Ent} (hl : TidyE l) (hm : TidyE m) (h : l.map entE = m.map entE) : l = m := by
  induction l generalizing m with
  | nil => cases m <;> simp_all
  | cons x l ih =>
    cases m with
    | nil => simp at h
    | cons y m =>
      simp only [List.map_cons, List.cons.injEq] at h
      rw [entE_inj (hl x List.mem_cons_self) (hm y List.mem_cons_self) h.1, ih (fun z hz => hl z (List.mem_cons_of_mem _ hz)) (fun z hz => hm z (List.mem_cons_of_mem _ hz)) h.2]
/-- lengths -/
theorem len_ins (l : List Ent) (x : Ent) : (insE l x).length = l.length + 1 := by
  have := posE_le l x.id
  simp [insE]; omega
theorem len_mod (l : List Ent) (i : Idn) (f : Ent → Ent) : (modE l i f).length = l.length := by simp [modE]
theorem len_put (l : List Ent) (x : Ent) : (putL l x).length ≤ l.length + 1 := by
  unfold putL; split
  · rw [len_mod]; omega
  · rw [len_ins]; omega
theorem len_add (l : List Ent) (x : Ent) : (addL l x).length ≤ l.length + 1 := by
  unfold addL; split
  · omega
  · rw [len_ins]; omega
theorem len_join : ∀ (m l : List Ent), (joinL l m).length ≤ l.length + m.length
  | [], l => by simp [joinL]
  | x :: m, l => by
    have h1 := len_join m (putL l x)
    have h2 := len_put l x
    show (joinL (putL l x) m).length ≤ _
    simp only [List.length_cons]; omega
end Go.Proofs.YthleeikkpjiicaaDoor.Fw
namespace Go.Proofs.YthleeikkpjiicaaDoor.Fw
open Go.RowKit Go.Proofs
theorem ent_len (l : List Ent) : ∀ c ∈ l.map entE, c.length = 15 := fun c hc => by obtain ⟨y, _, rfl⟩ := List.mem_map.1 hc; exact entE_len y
theorem is_at {l : List Ent} (hs : SortE l) {i : Idn} (h : isE l i = true) : ∃ y, l[posE l i]? = some y ∧ look l i = some y := by
  obtain ⟨x, hx⟩ := isE_t.1 h
  refine ⟨x, ?_, hx⟩
  have := look_pos hs i
  rw [hx] at this
  cases h1 : l[posE l i]? with
  | none => rw [h1] at this; cases this
  | some y =>
    rw [h1] at this
    simp only at this
    split at this
    · cases this; rfl
    · cases this
set_option maxHeartbeats 1000000 in
theorem okKillE {a : SV} {f : Bool} {l : List Ent} (i b : Idn) {h d} (hx : lents h [a, .vec 2 [.i .i64 i.1, .i .u32 i.2], .vec 2 [.i .i64 b.1, .i .u32 b.2]] = [.pv (.sl f 15 (l.map entE)), .vec 2 [.i .i64 i.1, .i .u32 i.2], .vec 2 [.i .i64 b.1, .i .u32 b.2]]) (hl : lendable [a, .vec 2 [.i .i64 i.1, .i .u32 i.2], .vec 2 [.i .i64 b.1, .i .u32 b.2]] = true) (hs : SortE l) (hn : l.length ≤ 1000) :
    FunOk Tryd.prog 25 [a, .vec 2 [.i .i64 i.1, .i .u32 i.2], .vec 2 [.i .i64 b.1, .i .u32 b.2]] h d (.os d) [.new d (.row 15 ((killL l i b).map entE))] := by
  refine fun_row mixed fn25 (by simp) hl (.inr (entE_flat _)) fun F => ?_
  rw [hx]
  have hfl := entE_flat l
  (try simp only [brK_e, gdK_e, skK_e, gdA_e, skA_e, pkK_e]); simp (maxSteps := 10000000) (disch := omega) only [ir25, go_sem, ↓reduceIte, Nat.reduceEqDiff, Nat.reduceSub, Nat.reduceLeDiff, Nat.reduceAdd, Int.reduceEq, Int.reduceLT, Int.reduceLE]
  refine call_with (okCloneE (es := l.map entE) rfl rfl (.inr rfl) (by simp; omega) hfl) ?_
  (try simp only [brK_e, gdK_e, skK_e, gdA_e, skA_e, pkK_e]); simp (maxSteps := 10000000) (disch := omega) only [go_sem, ↓reduceIte, Nat.reduceEqDiff, Nat.reduceSub, Nat.reduceLeDiff, Nat.reduceAdd, Int.reduceEq, Int.reduceLT, Int.reduceLE]
  refine call_with (okAtE (l := l) i rfl rfl hs hn) ?_
  by_cases hi : isE l i = true
  · obtain ⟨y, h1, h2⟩ := is_at hs hi
    have hp : posE l i < l.length := (List.getElem?_eq_some_iff.1 h1).1
    have he : (l.map entE)[posE l i]? = some (entE y) := by rw [List.getElem?_map, h1]; rfl
    have hg : (l.map entE).getD (posE l i) [] = entE y := by rw [List.getD_eq_getElem?_getD, he]; rfl
    have hw := splice_by y (withV y.gone b.1 b.2)
    have e : (l.map entE).set (posE l i) (entE { y with gone := withV y.gone b.1 b.2 }) = (killL l i b).map entE := by
      rw [withV_eq, ← List.map_set]
      congr 1
      exact set_mod hs (f := killF b) h2
    have hv := vE_length (withV y.gone b.1 b.2)
    (try simp only [brK_e, gdK_e, skK_e, gdA_e, skA_e, pkK_e]); simp (maxSteps := 10000000) (disch := omega) only [hi, List.length_map, he, ld_entBy, go_sem, ↓reduceIte, Nat.reduceEqDiff, Nat.reduceSub, Nat.reduceLeDiff, Nat.reduceAdd, Int.reduceEq, Int.reduceLT, Int.reduceLE]
    refine call_with (okWith _ _ _) ?_
    (try simp only [brK_e, gdK_e, skK_e, gdA_e, skA_e, pkK_e]); simp (maxSteps := 10000000) (disch := omega) only [hg, hw, e, List.length_map, go_sem, ↓reduceIte, Nat.reduceEqDiff, Nat.reduceSub, Nat.reduceLeDiff, Nat.reduceAdd, Int.reduceEq, Int.reduceLT, Int.reduceLE]
  · have hi' : isE l i = false := by simpa using hi
    have e : killL l i b = l := modE_none (look_none.1 (isE_f.1 hi'))
    (try simp only [brK_e, gdK_e, skK_e, gdA_e, skA_e, pkK_e]); simp (maxSteps := 10000000) (disch := omega) only [hi', e, go_sem, ↓reduceIte, Nat.reduceEqDiff, Nat.reduceSub, Nat.reduceLeDiff, Nat.reduceAdd, Int.reduceEq, Int.reduceLT, Int.reduceLE]
def stJoinE (g : Bool) (m : List Ent) (p : Nat × List Ent) : FS := mk [(14, .pv (.i .i64 p.1)), (13, .pv (.i .i64 m.length)), (12, .pv (.sl g 15 (m.map entE))), (5, .os 40)] [(40, some (.row 15 (p.2.map entE)))]
set_option maxHeartbeats 2000000 in
theorem okJoinE {a c : SV} {f g : Bool} {l m : List Ent} {h d} (hx : lents h [a, c] = [.pv (.sl f 15 (l.map entE)), .pv (.sl g 15 (m.map entE))]) (hl : lendable [a, c] = true) (hs : SortE l) (hn : l.length ≤ 400) (hn' : m.length ≤ 400) :
    FunOk Tryd.prog 21 [a, c] h d (.os d) [.new d (.row 15 ((joinL l m).map entE))] := by
  refine fun_row mixed fn21 (by simp) hl (.inr (entE_flat _)) fun F => ?_
  rw [hx]
  have hfl := entE_flat l
  (try simp only [brK_e, gdK_e, skK_e, gdA_e, skA_e, pkK_e]); simp (maxSteps := 10000000) (disch := omega) only [ir21, go_sem, ↓reduceIte, Nat.reduceEqDiff, Nat.reduceSub, Nat.reduceLeDiff, Nat.reduceAdd, Int.reduceEq, Int.reduceLT, Int.reduceLE]
  refine call_with (okCloneE (es := l.map entE) rfl rfl (.inr rfl) (by simp; omega) hfl) ?_
  (try simp only [brK_e, gdK_e, skK_e, gdA_e, skA_e, pkK_e]); simp (maxSteps := 10000000) (disch := omega) only [List.length_map, go_sem, ↓reduceIte, Nat.reduceEqDiff, Nat.reduceSub, Nat.reduceLeDiff, Nat.reduceAdd, Int.reduceEq, Int.reduceLT, Int.reduceLE]
  refine loop_ok mixed (stJoinE g m) (fun p => p.1 ≤ m.length ∧ SortE p.2 ∧ p.2.length ≤ l.length + p.1 ∧ joinL l m = joinL p.2 (m.drop p.1)) (fun p => m.length - p.1) (0, l) ⟨Nat.zero_le _, hs, Nat.le_refl _, rfl⟩ (wk_ren 11 40 (by decide) rfl (weak_mk ?_ ?_)) fun p hp => ?_
  · (try simp only [brK_e, gdK_e, skK_e, gdA_e, skA_e, pkK_e]); simp (maxSteps := 10000000) (disch := omega) only [go_sem, ↓reduceIte, Nat.reduceEqDiff, Nat.reduceSub, Nat.reduceLeDiff, Nat.reduceAdd, Int.reduceEq, Int.reduceLT, Int.reduceLE]
  · (try simp only [brK_e, gdK_e, skK_e, gdA_e, skA_e, pkK_e]); simp (maxSteps := 10000000) (disch := omega) only [go_sem, ↓reduceIte, Nat.reduceEqDiff, Nat.reduceSub, Nat.reduceLeDiff, Nat.reduceAdd, Int.reduceEq, Int.reduceLT, Int.reduceLE]
  obtain ⟨k, out⟩ := p
  obtain ⟨p1, p2, p3, p4⟩ := hp
  simp only at p1 p2 p3 p4
  by_cases hlt : k < m.length
  · have hd : m.drop k = m[k] :: m.drop (k + 1) := List.drop_eq_getElem_cons hlt
    have hx' : m[k]? = some m[k] := List.getElem?_eq_getElem hlt
    have he : (m.map entE)[k]? = some (entE m[k]) := by rw [List.getElem?_map, hx']; rfl
    rw [hd] at p4
    generalize m[k] = x at *
    have hc := entE_len x
    have hq := len_put out x
    (try simp only [brK_e, gdK_e, skK_e, gdA_e, skA_e, pkK_e]); simp (maxSteps := 10000000) (disch := omega) only [stJoinE, List.length_map, he, ld_ent, hc, ld_entId, go_sem, ↓reduceIte, Nat.reduceEqDiff, Nat.reduceSub, Nat.reduceLeDiff, Nat.reduceAdd, Int.reduceEq, Int.reduceLT, Int.reduceLE]
    refine call_with (okAtE (l := out) x.id rfl rfl p2 (by omega)) ?_
    by_cases hi : isE out x.id = true
    · obtain ⟨y, h1, h2⟩ := is_at p2 hi
      have hp : posE out x.id < out.length := (List.getElem?_eq_some_iff.1 h1).1
      have he' : (out.map entE)[posE out x.id]? = some (entE y) := by rw [List.getElem?_map, h1]; rfl
      have hg : (out.map entE).getD (posE out x.id) [] = entE y := by rw [List.getD_eq_getElem?_getD, he']; rfl
      have hw := splice_by y (vJoin y.gone x.gone)
      have ep : putL out x = modE out x.id fun y => mrg2 y x := by unfold putL; rw [if_pos hi]
      have e : (out.map entE).set (posE out x.id) (entE { y with gone := vJoin y.gone x.gone }) = (putL out x).map entE := by
        rw [ep, ← List.map_set]
        congr 1
        exact set_mod p2 (f := fun y => mrg2 y x) h2
      have hv := vE_length (vJoin y.gone x.gone)
      (try simp only [brK_e, gdK_e, skK_e, gdA_e, skA_e, pkK_e]); simp (maxSteps := 10000000) (disch := omega) only [hi, List.length_map, he', ld_entBy, go_sem, ↓reduceIte, Nat.reduceEqDiff, Nat.reduceSub, Nat.reduceLeDiff, Nat.reduceAdd, Int.reduceEq, Int.reduceLT, Int.reduceLE]
      refine call_with (okJoin _ _) ?_
      (try simp only [brK_e, gdK_e, skK_e, gdA_e, skA_e, pkK_e]); simp (maxSteps := 10000000) (disch := omega) only [hg, hw, e, List.length_map, go_sem, ↓reduceIte, Nat.reduceEqDiff, Nat.reduceSub, Nat.reduceLeDiff, Nat.reduceAdd, Int.reduceEq, Int.reduceLT, Int.reduceLE]
      refine loop_next (x := (k, out)) (k + 1, putL out x) _ _ rfl ⟨by show k + 1 ≤ _; omega, sort_put p2 x, by show List.length (putL out x) ≤ _ + (k + 1); omega, p4⟩ (by show m.length - (k + 1) < m.length - k; omega) ?_ ?_
      · (try simp only [brK_e, gdK_e, skK_e, gdA_e, skA_e, pkK_e]); simp (maxSteps := 10000000) (disch := omega) only [go_sem, ↓reduceIte, Nat.reduceEqDiff, Nat.reduceSub, Nat.reduceLeDiff, Nat.reduceAdd, Int.reduceEq, Int.reduceLT, Int.reduceLE]
      · (try simp only [brK_e, gdK_e, skK_e, gdA_e, skA_e, pkK_e]); simp (maxSteps := 10000000) (disch := omega) only [go_sem, ↓reduceIte, Nat.reduceEqDiff, Nat.reduceSub, Nat.reduceLeDiff, Nat.reduceAdd, Int.reduceEq, Int.reduceLT, Int.reduceLE]
    · have hi' : isE out x.id = false := by simpa using hi
      have ep : putL out x = insE out x := by unfold putL; rw [if_neg hi]
      (try simp only [brK_e, gdK_e, skK_e, gdA_e, skA_e, pkK_e]); simp (maxSteps := 10000000) (disch := omega) only [hi', List.length_map, ld_ent, hc, go_sem, ↓reduceIte, Nat.reduceEqDiff, Nat.reduceSub, Nat.reduceLeDiff, Nat.reduceAdd, Int.reduceEq, Int.reduceLT, Int.reduceLE]
      have hp := posE_le out x.id
      refine call_with (okInsE (out.map entE) (entE x) (posE out x.id) (by simp; omega) (by simp; omega) (ent_len out) hc (by decide) (by decide) (by decide) (by decide) rfl rfl) ?_
      (try simp only [brK_e, gdK_e, skK_e, gdA_e, skA_e, pkK_e]); simp (maxSteps := 10000000) (disch := omega) only [List.length_map, go_sem, ↓reduceIte, Nat.reduceEqDiff, Nat.reduceSub, Nat.reduceLeDiff, Nat.reduceAdd, Int.reduceEq, Int.reduceLT, Int.reduceLE]
      refine ⟨(k + 1, putL out x), ⟨by show k + 1 ≤ _; omega, sort_put p2 x, by show List.length (putL out x) ≤ _ + (k + 1); omega, p4⟩, by show m.length - (k + 1) < m.length - k; omega, wk_ren 42 40 (by decide) rfl (weak_mk ?_ ?_)⟩
      · (try simp only [brK_e, gdK_e, skK_e, gdA_e, skA_e, pkK_e]); simp (maxSteps := 10000000) (disch := omega) only [go_sem, ↓reduceIte, Nat.reduceEqDiff, Nat.reduceSub, Nat.reduceLeDiff, Nat.reduceAdd, Int.reduceEq, Int.reduceLT, Int.reduceLE]
      · (try simp only [brK_e, gdK_e, skK_e, gdA_e, skA_e, pkK_e]); simp (maxSteps := 10000000) (disch := omega) only [ep, go_sem, ↓reduceIte, Nat.reduceEqDiff, Nat.reduceSub, Nat.reduceLeDiff, Nat.reduceAdd, Int.reduceEq, Int.reduceLT, Int.reduceLE]
        simp [insE, List.map_take, List.map_drop]
  · obtain rfl : k = m.length := by omega
    have e : joinL out (m.drop m.length) = out := by rw [List.drop_length]; rfl
    rw [e] at p4
    (try simp only [brK_e, gdK_e, skK_e, gdA_e, skA_e, pkK_e]); simp (maxSteps := 10000000) (disch := omega) only [stJoinE, List.length_map, p4, go_sem, ↓reduceIte, Nat.reduceEqDiff, Nat.reduceSub, Nat.reduceLeDiff, Nat.reduceAdd, Int.reduceEq, Int.reduceLT, Int.reduceLE]
end Go.Proofs.YthleeikkpjiicaaDoor.Fw
namespace Go.Proofs.YthleeikkpjiicaaDoor.Fw
open Go.RowKit Go.Proofs
/-! The document's entries. -/
theorem fitsId2 (a : Idn) : fits [K1.int .i64, K1.int .u32] [.i .i64 a.1, .i .u32 a.2] = True := eq_true rfl
theorem peqI_t {a b : Idn} (h : a = b) : peq [.i .i64 a.1, .i .u32 a.2] [.i .i64 b.1, .i .u32 b.2] = true := by subst h; simp [peq]
theorem peqI_f {a b : Idn} (h : a ≠ b) : peq [.i .i64 a.1, .i .u32 a.2] [.i .i64 b.1, .i .u32 b.2] = false := peqId_f fun e => h (Prod.ext e.1 e.2)
def stAliveE (x : Ent) (k : Nat) : FS := mk [(3, .pv (.i .i64 k)), (1, .p 1 0)] [(1, some (.var (.vec 15 (entE x))))]
theorem okAliveRE (x : Ent) {h d} : FunOk Tryd.prog 12 [.vec 15 (entE x)] h d (.pv (.b (decide (vEq x.gone fun _ => 0)))) [] := by
  refine fun_pure mixed fn12 (by simp) rfl rfl fun F => ?_
  (try simp only [brK_e, gdK_e, skK_e, gdA_e, skA_e, pkK_e]); simp (maxSteps := 10000000) (disch := omega) only [ir12, go_sem, ↓reduceIte, Nat.reduceEqDiff, Nat.reduceSub, Nat.reduceLeDiff, Nat.reduceAdd, Int.reduceEq, Int.reduceLT, Int.reduceLE]
  refine loop_ok mixed (stAliveE x) (fun k => k ≤ 8 ∧ ∀ i, i < k → x.gone i = 0) (fun k => 8 - k) 0 (by simp) (weak_mk ?_ ?_) fun k hk => ?_
  · (try simp only [brK_e, gdK_e, skK_e, gdA_e, skA_e, pkK_e]); simp (maxSteps := 10000000) (disch := omega) only [go_sem, ↓reduceIte, Nat.reduceEqDiff, Nat.reduceSub, Nat.reduceLeDiff, Nat.reduceAdd, Int.reduceEq, Int.reduceLT, Int.reduceLE]
  · (try simp only [brK_e, gdK_e, skK_e, gdA_e, skA_e, pkK_e]); simp (maxSteps := 10000000) (disch := omega) only [go_sem, ↓reduceIte, Nat.reduceEqDiff, Nat.reduceSub, Nat.reduceLeDiff, Nat.reduceAdd, Int.reduceEq, Int.reduceLT, Int.reduceLE]
  obtain ⟨hk1, hk2⟩ := hk
  by_cases hlt : k < 8
  · have hl := ld_entG x hlt
    by_cases hc : x.gone k = 0
    · rw [hc] at hl
      (try simp only [brK_e, gdK_e, skK_e, gdA_e, skA_e, pkK_e]); simp (maxSteps := 10000000) (disch := omega) only [stAliveE, hl, go_sem, ↓reduceIte, Nat.reduceEqDiff, Nat.reduceSub, Nat.reduceLeDiff, Nat.reduceAdd, Int.reduceEq, Int.reduceLT, Int.reduceLE]
      refine loop_next (k + 1) _ _ rfl ⟨by omega, fun i hi => ?_⟩ (by omega) ?_ ?_
      · rcases Nat.lt_succ_iff_lt_or_eq.1 hi with h | rfl
        · exact hk2 i h
        · exact hc
      · (try simp only [brK_e, gdK_e, skK_e, gdA_e, skA_e, pkK_e]); simp (maxSteps := 10000000) (disch := omega) only [go_sem, ↓reduceIte, Nat.reduceEqDiff, Nat.reduceSub, Nat.reduceLeDiff, Nat.reduceAdd, Int.reduceEq, Int.reduceLT, Int.reduceLE]
      · (try simp only [brK_e, gdK_e, skK_e, gdA_e, skA_e, pkK_e]); simp (maxSteps := 10000000) (disch := omega) only [go_sem, ↓reduceIte, Nat.reduceEqDiff, Nat.reduceSub, Nat.reduceLeDiff, Nat.reduceAdd, Int.reduceEq, Int.reduceLT, Int.reduceLE]
    · have hz : ¬ (x.gone k : Int) = 0 := by omega
      have he : ¬ vEq x.gone fun _ => 0 := fun h => hc (h k hlt)
      (try simp only [brK_e, gdK_e, skK_e, gdA_e, skA_e, pkK_e]); simp (maxSteps := 10000000) (disch := omega) only [stAliveE, hl, hz, he, go_sem, ↓reduceIte, Nat.reduceEqDiff, Nat.reduceSub, Nat.reduceLeDiff, Nat.reduceAdd, Int.reduceEq, Int.reduceLT, Int.reduceLE]
  · have he : vEq x.gone fun _ => 0 := fun i hi => hk2 i (by omega)
    (try simp only [brK_e, gdK_e, skK_e, gdA_e, skA_e, pkK_e]); simp (maxSteps := 10000000) (disch := omega) only [stAliveE, he, go_sem, ↓reduceIte, Nat.reduceEqDiff, Nat.reduceSub, Nat.reduceLeDiff, Nat.reduceAdd, Int.reduceEq, Int.reduceLT, Int.reduceLE]
def stHasE (f : Bool) (l : List Ent) (i : Idn) (k : Nat) : FS := mk [(5, .pv (.i .i64 k)), (0, .pv (.sl f 15 (l.map entE))), (3, .p 3 0)] [(3, some (.var (.vec 2 [.i .i64 i.1, .i .u32 i.2])))]
theorem okHasE {x : SV} {f : Bool} {l : List Ent} (i : Idn) {h d} (hx : lents h [x, .vec 2 [.i .i64 i.1, .i .u32 i.2]] = [.pv (.sl f 15 (l.map entE)), .vec 2 [.i .i64 i.1, .i .u32 i.2]]) (hl : lendable [x, .vec 2 [.i .i64 i.1, .i .u32 i.2]] = true) (hn : l.length ≤ 1000) :
    FunOk Tryd.prog 47 [x, .vec 2 [.i .i64 i.1, .i .u32 i.2]] h d (.pv (.b (isE l i))) [] := by
  refine fun_scalar mixed fn47 (by simp) hl rfl fun F => ?_
  rw [hx]
  (try simp only [brK_e, gdK_e, skK_e, gdA_e, skA_e, pkK_e]); simp (maxSteps := 10000000) (disch := omega) only [ir47, List.length_map, go_sem, ↓reduceIte, Nat.reduceEqDiff, Nat.reduceSub, Nat.reduceLeDiff, Nat.reduceAdd, Int.reduceEq, Int.reduceLT, Int.reduceLE]
  refine loop_ok mixed (stHasE f l i) (fun k => k ≤ l.length ∧ isE l i = isE (l.drop k) i) (fun k => l.length - k) 0 (by simp) (weak_mk ?_ ?_) fun k hk => ?_
  · (try simp only [brK_e, gdK_e, skK_e, gdA_e, skA_e, pkK_e]); simp (maxSteps := 10000000) (disch := omega) only [go_sem, ↓reduceIte, Nat.reduceEqDiff, Nat.reduceSub, Nat.reduceLeDiff, Nat.reduceAdd, Int.reduceEq, Int.reduceLT, Int.reduceLE]
  · (try simp only [brK_e, gdK_e, skK_e, gdA_e, skA_e, pkK_e]); simp (maxSteps := 10000000) (disch := omega) only [go_sem, ↓reduceIte, Nat.reduceEqDiff, Nat.reduceSub, Nat.reduceLeDiff, Nat.reduceAdd, Int.reduceEq, Int.reduceLT, Int.reduceLE]
  obtain ⟨hk1, hk2⟩ := hk
  by_cases hlt : k < l.length
  · have hd : l.drop k = l[k] :: l.drop (k + 1) := List.drop_eq_getElem_cons hlt
    have he : (l.map entE)[k]? = some (entE l[k]) := by simp [hlt]
    rw [hd] at hk2
    generalize l[k] = v at *
    by_cases hid : v.id = i
    · have hp := peqI_t hid
      have e : isE l i = true := by rw [hk2]; unfold isE; simp [look, hid]
      (try simp only [brK_e, gdK_e, skK_e, gdA_e, skA_e, pkK_e]); simp (maxSteps := 10000000) (disch := omega) only [stHasE, List.length_map, he, ld_entId, fitsId2, hp, e, go_sem, ↓reduceIte, Nat.reduceEqDiff, Nat.reduceSub, Nat.reduceLeDiff, Nat.reduceAdd, Int.reduceEq, Int.reduceLT, Int.reduceLE]
    · rw [isE_cons _ _ _ hid] at hk2
      have hp := peqI_f hid
      (try simp only [brK_e, gdK_e, skK_e, gdA_e, skA_e, pkK_e]); simp (maxSteps := 10000000) (disch := omega) only [stHasE, List.length_map, he, ld_entId, fitsId2, hp, go_sem, ↓reduceIte, Nat.reduceEqDiff, Nat.reduceSub, Nat.reduceLeDiff, Nat.reduceAdd, Int.reduceEq, Int.reduceLT, Int.reduceLE]
      refine loop_next (k + 1) _ _ rfl ⟨by omega, hk2⟩ (by omega) ?_ ?_
      · (try simp only [brK_e, gdK_e, skK_e, gdA_e, skA_e, pkK_e]); simp (maxSteps := 10000000) (disch := omega) only [go_sem, ↓reduceIte, Nat.reduceEqDiff, Nat.reduceSub, Nat.reduceLeDiff, Nat.reduceAdd, Int.reduceEq, Int.reduceLT, Int.reduceLE]
      · (try simp only [brK_e, gdK_e, skK_e, gdA_e, skA_e, pkK_e]); simp (maxSteps := 10000000) (disch := omega) only [go_sem, ↓reduceIte, Nat.reduceEqDiff, Nat.reduceSub, Nat.reduceLeDiff, Nat.reduceAdd, Int.reduceEq, Int.reduceLT, Int.reduceLE]
  · obtain rfl : k = l.length := by omega
    rw [List.drop_length] at hk2
    have e : isE l i = false := hk2
    (try simp only [brK_e, gdK_e, skK_e, gdA_e, skA_e, pkK_e]); simp (maxSteps := 10000000) (disch := omega) only [stHasE, List.length_map, e, go_sem, ↓reduceIte, Nat.reduceEqDiff, Nat.reduceSub, Nat.reduceLeDiff, Nat.reduceAdd, Int.reduceEq, Int.reduceLT, Int.reduceLE]
def stPutE (f : Bool) (l : List Ent) (x : Ent) (p : Nat × List Ent × Bool) : FS := mk [(7, .pv (.i .i64 p.1)), (6, .pv (.b p.2.2)), (5, .os 40), (3, .p 3 0), (0, .pv (.sl f 15 (l.map entE)))] [(40, some (.row 15 (p.2.1.map entE))), (3, some (.var (.vec 15 (entE x))))]
set_option maxHeartbeats 2000000 in
theorem okPutRE {a : SV} {f : Bool} {l : List Ent} (x : Ent) {h d} (hx : lents h [a, .vec 15 (entE x)] = [.pv (.sl f 15 (l.map entE)), .vec 15 (entE x)]) (hl : lendable [a, .vec 15 (entE x)] = true) (hn : l.length ≤ 1000) :
    FunOk Tryd.prog 48 [a, .vec 15 (entE x)] h d (.os d) [.new d (.row 15 ((putGo l x false).map entE))] := by
  refine fun_row mixed fn48 (by simp) hl (.inr (entE_flat _)) fun F => ?_
  rw [hx]
  have hcx := entE_len x
  (try simp only [brK_e, gdK_e, skK_e, gdA_e, skA_e, pkK_e]); simp (maxSteps := 10000000) (disch := omega) only [ir48, List.length_map, go_sem, ↓reduceIte, Nat.reduceEqDiff, Nat.reduceSub, Nat.reduceLeDiff, Nat.reduceAdd, Int.reduceEq, Int.reduceLT, Int.reduceLE]
  refine loop_ok mixed (stPutE f l x) (fun p => p.1 ≤ l.length ∧ p.2.1.length ≤ 2 * p.1 ∧ putGo l x false = p.2.1 ++ putGo (l.drop p.1) x p.2.2) (fun p => l.length - p.1) (0, [], false) ⟨Nat.zero_le _, Nat.le_refl _, rfl⟩ (wk_nil 5 40 15 rfl (by omega) (weak_mk ?_ ?_)) fun p hp => ?_
  · (try simp only [brK_e, gdK_e, skK_e, gdA_e, skA_e, pkK_e]); simp (maxSteps := 10000000) (disch := omega) only [go_sem, ↓reduceIte, Nat.reduceEqDiff, Nat.reduceSub, Nat.reduceLeDiff, Nat.reduceAdd, Int.reduceEq, Int.reduceLT, Int.reduceLE]
  · (try simp only [brK_e, gdK_e, skK_e, gdA_e, skA_e, pkK_e]); simp (maxSteps := 10000000) (disch := omega) only [go_sem, ↓reduceIte, Nat.reduceEqDiff, Nat.reduceSub, Nat.reduceLeDiff, Nat.reduceAdd, Int.reduceEq, Int.reduceLT, Int.reduceLE]
    rfl
  obtain ⟨k, out, put⟩ := p
  obtain ⟨p1, p2, p3⟩ := hp
  simp only at p1 p2 p3
  by_cases hlt : k < l.length
  · have hd : l.drop k = l[k] :: l.drop (k + 1) := List.drop_eq_getElem_cons hlt
    have he : (l.map entE)[k]? = some (entE l[k]) := by simp [hlt]
    rw [hd] at p3
    generalize l[k] = y at *
    have hcy := entE_len y
    simp only [putGo] at p3
    by_cases hid : y.id = x.id
    · rw [if_pos hid] at p3
      have hp := peqI_t hid
      have hw := splice_by y (vJoin y.gone x.gone)
      have hv := vE_length (vJoin y.gone x.gone)
      have hm : ({ y with gone := vJoin y.gone x.gone } : Ent) = mrg2 y x := rfl
      have hcm := entE_len (mrg2 y x)
      (try simp only [brK_e, gdK_e, skK_e, gdA_e, skA_e, pkK_e]); simp (maxSteps := 10000000) (disch := omega) only [stPutE, List.length_map, he, ld_entId, fitsId2, hp, ld_ent, ld_entBy, hcy, go_sem, ↓reduceIte, Nat.reduceEqDiff, Nat.reduceSub, Nat.reduceLeDiff, Nat.reduceAdd, Int.reduceEq, Int.reduceLT, Int.reduceLE]
      refine call_with (okJoinR _ _) ?_
      (try simp only [brK_e, gdK_e, skK_e, gdA_e, skA_e, pkK_e]); simp (maxSteps := 10000000) (disch := omega) only [hw, hm, ld_ent, hcy, hcm, hv, List.length_map, go_sem, ↓reduceIte, Nat.reduceEqDiff, Nat.reduceSub, Nat.reduceLeDiff, Nat.reduceAdd, Int.reduceEq, Int.reduceLT, Int.reduceLE]
      refine ⟨(k + 1, out ++ [mrg2 y x], true), ⟨by show k + 1 ≤ _; omega, by show List.length (out ++ [mrg2 y x]) ≤ 2 * (k + 1); simp; omega, by rw [p3]; show _ = (out ++ [mrg2 y x]) ++ _; simp⟩, by show l.length - (k + 1) < l.length - k; omega, wk_ren 36 40 (by decide) rfl (weak_mk ?_ ?_)⟩
      · (try simp only [brK_e, gdK_e, skK_e, gdA_e, skA_e, pkK_e]); simp (maxSteps := 10000000) (disch := omega) only [go_sem, ↓reduceIte, Nat.reduceEqDiff, Nat.reduceSub, Nat.reduceLeDiff, Nat.reduceAdd, Int.reduceEq, Int.reduceLT, Int.reduceLE]
      · (try simp only [brK_e, gdK_e, skK_e, gdA_e, skA_e, pkK_e]); simp (maxSteps := 10000000) (disch := omega) only [go_sem, ↓reduceIte, Nat.reduceEqDiff, Nat.reduceSub, Nat.reduceLeDiff, Nat.reduceAdd, Int.reduceEq, Int.reduceLT, Int.reduceLE]
        simp
    · rw [if_neg hid] at p3
      have hp := peqI_f hid
      by_cases hput : put = true
      · subst hput
        rw [if_neg (by simp)] at p3
        (try simp only [brK_e, gdK_e, skK_e, gdA_e, skA_e, pkK_e]); simp (maxSteps := 10000000) (disch := omega) only [stPutE, List.length_map, he, ld_entId, fitsId2, hp, ld_ent, hcy, go_sem, ↓reduceIte, Nat.reduceEqDiff, Nat.reduceSub, Nat.reduceLeDiff, Nat.reduceAdd, Int.reduceEq, Int.reduceLT, Int.reduceLE]
        refine ⟨(k + 1, out ++ [y], true), ⟨by show k + 1 ≤ _; omega, by show List.length (out ++ [y]) ≤ 2 * (k + 1); simp; omega, by rw [p3]; show _ = (out ++ [y]) ++ _; simp⟩, by show l.length - (k + 1) < l.length - k; omega, wk_ren 59 40 (by decide) rfl (weak_mk ?_ ?_)⟩
        · (try simp only [brK_e, gdK_e, skK_e, gdA_e, skA_e, pkK_e]); simp (maxSteps := 10000000) (disch := omega) only [go_sem, ↓reduceIte, Nat.reduceEqDiff, Nat.reduceSub, Nat.reduceLeDiff, Nat.reduceAdd, Int.reduceEq, Int.reduceLT, Int.reduceLE]
        · (try simp only [brK_e, gdK_e, skK_e, gdA_e, skA_e, pkK_e]); simp (maxSteps := 10000000) (disch := omega) only [go_sem, ↓reduceIte, Nat.reduceEqDiff, Nat.reduceSub, Nat.reduceLeDiff, Nat.reduceAdd, Int.reduceEq, Int.reduceLT, Int.reduceLE]
          simp
      · obtain rfl : put = false := by simpa using hput
        (try simp only [brK_e, gdK_e, skK_e, gdA_e, skA_e, pkK_e]); simp (maxSteps := 10000000) (disch := omega) only [stPutE, List.length_map, he, ld_entId, fitsId2, hp, ld_ent, hcy, go_sem, ↓reduceIte, Nat.reduceEqDiff, Nat.reduceSub, Nat.reduceLeDiff, Nat.reduceAdd, Int.reduceEq, Int.reduceLT, Int.reduceLE]
        refine call_with (okLessR _ _ _ _) ?_
        by_cases hl : ilt x.id y.id = true
        · rw [if_pos ⟨rfl, hl⟩] at p3
          have hl' : idLt x.id.1 x.id.2 y.id.1 y.id.2 = true := hl
          (try simp only [brK_e, gdK_e, skK_e, gdA_e, skA_e, pkK_e]); simp (maxSteps := 10000000) (disch := omega) only [hl', List.length_map, he, ld_ent, hcy, hcx, go_sem, ↓reduceIte, Nat.reduceEqDiff, Nat.reduceSub, Nat.reduceLeDiff, Nat.reduceAdd, Int.reduceEq, Int.reduceLT, Int.reduceLE]
          refine ⟨by simp; omega, (k + 1, out ++ [x, y], true), ⟨by show k + 1 ≤ _; omega, by show List.length (out ++ [x, y]) ≤ 2 * (k + 1); simp; omega, by rw [p3]; show _ = (out ++ [x, y]) ++ _; simp⟩, by show l.length - (k + 1) < l.length - k; omega, wk_ren 59 40 (by decide) rfl (weak_mk ?_ ?_)⟩
          · (try simp only [brK_e, gdK_e, skK_e, gdA_e, skA_e, pkK_e]); simp (maxSteps := 10000000) (disch := omega) only [go_sem, ↓reduceIte, Nat.reduceEqDiff, Nat.reduceSub, Nat.reduceLeDiff, Nat.reduceAdd, Int.reduceEq, Int.reduceLT, Int.reduceLE]
          · (try simp only [brK_e, gdK_e, skK_e, gdA_e, skA_e, pkK_e]); simp (maxSteps := 10000000) (disch := omega) only [go_sem, ↓reduceIte, Nat.reduceEqDiff, Nat.reduceSub, Nat.reduceLeDiff, Nat.reduceAdd, Int.reduceEq, Int.reduceLT, Int.reduceLE]
            simp
        · rw [if_neg fun q => hl q.2] at p3
          have hl' : idLt x.id.1 x.id.2 y.id.1 y.id.2 = false := by simpa using hl
          (try simp only [brK_e, gdK_e, skK_e, gdA_e, skA_e, pkK_e]); simp (maxSteps := 10000000) (disch := omega) only [hl', List.length_map, he, ld_ent, hcy, go_sem, ↓reduceIte, Nat.reduceEqDiff, Nat.reduceSub, Nat.reduceLeDiff, Nat.reduceAdd, Int.reduceEq, Int.reduceLT, Int.reduceLE]
          refine ⟨(k + 1, out ++ [y], false), ⟨by show k + 1 ≤ _; omega, by show List.length (out ++ [y]) ≤ 2 * (k + 1); simp; omega, by rw [p3]; show _ = (out ++ [y]) ++ _; simp⟩, by show l.length - (k + 1) < l.length - k; omega, wk_ren 59 40 (by decide) rfl (weak_mk ?_ ?_)⟩
          · (try simp only [brK_e, gdK_e, skK_e, gdA_e, skA_e, pkK_e]); simp (maxSteps := 10000000) (disch := omega) only [go_sem, ↓reduceIte, Nat.reduceEqDiff, Nat.reduceSub, Nat.reduceLeDiff, Nat.reduceAdd, Int.reduceEq, Int.reduceLT, Int.reduceLE]
          · (try simp only [brK_e, gdK_e, skK_e, gdA_e, skA_e, pkK_e]); simp (maxSteps := 10000000) (disch := omega) only [go_sem, ↓reduceIte, Nat.reduceEqDiff, Nat.reduceSub, Nat.reduceLeDiff, Nat.reduceAdd, Int.reduceEq, Int.reduceLT, Int.reduceLE]
            simp
  · obtain rfl : k = l.length := by omega
    rw [List.drop_length] at p3
    simp only [putGo] at p3
    by_cases hput : put = true
    · subst hput
      simp only [if_true, List.append_nil] at p3
      (try simp only [brK_e, gdK_e, skK_e, gdA_e, skA_e, pkK_e]); simp (maxSteps := 10000000) (disch := omega) only [stPutE, List.length_map, p3, go_sem, ↓reduceIte, Nat.reduceEqDiff, Nat.reduceSub, Nat.reduceLeDiff, Nat.reduceAdd, Int.reduceEq, Int.reduceLT, Int.reduceLE]
    · obtain rfl : put = false := by simpa using hput
      simp only [Bool.false_eq_true, if_false] at p3
      (try simp only [brK_e, gdK_e, skK_e, gdA_e, skA_e, pkK_e]); simp (maxSteps := 10000000) (disch := omega) only [stPutE, List.length_map, ld_ent, hcx, go_sem, ↓reduceIte, Nat.reduceEqDiff, Nat.reduceSub, Nat.reduceLeDiff, Nat.reduceAdd, Int.reduceEq, Int.reduceLT, Int.reduceLE]
      rw [p3]; simp
end Go.Proofs.YthleeikkpjiicaaDoor.Fw
namespace Go.Proofs.YthleeikkpjiicaaDoor.Fw
open Go.RowKit Go.Proofs
theorem okAddRE {l : List Ent} (x : Ent) {h d} (hs : SortE l) (hn : l.length ≤ 1000) :
    FunOk Tryd.prog 24 [.pv (.sl false 15 (l.map entE)), .vec 15 (entE x)] h d (.pv (.sl false 15 ((addL l x).map entE))) [] := by
  refine fun_pureW mixed fn24 (by simp) rfl rfl fun F => ?_
  (try simp only [brK_e, gdK_e, skK_e, gdA_e, skA_e, pkK_e]); simp (maxSteps := 10000000) (disch := omega) only [ir24, ld_entId, go_sem, ↓reduceIte, Nat.reduceEqDiff, Nat.reduceSub, Nat.reduceLeDiff, Nat.reduceAdd, Int.reduceEq, Int.reduceLT, Int.reduceLE]
  refine call_with (okHasE (l := l) x.id rfl rfl hn) ?_
  by_cases hi : isE l x.id = true
  · have e : addL l x = l := by unfold addL; rw [if_pos hi]
    (try simp only [brK_e, gdK_e, skK_e, gdA_e, skA_e, pkK_e]); simp (maxSteps := 10000000) (disch := omega) only [hi, e, go_sem, ↓reduceIte, Nat.reduceEqDiff, Nat.reduceSub, Nat.reduceLeDiff, Nat.reduceAdd, Int.reduceEq, Int.reduceLT, Int.reduceLE]
    refine ⟨_, .same _, ?_⟩
    (try simp only [brK_e, gdK_e, skK_e, gdA_e, skA_e, pkK_e]); simp (maxSteps := 10000000) (disch := omega) only [go_sem, ↓reduceIte, Nat.reduceEqDiff, Nat.reduceSub, Nat.reduceLeDiff, Nat.reduceAdd, Int.reduceEq, Int.reduceLT, Int.reduceLE]
  · have hi' : isE l x.id = false := by simpa using hi
    have e : addL l x = putGo l x false := by rw [add_put hi', putGo_put hs]
    (try simp only [brK_e, gdK_e, skK_e, gdA_e, skA_e, pkK_e]); simp (maxSteps := 10000000) (disch := omega) only [hi', e, ld_ent, go_sem, ↓reduceIte, Nat.reduceEqDiff, Nat.reduceSub, Nat.reduceLeDiff, Nat.reduceAdd, Int.reduceEq, Int.reduceLT, Int.reduceLE]
    refine call_with (okPutRE (l := l) x rfl rfl hn) ?_
    (try simp only [brK_e, gdK_e, skK_e, gdA_e, skA_e, pkK_e]); simp (maxSteps := 10000000) (disch := omega) only [go_sem, ↓reduceIte, Nat.reduceEqDiff, Nat.reduceSub, Nat.reduceLeDiff, Nat.reduceAdd, Int.reduceEq, Int.reduceLT, Int.reduceLE]
    refine ⟨_, wk_frz 12 rfl (.same _), ?_⟩
    (try simp only [brK_e, gdK_e, skK_e, gdA_e, skA_e, pkK_e]); simp (maxSteps := 10000000) (disch := omega) only [go_sem, ↓reduceIte, Nat.reduceEqDiff, Nat.reduceSub, Nat.reduceLeDiff, Nat.reduceAdd, Int.reduceEq, Int.reduceLT, Int.reduceLE]
def stKillR (l : List Ent) (i b : Idn) (k : Nat) : FS := mk [(8, .pv (.i .i64 k)), (7, .os 40), (5, .p 5 0), (4, .p 4 0), (0, .pv (.sl false 15 (l.map entE)))] [(40, some (.row 15 ((killL (l.take k) i b).map entE))), (4, some (.var (.vec 2 [.i .i64 i.1, .i .u32 i.2]))), (5, some (.var (.vec 2 [.i .i64 b.1, .i .u32 b.2])))]
theorem kill_snoc {l : List Ent} {k : Nat} {y : Ent} (h : l[k]? = some y) (i b : Idn) : killL (l.take (k + 1)) i b = killL (l.take k) i b ++ [if y.id = i then killF b y else y] := by
  unfold killL modE
  rw [List.take_add_one, h, List.map_append]; rfl
set_option maxHeartbeats 1000000 in
theorem okKillRE {l : List Ent} (i b : Idn) {h d} (hn : l.length ≤ 1000) :
    FunOk Tryd.prog 26 [.pv (.sl false 15 (l.map entE)), .vec 2 [.i .i64 i.1, .i .u32 i.2], .vec 2 [.i .i64 b.1, .i .u32 b.2]] h d (.pv (.sl false 15 ((killL l i b).map entE))) [] := by
  refine fun_pureW mixed fn26 (by simp) rfl rfl fun F => ?_
  (try simp only [brK_e, gdK_e, skK_e, gdA_e, skA_e, pkK_e]); simp (maxSteps := 10000000) (disch := omega) only [ir26, List.length_map, go_sem, ↓reduceIte, Nat.reduceEqDiff, Nat.reduceSub, Nat.reduceLeDiff, Nat.reduceAdd, Int.reduceEq, Int.reduceLT, Int.reduceLE]
  refine loop_ok mixed (stKillR l i b) (fun k => k ≤ l.length) (fun k => l.length - k) 0 (Nat.zero_le _) (wk_nil 7 40 15 rfl (by omega) (weak_mk ?_ ?_)) fun k hk => ?_
  · (try simp only [brK_e, gdK_e, skK_e, gdA_e, skA_e, pkK_e]); simp (maxSteps := 10000000) (disch := omega) only [go_sem, ↓reduceIte, Nat.reduceEqDiff, Nat.reduceSub, Nat.reduceLeDiff, Nat.reduceAdd, Int.reduceEq, Int.reduceLT, Int.reduceLE]
  · (try simp only [brK_e, gdK_e, skK_e, gdA_e, skA_e, pkK_e]); simp (maxSteps := 10000000) (disch := omega) only [go_sem, ↓reduceIte, Nat.reduceEqDiff, Nat.reduceSub, Nat.reduceLeDiff, Nat.reduceAdd, Int.reduceEq, Int.reduceLT, Int.reduceLE]
    rfl
  by_cases hlt : k < l.length
  · have hx' : l[k]? = some l[k] := List.getElem?_eq_getElem hlt
    have he : (l.map entE)[k]? = some (entE l[k]) := by rw [List.getElem?_map, hx']; rfl
    have ht := kill_snoc hx' i b
    have hq : (killL (l.take k) i b).length = k := by unfold killL; rw [len_mod, List.length_take]; omega
    generalize l[k] = y at *
    have hcy := entE_len y
    by_cases hid : y.id = i
    · have hp := peqI_t hid
      rw [if_pos hid] at ht
      have hw := splice_by y (vJoin y.gone (oneT b))
      have hv := vE_length (vJoin y.gone (oneT b))
      have hr := withR_eq y.gone b
      have hm : ({ y with gone := vJoin y.gone (oneT b) } : Ent) = killF b y := rfl
      have hcm := entE_len (killF b y)
      (try simp only [brK_e, gdK_e, skK_e, gdA_e, skA_e, pkK_e]); simp (maxSteps := 10000000) (disch := omega) only [stKillR, List.length_map, he, ld_ent, ld_entId, fitsId2, hp, ld_entBy, hcy, go_sem, ↓reduceIte, Nat.reduceEqDiff, Nat.reduceSub, Nat.reduceLeDiff, Nat.reduceAdd, Int.reduceEq, Int.reduceLT, Int.reduceLE]
      refine call_with (okWithR _ _ _) ?_
      rw [hr]
      (try simp only [brK_e, gdK_e, skK_e, gdA_e, skA_e, pkK_e]); simp (maxSteps := 10000000) (disch := omega) only [hw, hm, ld_ent, hcy, hcm, hv, List.length_map, hq, go_sem, ↓reduceIte, Nat.reduceEqDiff, Nat.reduceSub, Nat.reduceLeDiff, Nat.reduceAdd, Int.reduceEq, Int.reduceLT, Int.reduceLE]
      refine ⟨k + 1, by omega, by omega, wk_ren 32 40 (by decide) rfl (weak_mk ?_ ?_)⟩
      · (try simp only [brK_e, gdK_e, skK_e, gdA_e, skA_e, pkK_e]); simp (maxSteps := 10000000) (disch := omega) only [go_sem, ↓reduceIte, Nat.reduceEqDiff, Nat.reduceSub, Nat.reduceLeDiff, Nat.reduceAdd, Int.reduceEq, Int.reduceLT, Int.reduceLE]
      · (try simp only [brK_e, gdK_e, skK_e, gdA_e, skA_e, pkK_e]); simp (maxSteps := 10000000) (disch := omega) only [ht, go_sem, ↓reduceIte, Nat.reduceEqDiff, Nat.reduceSub, Nat.reduceLeDiff, Nat.reduceAdd, Int.reduceEq, Int.reduceLT, Int.reduceLE]
        simp
    · have hp := peqI_f hid
      rw [if_neg hid] at ht
      (try simp only [brK_e, gdK_e, skK_e, gdA_e, skA_e, pkK_e]); simp (maxSteps := 10000000) (disch := omega) only [stKillR, List.length_map, he, ld_ent, ld_entId, fitsId2, hp, ld_entBy, hcy, hq, go_sem, ↓reduceIte, Nat.reduceEqDiff, Nat.reduceSub, Nat.reduceLeDiff, Nat.reduceAdd, Int.reduceEq, Int.reduceLT, Int.reduceLE]
      refine ⟨k + 1, by omega, by omega, wk_ren 32 40 (by decide) rfl (weak_mk ?_ ?_)⟩
      · (try simp only [brK_e, gdK_e, skK_e, gdA_e, skA_e, pkK_e]); simp (maxSteps := 10000000) (disch := omega) only [go_sem, ↓reduceIte, Nat.reduceEqDiff, Nat.reduceSub, Nat.reduceLeDiff, Nat.reduceAdd, Int.reduceEq, Int.reduceLT, Int.reduceLE]
      · (try simp only [brK_e, gdK_e, skK_e, gdA_e, skA_e, pkK_e]); simp (maxSteps := 10000000) (disch := omega) only [ht, go_sem, ↓reduceIte, Nat.reduceEqDiff, Nat.reduceSub, Nat.reduceLeDiff, Nat.reduceAdd, Int.reduceEq, Int.reduceLT, Int.reduceLE]
        simp
  · obtain rfl : k = l.length := by omega
    have e := List.take_length (l := l)
    (try simp only [brK_e, gdK_e, skK_e, gdA_e, skA_e, pkK_e]); simp (maxSteps := 10000000) (disch := omega) only [stKillR, List.length_map, e, go_sem, ↓reduceIte, Nat.reduceEqDiff, Nat.reduceSub, Nat.reduceLeDiff, Nat.reduceAdd, Int.reduceEq, Int.reduceLT, Int.reduceLE]
    refine ⟨_, wk_frz 40 rfl (.same _), ?_⟩
    (try simp only [brK_e, gdK_e, skK_e, gdA_e, skA_e, pkK_e]); simp (maxSteps := 10000000) (disch := omega) only [go_sem, ↓reduceIte, Nat.reduceEqDiff, Nat.reduceSub, Nat.reduceLeDiff, Nat.reduceAdd, Int.reduceEq, Int.reduceLT, Int.reduceLE]
def stJoinRE (m : List Ent) (p : Nat × List Ent) : FS := mk [(5, .pv (.i .i64 p.1)), (1, .pv (.sl false 15 (m.map entE))), (0, .pv (.sl false 15 (p.2.map entE)))] []
theorem okJoinRE {l m : List Ent} {h d} (hs : SortE l) (hn : l.length ≤ 400) (hn' : m.length ≤ 400) :
    FunOk Tryd.prog 27 [.pv (.sl false 15 (l.map entE)), .pv (.sl false 15 (m.map entE))] h d (.pv (.sl false 15 ((joinL l m).map entE))) [] := by
  refine fun_pureW mixed fn27 (by simp) rfl rfl fun F => ?_
  (try simp only [brK_e, gdK_e, skK_e, gdA_e, skA_e, pkK_e]); simp (maxSteps := 10000000) (disch := omega) only [ir27, List.length_map, go_sem, ↓reduceIte, Nat.reduceEqDiff, Nat.reduceSub, Nat.reduceLeDiff, Nat.reduceAdd, Int.reduceEq, Int.reduceLT, Int.reduceLE]
  refine loop_ok mixed (stJoinRE m) (fun p => p.1 ≤ m.length ∧ SortE p.2 ∧ p.2.length ≤ l.length + p.1 ∧ joinL l m = joinL p.2 (m.drop p.1)) (fun p => m.length - p.1) (0, l) ⟨Nat.zero_le _, hs, Nat.le_refl _, rfl⟩ (weak_mk ?_ ?_) fun p hp => ?_
  · (try simp only [brK_e, gdK_e, skK_e, gdA_e, skA_e, pkK_e]); simp (maxSteps := 10000000) (disch := omega) only [go_sem, ↓reduceIte, Nat.reduceEqDiff, Nat.reduceSub, Nat.reduceLeDiff, Nat.reduceAdd, Int.reduceEq, Int.reduceLT, Int.reduceLE]
  · (try simp only [brK_e, gdK_e, skK_e, gdA_e, skA_e, pkK_e]); simp (maxSteps := 10000000) (disch := omega) only [go_sem, ↓reduceIte, Nat.reduceEqDiff, Nat.reduceSub, Nat.reduceLeDiff, Nat.reduceAdd, Int.reduceEq, Int.reduceLT, Int.reduceLE]
  obtain ⟨k, out⟩ := p
  obtain ⟨p1, p2, p3, p4⟩ := hp
  simp only at p1 p2 p3 p4
  by_cases hlt : k < m.length
  · have hd : m.drop k = m[k] :: m.drop (k + 1) := List.drop_eq_getElem_cons hlt
    have hx' : m[k]? = some m[k] := List.getElem?_eq_getElem hlt
    have he : (m.map entE)[k]? = some (entE m[k]) := by rw [List.getElem?_map, hx']; rfl
    rw [hd] at p4
    generalize m[k] = x at *
    have hq := len_put out x
    have hg := putGo_put (x := x) p2
    (try simp only [brK_e, gdK_e, skK_e, gdA_e, skA_e, pkK_e]); simp (maxSteps := 10000000) (disch := omega) only [stJoinRE, List.length_map, he, ld_ent, go_sem, ↓reduceIte, Nat.reduceEqDiff, Nat.reduceSub, Nat.reduceLeDiff, Nat.reduceAdd, Int.reduceEq, Int.reduceLT, Int.reduceLE]
    refine call_with (okPutRE (l := out) x rfl rfl (by omega)) ?_
    rw [hg]
    (try simp only [brK_e, gdK_e, skK_e, gdA_e, skA_e, pkK_e]); simp (maxSteps := 10000000) (disch := omega) only [List.length_map, go_sem, ↓reduceIte, Nat.reduceEqDiff, Nat.reduceSub, Nat.reduceLeDiff, Nat.reduceAdd, Int.reduceEq, Int.reduceLT, Int.reduceLE]
    refine ⟨(k + 1, putL out x), ⟨by show k + 1 ≤ _; omega, sort_put p2 x, by show List.length (putL out x) ≤ _ + (k + 1); omega, p4⟩, by show m.length - (k + 1) < m.length - k; omega, wk_frz 17 rfl (weak_mk ?_ ?_)⟩
    · (try simp only [brK_e, gdK_e, skK_e, gdA_e, skA_e, pkK_e]); simp (maxSteps := 10000000) (disch := omega) only [go_sem, ↓reduceIte, Nat.reduceEqDiff, Nat.reduceSub, Nat.reduceLeDiff, Nat.reduceAdd, Int.reduceEq, Int.reduceLT, Int.reduceLE]
    · (try simp only [brK_e, gdK_e, skK_e, gdA_e, skA_e, pkK_e]); simp (maxSteps := 10000000) (disch := omega) only [go_sem, ↓reduceIte, Nat.reduceEqDiff, Nat.reduceSub, Nat.reduceLeDiff, Nat.reduceAdd, Int.reduceEq, Int.reduceLT, Int.reduceLE]
  · obtain rfl : k = m.length := by omega
    have e : joinL out (m.drop m.length) = out := by rw [List.drop_length]; rfl
    rw [e] at p4
    (try simp only [brK_e, gdK_e, skK_e, gdA_e, skA_e, pkK_e]); simp (maxSteps := 10000000) (disch := omega) only [stJoinRE, List.length_map, p4, go_sem, ↓reduceIte, Nat.reduceEqDiff, Nat.reduceSub, Nat.reduceLeDiff, Nat.reduceAdd, Int.reduceEq, Int.reduceLT, Int.reduceLE]
    refine ⟨_, .same _, ?_⟩
    (try simp only [brK_e, gdK_e, skK_e, gdA_e, skA_e, pkK_e]); simp (maxSteps := 10000000) (disch := omega) only [go_sem, ↓reduceIte, Nat.reduceEqDiff, Nat.reduceSub, Nat.reduceLeDiff, Nat.reduceAdd, Int.reduceEq, Int.reduceLT, Int.reduceLE]
theorem fits_ent (x : Ent) : fits [K1.int .i64, K1.int .u32, K1.int .i64, K1.int .u32, .str, K1.int .i64, K1.int .u32, .int .u32, .int .u32, .int .u32, .int .u32, .int .u32, .int .u32, .int .u32, .int .u32] (entE x) = True := eq_true rfl
theorem peq_refl (c : List PV) : peq c c = true := by simp [peq]
def stSameEn (f g : Bool) (l m : List Ent) (k : Nat) : FS := mk [(5, .pv (.i .i64 k)), (0, .pv (.sl f 15 (l.map entE))), (1, .pv (.sl g 15 (m.map entE)))] []
/-- two lists with the same cells -/
theorem okSameEn {x y : SV} {f g : Bool} {l m : List Ent} {h d} (hx : lents h [x, y] = [.pv (.sl f 15 (l.map entE)), .pv (.sl g 15 (m.map entE))]) (hl : lendable [x, y] = true) (he : l = m) (hn : l.length ≤ 1000) :
    FunOk Tryd.prog 15 [x, y] h d (.pv (.b true)) [] := by
  refine fun_scalar mixed fn15 (by simp) hl rfl fun F => ?_
  subst he
  rw [hx]
  (try simp only [brK_e, gdK_e, skK_e, gdA_e, skA_e, pkK_e]); simp (maxSteps := 10000000) (disch := omega) only [ir15, List.length_map, go_sem, ↓reduceIte, Nat.reduceEqDiff, Nat.reduceSub, Nat.reduceLeDiff, Nat.reduceAdd, Int.reduceEq, Int.reduceLT, Int.reduceLE]
  refine loop_ok mixed (stSameEn f g l l) (fun k => k ≤ l.length) (fun k => l.length - k) 0 (by simp) (weak_mk ?_ ?_) fun k hk => ?_
  · (try simp only [brK_e, gdK_e, skK_e, gdA_e, skA_e, pkK_e]); simp (maxSteps := 10000000) (disch := omega) only [go_sem, ↓reduceIte, Nat.reduceEqDiff, Nat.reduceSub, Nat.reduceLeDiff, Nat.reduceAdd, Int.reduceEq, Int.reduceLT, Int.reduceLE]
  · (try simp only [brK_e, gdK_e, skK_e, gdA_e, skA_e, pkK_e]); simp (maxSteps := 10000000) (disch := omega) only [go_sem, ↓reduceIte, Nat.reduceEqDiff, Nat.reduceSub, Nat.reduceLeDiff, Nat.reduceAdd, Int.reduceEq, Int.reduceLT, Int.reduceLE]
  by_cases hlt : k < l.length
  · have h2 : (l.map entE)[k]? = some (entE l[k]) := by simp [hlt]
    generalize l[k] = v at *
    have hp := peq_refl (entE v)
    have hf := fits_ent v
    (try simp only [brK_e, gdK_e, skK_e, gdA_e, skA_e, pkK_e]); simp (maxSteps := 10000000) (disch := omega) only [stSameEn, List.length_map, h2, ld_ent, hp, hf, go_sem, ↓reduceIte, Nat.reduceEqDiff, Nat.reduceSub, Nat.reduceLeDiff, Nat.reduceAdd, Int.reduceEq, Int.reduceLT, Int.reduceLE]
    refine loop_next (k + 1) _ _ rfl (by omega) (by omega) ?_ ?_
    · (try simp only [brK_e, gdK_e, skK_e, gdA_e, skA_e, pkK_e]); simp (maxSteps := 10000000) (disch := omega) only [go_sem, ↓reduceIte, Nat.reduceEqDiff, Nat.reduceSub, Nat.reduceLeDiff, Nat.reduceAdd, Int.reduceEq, Int.reduceLT, Int.reduceLE]
    · (try simp only [brK_e, gdK_e, skK_e, gdA_e, skA_e, pkK_e]); simp (maxSteps := 10000000) (disch := omega) only [go_sem, ↓reduceIte, Nat.reduceEqDiff, Nat.reduceSub, Nat.reduceLeDiff, Nat.reduceAdd, Int.reduceEq, Int.reduceLT, Int.reduceLE]
  · (try simp only [brK_e, gdK_e, skK_e, gdA_e, skA_e, pkK_e]); simp (maxSteps := 10000000) (disch := omega) only [stSameEn, List.length_map, go_sem, ↓reduceIte, Nat.reduceEqDiff, Nat.reduceSub, Nat.reduceLeDiff, Nat.reduceAdd, Int.reduceEq, Int.reduceLT, Int.reduceLE]
/-- in order -/
def FineE (l : List Ent) : Prop := ∀ i, (h : i + 1 < l.length) → ilt l[i].id l[i + 1].id = true
open Classical in
noncomputable def fineEB (l : List Ent) : Bool := decide (FineE l)
theorem fineEB_t {l : List Ent} (h : FineE l) : fineEB l = true := by simp [fineEB, h]
theorem fineEB_f {l : List Ent} (h : ¬ FineE l) : fineEB l = false := by simp [fineEB, h]
theorem fineE_sort : ∀ {l : List Ent}, FineE l → SortE l
  | [], _ => List.Pairwise.nil
  | [v], _ => List.pairwise_singleton _ _
  | v :: u :: l, h => by
    have h1 : ilt v.id u.id = true := h 0 (by simp)
    have h2 := fineE_sort (l := u :: l) fun i hi => h (i + 1) (by simpa using hi)
    refine List.Pairwise.cons (fun w hw => ?_) h2
    rcases List.mem_cons.1 hw with rfl | hw
    · exact h1
    · exact ilt_trans h1 (List.rel_of_pairwise_cons h2 hw)
theorem sort_fineE {l : List Ent} (h : SortE l) : FineE l := fun i hi => List.pairwise_iff_getElem.1 h i (i + 1) (by omega) hi (by omega)
def stFineE (f : Bool) (l : List Ent) (j : Nat) : FS := mk [(3, .pv (.i .i64 ((j + 1 : Nat) : Int))), (0, .pv (.sl f 15 (l.map entE)))] []
theorem okFineE {x : SV} {f : Bool} {l : List Ent} {h d} (hx : lents h [x] = [.pv (.sl f 15 (l.map entE))]) (hl : lendable [x] = true) (hn : l.length ≤ 1000) :
    FunOk Tryd.prog 22 [x] h d (.pv (.b (fineEB l))) [] := by
  refine fun_scalar mixed fn22 (by simp) hl rfl fun F => ?_
  rw [hx]
  (try simp only [brK_e, gdK_e, skK_e, gdA_e, skA_e, pkK_e]); simp (maxSteps := 10000000) (disch := omega) only [ir22, List.length_map, go_sem, ↓reduceIte, Nat.reduceEqDiff, Nat.reduceSub, Nat.reduceLeDiff, Nat.reduceAdd, Int.reduceEq, Int.reduceLT, Int.reduceLE]
  refine loop_ok mixed (stFineE f l) (fun k => ∀ i, (hi : i + 1 < l.length) → i < k → ilt l[i].id l[i + 1].id = true) (fun k => l.length - k) 0 (by simp) (weak_mk ?_ ?_) fun k hk => ?_
  · (try simp only [brK_e, gdK_e, skK_e, gdA_e, skA_e, pkK_e]); simp (maxSteps := 10000000) (disch := omega) only [go_sem, ↓reduceIte, Nat.reduceEqDiff, Nat.reduceSub, Nat.reduceLeDiff, Nat.reduceAdd, Int.reduceEq, Int.reduceLT, Int.reduceLE]
  · (try simp only [brK_e, gdK_e, skK_e, gdA_e, skA_e, pkK_e]); simp (maxSteps := 10000000) (disch := omega) only [go_sem, ↓reduceIte, Nat.reduceEqDiff, Nat.reduceSub, Nat.reduceLeDiff, Nat.reduceAdd, Int.reduceEq, Int.reduceLT, Int.reduceLE]
  by_cases hlt : k + 1 < l.length
  · have he : (l.map entE)[k]? = some (entE l[k]) := by simp [show k < l.length by omega]
    have he' : (l.map entE)[k + 1]? = some (entE l[k + 1]) := by simp [hlt]
    have ek : (((k + 1 : Nat) : Int) - 1).toNat = k := by omega
    by_cases hd : ilt l[k].id l[k + 1].id = true
    · have hd' : idLt l[k].id.1 l[k].id.2 l[k + 1].id.1 l[k + 1].id.2 = true := hd
      (try simp only [brK_e, gdK_e, skK_e, gdA_e, skA_e, pkK_e]); simp (maxSteps := 10000000) (disch := omega) only [stFineE, List.length_map, he, he', ek, ld_entId, go_sem, ↓reduceIte, Nat.reduceEqDiff, Nat.reduceSub, Nat.reduceLeDiff, Nat.reduceAdd, Int.reduceEq, Int.reduceLT, Int.reduceLE]
      refine call_with (okLessR _ _ _ _) ?_
      (try simp only [brK_e, gdK_e, skK_e, gdA_e, skA_e, pkK_e]); simp (maxSteps := 10000000) (disch := omega) only [hd', go_sem, ↓reduceIte, Nat.reduceEqDiff, Nat.reduceSub, Nat.reduceLeDiff, Nat.reduceAdd, Int.reduceEq, Int.reduceLT, Int.reduceLE]
      refine loop_next (k + 1) _ _ rfl (fun i hi hik => ?_) (by omega) ?_ ?_
      · by_cases e : i = k
        · subst e; exact hd
        · exact hk i hi (by omega)
      · (try simp only [brK_e, gdK_e, skK_e, gdA_e, skA_e, pkK_e]); simp (maxSteps := 10000000) (disch := omega) only [go_sem, ↓reduceIte, Nat.reduceEqDiff, Nat.reduceSub, Nat.reduceLeDiff, Nat.reduceAdd, Int.reduceEq, Int.reduceLT, Int.reduceLE]
      · (try simp only [brK_e, gdK_e, skK_e, gdA_e, skA_e, pkK_e]); simp (maxSteps := 10000000) (disch := omega) only [go_sem, ↓reduceIte, Nat.reduceEqDiff, Nat.reduceSub, Nat.reduceLeDiff, Nat.reduceAdd, Int.reduceEq, Int.reduceLT, Int.reduceLE]
    · have hf := fineEB_f (l := l) fun h => hd (h k hlt)
      have hd' : idLt l[k].id.1 l[k].id.2 l[k + 1].id.1 l[k + 1].id.2 = false := by simpa using hd
      (try simp only [brK_e, gdK_e, skK_e, gdA_e, skA_e, pkK_e]); simp (maxSteps := 10000000) (disch := omega) only [stFineE, List.length_map, he, he', ek, ld_entId, go_sem, ↓reduceIte, Nat.reduceEqDiff, Nat.reduceSub, Nat.reduceLeDiff, Nat.reduceAdd, Int.reduceEq, Int.reduceLT, Int.reduceLE]
      refine call_with (okLessR _ _ _ _) ?_
      (try simp only [brK_e, gdK_e, skK_e, gdA_e, skA_e, pkK_e]); simp (maxSteps := 10000000) (disch := omega) only [hd', hf, go_sem, ↓reduceIte, Nat.reduceEqDiff, Nat.reduceSub, Nat.reduceLeDiff, Nat.reduceAdd, Int.reduceEq, Int.reduceLT, Int.reduceLE]
  · have hf := fineEB_t (l := l) fun i hi => hk i hi (by omega)
    (try simp only [brK_e, gdK_e, skK_e, gdA_e, skA_e, pkK_e]); simp (maxSteps := 10000000) (disch := omega) only [stFineE, List.length_map, hf, go_sem, ↓reduceIte, Nat.reduceEqDiff, Nat.reduceSub, Nat.reduceLeDiff, Nat.reduceAdd, Int.reduceEq, Int.reduceLT, Int.reduceLE]
def FitsE (l : List Ent) : Prop := l.length ≤ 40 ∧ FineE l ∧ ∀ x ∈ l, x.name.length ≤ 40
open Classical in
noncomputable def fitsEB (l : List Ent) : Bool := decide (FitsE l)
theorem fitsEB_t {l : List Ent} (h : FitsE l) : fitsEB l = true := by simp [fitsEB, h]
theorem fitsEB_f {l : List Ent} (h : ¬ FitsE l) : fitsEB l = false := by simp [fitsEB, h]
def stFitsE (f : Bool) (l : List Ent) (k : Nat) : FS := mk [(15, .pv (.i .i64 k)), (14, .pv (.i .i64 l.length)), (13, .pv (.sl f 15 (l.map entE))), (0, .pv (.sl f 15 (l.map entE)))] []
set_option maxHeartbeats 1000000 in
theorem okFitsE {x : SV} {f : Bool} {l : List Ent} {h d} (hx : lents h [x] = [.pv (.sl f 15 (l.map entE))]) (hl : lendable [x] = true) :
    FunOk Tryd.prog 11 [x] h d (.pv (.b (fitsEB l))) [] := by
  refine fun_scalar mixed fn11 (by simp) hl rfl fun F => ?_
  rw [hx]
  by_cases h40 : 40 < (l.length : Int)
  · have hf := fitsEB_f (l := l) fun h => by have := h.1; omega
    (try simp only [brK_e, gdK_e, skK_e, gdA_e, skA_e, pkK_e]); simp (maxSteps := 10000000) (disch := omega) only [ir11, List.length_map, hf, go_sem, ↓reduceIte, Nat.reduceEqDiff, Nat.reduceSub, Nat.reduceLeDiff, Nat.reduceAdd, Int.reduceEq, Int.reduceLT, Int.reduceLE]
  (try simp only [brK_e, gdK_e, skK_e, gdA_e, skA_e, pkK_e]); simp (maxSteps := 10000000) (disch := omega) only [ir11, List.length_map, go_sem, ↓reduceIte, Nat.reduceEqDiff, Nat.reduceSub, Nat.reduceLeDiff, Nat.reduceAdd, Int.reduceEq, Int.reduceLT, Int.reduceLE]
  refine call_with (okFineE (l := l) rfl rfl (by omega)) ?_
  by_cases hF : FineE l
  · have e := fineEB_t hF
    (try simp only [brK_e, gdK_e, skK_e, gdA_e, skA_e, pkK_e]); simp (maxSteps := 10000000) (disch := omega) only [e, go_sem, ↓reduceIte, Nat.reduceEqDiff, Nat.reduceSub, Nat.reduceLeDiff, Nat.reduceAdd, Int.reduceEq, Int.reduceLT, Int.reduceLE]
    refine loop_ok mixed (stFitsE f l) (fun k => k ≤ l.length ∧ ∀ v ∈ l.take k, v.name.length ≤ 40) (fun k => l.length - k) 0 (by simp) (weak_mk ?_ ?_) fun k hk => ?_
    · (try simp only [brK_e, gdK_e, skK_e, gdA_e, skA_e, pkK_e]); simp (maxSteps := 10000000) (disch := omega) only [List.length_map, go_sem, ↓reduceIte, Nat.reduceEqDiff, Nat.reduceSub, Nat.reduceLeDiff, Nat.reduceAdd, Int.reduceEq, Int.reduceLT, Int.reduceLE]
    · (try simp only [brK_e, gdK_e, skK_e, gdA_e, skA_e, pkK_e]); simp (maxSteps := 10000000) (disch := omega) only [go_sem, ↓reduceIte, Nat.reduceEqDiff, Nat.reduceSub, Nat.reduceLeDiff, Nat.reduceAdd, Int.reduceEq, Int.reduceLT, Int.reduceLE]
    obtain ⟨hk1, hk2⟩ := hk
    by_cases hlt : k < l.length
    · have he : (l.map entE)[k]? = some (entE l[k]) := by simp [hlt]
      have ht : l.take (k + 1) = l.take k ++ [l[k]] := by rw [List.take_add_one, List.getElem?_eq_getElem hlt]; rfl
      have hm : l[k] ∈ l := List.getElem_mem hlt
      generalize l[k] = v at *
      have hv := entE_len v
      by_cases hd : 40 < (v.name.length : Int)
      · have hf := fitsEB_f (l := l) fun h => by have := h.2.2 v hm; omega
        (try simp only [brK_e, gdK_e, skK_e, gdA_e, skA_e, pkK_e]); simp (maxSteps := 10000000) (disch := omega) only [stFitsE, List.length_map, he, ld_ent, hv, ld_entName, hf, go_sem, ↓reduceIte, Nat.reduceEqDiff, Nat.reduceSub, Nat.reduceLeDiff, Nat.reduceAdd, Int.reduceEq, Int.reduceLT, Int.reduceLE]
      · (try simp only [brK_e, gdK_e, skK_e, gdA_e, skA_e, pkK_e]); simp (maxSteps := 10000000) (disch := omega) only [stFitsE, List.length_map, he, ld_ent, hv, ld_entName, go_sem, ↓reduceIte, Nat.reduceEqDiff, Nat.reduceSub, Nat.reduceLeDiff, Nat.reduceAdd, Int.reduceEq, Int.reduceLT, Int.reduceLE]
        refine loop_next (k + 1) _ _ rfl ⟨by omega, fun u hu => ?_⟩ (by omega) ?_ ?_
        · rw [ht] at hu
          rcases List.mem_append.1 hu with hu | hu
          · exact hk2 u hu
          · simp at hu; subst hu; omega
        · (try simp only [brK_e, gdK_e, skK_e, gdA_e, skA_e, pkK_e]); simp (maxSteps := 10000000) (disch := omega) only [List.length_map, go_sem, ↓reduceIte, Nat.reduceEqDiff, Nat.reduceSub, Nat.reduceLeDiff, Nat.reduceAdd, Int.reduceEq, Int.reduceLT, Int.reduceLE]
        · (try simp only [brK_e, gdK_e, skK_e, gdA_e, skA_e, pkK_e]); simp (maxSteps := 10000000) (disch := omega) only [go_sem, ↓reduceIte, Nat.reduceEqDiff, Nat.reduceSub, Nat.reduceLeDiff, Nat.reduceAdd, Int.reduceEq, Int.reduceLT, Int.reduceLE]
    · obtain rfl : k = l.length := by omega
      rw [List.take_length] at hk2
      have hf := fitsEB_t (l := l) ⟨by omega, hF, hk2⟩
      (try simp only [brK_e, gdK_e, skK_e, gdA_e, skA_e, pkK_e]); simp (maxSteps := 10000000) (disch := omega) only [stFitsE, List.length_map, hf, go_sem, ↓reduceIte, Nat.reduceEqDiff, Nat.reduceSub, Nat.reduceLeDiff, Nat.reduceAdd, Int.reduceEq, Int.reduceLT, Int.reduceLE]
  · have e := fineEB_f hF
    have hf := fitsEB_f (l := l) fun h => hF h.2.1
    (try simp only [brK_e, gdK_e, skK_e, gdA_e, skA_e, pkK_e]); simp (maxSteps := 10000000) (disch := omega) only [e, hf, go_sem, ↓reduceIte, Nat.reduceEqDiff, Nat.reduceSub, Nat.reduceLeDiff, Nat.reduceAdd, Int.reduceEq, Int.reduceLT, Int.reduceLE]
end Go.Proofs.YthleeikkpjiicaaDoor.Fw
namespace Go.Proofs.YthleeikkpjiicaaDoor.Fw
open Go.RowKit Go.Proofs
/-! Entries as they are seen: by their names. -/
theorem FunOk.same {P : Program} {f : Nat} {args : List SV} {h : Nat → Option Blk} {d : Nat} {x : SV} {n : Nat} {b : Blk} (hf : FunOk P f args h d x []) (hn : h n = some b) (hm : n ∈ tops args) : FunOk P f args h d x [.upd n b] :=
  ⟨hf.1, fun F N ρ s a w hR hh vs hc => by
    have e : s.hup [.upd n b] = s := by
      refine FS.ext' (fun k => rfl) (fun k => ?_)
      show (if k = n then some b else s.h k) = s.h k
      split
      · rename_i e; subst e; rw [hh k hm, hn]
      · rfl
    rw [e]
    exact hf.2 F N ρ s a w hR hh vs hc⟩
theorem okNaN (s : List UInt8) {h d} : FunOk Tryd.prog 56 [.pv (.s s)] h d (.pv (.b false)) [] := by
  refine fun_pure mixed fn56 (by simp) rfl rfl fun F => ?_
  (try simp only [brK_e, gdK_e, skK_e, gdA_e, skA_e, pkK_e]); simp (maxSteps := 10000000) (disch := omega) only [ir56, go_sem, ↓reduceIte, Nat.reduceEqDiff, Nat.reduceSub, Nat.reduceLeDiff, Nat.reduceAdd, Int.reduceEq, Int.reduceLT, Int.reduceLE]
def cmpS (a b : List UInt8) : Int := if Op.bytesLess a b = true then -1 else if a = b then 0 else 1
theorem okCmpS (a b : List UInt8) {h d} : FunOk Tryd.prog 39 [.pv (.s a), .pv (.s b)] h d (.pv (.i .i64 (cmpS a b))) [] := by
  refine fun_pure mixed fn39 (by simp) rfl rfl fun F => ?_
  (try simp only [brK_e, gdK_e, skK_e, gdA_e, skA_e, pkK_e]); simp (maxSteps := 10000000) (disch := omega) only [ir39, go_sem, ↓reduceIte, Nat.reduceEqDiff, Nat.reduceSub, Nat.reduceLeDiff, Nat.reduceAdd, Int.reduceEq, Int.reduceLT, Int.reduceLE]
  refine call_with (okNaN _) ?_
  (try simp only [brK_e, gdK_e, skK_e, gdA_e, skA_e, pkK_e]); simp (maxSteps := 10000000) (disch := omega) only [go_sem, ↓reduceIte, Nat.reduceEqDiff, Nat.reduceSub, Nat.reduceLeDiff, Nat.reduceAdd, Int.reduceEq, Int.reduceLT, Int.reduceLE]
  refine call_with (okNaN _) ?_
  by_cases h1 : Op.bytesLess a b = true
  · have e : cmpS a b = -1 := by unfold cmpS; rw [if_pos h1]
    (try simp only [brK_e, gdK_e, skK_e, gdA_e, skA_e, pkK_e]); simp (maxSteps := 10000000) (disch := omega) only [h1, e, go_sem, ↓reduceIte, Nat.reduceEqDiff, Nat.reduceSub, Nat.reduceLeDiff, Nat.reduceAdd, Int.reduceEq, Int.reduceLT, Int.reduceLE]
  · have h1' : Op.bytesLess a b = false := by simpa using h1
    by_cases h2 : a = b
    · subst h2
      have e : cmpS a a = 0 := by unfold cmpS; rw [if_neg h1, if_pos rfl]
      have ed : decide (a = a) = true := by simp
      (try simp only [brK_e, gdK_e, skK_e, gdA_e, skA_e, pkK_e]); simp (maxSteps := 10000000) (disch := omega) only [h1', ed, e, go_sem, ↓reduceIte, Nat.reduceEqDiff, Nat.reduceSub, Nat.reduceLeDiff, Nat.reduceAdd, Int.reduceEq, Int.reduceLT, Int.reduceLE]
    · have e : cmpS a b = 1 := by unfold cmpS; rw [if_neg h1, if_neg h2]
      (try simp only [brK_e, gdK_e, skK_e, gdA_e, skA_e, pkK_e]); simp (maxSteps := 10000000) (disch := omega) only [h1', h2, e, go_sem, ↓reduceIte, Nat.reduceEqDiff, Nat.reduceSub, Nat.reduceLeDiff, Nat.reduceAdd, Int.reduceEq, Int.reduceLT, Int.reduceLE]
theorem okInF (x y : Ent) {h d} : FunOk Tryd.prog 38 [.vec 15 (entE x), .vec 15 (entE y)] h d (.pv (.i .i64 (cmpS x.name y.name))) [] := by
  refine fun_pure mixed fn38 (by simp) rfl rfl fun F => ?_
  (try simp only [brK_e, gdK_e, skK_e, gdA_e, skA_e, pkK_e]); simp (maxSteps := 10000000) (disch := omega) only [ir38, ld_entName, go_sem, ↓reduceIte, Nat.reduceEqDiff, Nat.reduceSub, Nat.reduceLeDiff, Nat.reduceAdd, Int.reduceEq, Int.reduceLT, Int.reduceLE]
  refine call_with (okCmpS _ _) ?_
  (try simp only [brK_e, gdK_e, skK_e, gdA_e, skA_e, pkK_e]); simp (maxSteps := 10000000) (disch := omega) only [go_sem, ↓reduceIte, Nat.reduceEqDiff, Nat.reduceSub, Nat.reduceLeDiff, Nat.reduceAdd, Int.reduceEq, Int.reduceLT, Int.reduceLE]
/-! two entries of one name stay as they are -/
def fIn : SV := .fn (.func 38) []
theorem bytesLess_irr (l : List UInt8) : Op.bytesLess l l = false := by
  induction l with
  | nil => rfl
  | cons c l ih => simp [Op.bytesLess, ih]
def stIns2 (x y : Ent) (k : Nat) : FS := mk [(8, .pv (.i .i64 k)), (0, .pv (.sl false 15 [entE x, entE y])), (1, .pv (.i .i64 0)), (2, .pv (.i .i64 2)), (3, .fn (.func 38) [])] []
def stIns2' (x y : Ent) (_ : Unit) : FS := mk [(9, .pv (.i .i64 1)), (8, .pv (.i .i64 1)), (0, .pv (.sl false 15 [entE x, entE y])), (1, .pv (.i .i64 0)), (2, .pv (.i .i64 2)), (3, .fn (.func 38) [])] []
theorem okIns2 {x y : Ent} (he : x.name = y.name) {a : SV} {h d} (hx : lents h [a, .pv (.i .i64 0), .pv (.i .i64 2), .fn (.func 38) []] = [.pv (.sl false 15 [entE x, entE y]), .pv (.i .i64 0), .pv (.i .i64 2), .fn (.func 38) []]) (hl : lendable [a, .pv (.i .i64 0), .pv (.i .i64 2), .fn (.func 38) []] = true) :
    FunOk Tryd.prog 67 [a, .pv (.i .i64 0), .pv (.i .i64 2), .fn (.func 38) []] h d (.tup []) [] := by
  refine fun_scalar mixed fn67 (by simp) hl rfl fun F => ?_
  rw [hx]
  (try simp only [brK_e, gdK_e, skK_e, gdA_e, skA_e, pkK_e]); simp (maxSteps := 10000000) (disch := omega) only [ir67, go_sem, ↓reduceIte, Nat.reduceEqDiff, Nat.reduceSub, Nat.reduceLeDiff, Nat.reduceAdd, Int.reduceEq, Int.reduceLT, Int.reduceLE]
  refine loop_ok mixed (stIns2 x y) (fun k => k = 1 ∨ k = 2) (fun k => 2 - k) 1 (.inl rfl) (weak_mk ?_ ?_) fun k hk => ?_
  · (try simp only [brK_e, gdK_e, skK_e, gdA_e, skA_e, pkK_e]); simp (maxSteps := 10000000) (disch := omega) only [go_sem, ↓reduceIte, Nat.reduceEqDiff, Nat.reduceSub, Nat.reduceLeDiff, Nat.reduceAdd, Int.reduceEq, Int.reduceLT, Int.reduceLE]
  · (try simp only [brK_e, gdK_e, skK_e, gdA_e, skA_e, pkK_e]); simp (maxSteps := 10000000) (disch := omega) only [go_sem, ↓reduceIte, Nat.reduceEqDiff, Nat.reduceSub, Nat.reduceLeDiff, Nat.reduceAdd, Int.reduceEq, Int.reduceLT, Int.reduceLE]
  rcases hk with rfl | rfl
  · (try simp only [brK_e, gdK_e, skK_e, gdA_e, skA_e, pkK_e]); simp (maxSteps := 10000000) (disch := omega) only [stIns2, go_sem, ↓reduceIte, Nat.reduceEqDiff, Nat.reduceSub, Nat.reduceLeDiff, Nat.reduceAdd, Int.reduceEq, Int.reduceLT, Int.reduceLE]
    refine loop_ok mixed (stIns2' x y) (fun _ => True) (fun _ => 0) () trivial (weak_mk ?_ ?_) fun _ _ => ?_
    · (try simp only [brK_e, gdK_e, skK_e, gdA_e, skA_e, pkK_e]); simp (maxSteps := 10000000) (disch := omega) only [go_sem, ↓reduceIte, Nat.reduceEqDiff, Nat.reduceSub, Nat.reduceLeDiff, Nat.reduceAdd, Int.reduceEq, Int.reduceLT, Int.reduceLE]
    · (try simp only [brK_e, gdK_e, skK_e, gdA_e, skA_e, pkK_e]); simp (maxSteps := 10000000) (disch := omega) only [go_sem, ↓reduceIte, Nat.reduceEqDiff, Nat.reduceSub, Nat.reduceLeDiff, Nat.reduceAdd, Int.reduceEq, Int.reduceLT, Int.reduceLE]
    have e0 : [entE x, entE y][((1 : Int) - 1).toNat]? = some (entE x) := rfl
    have e1 : [entE x, entE y][Int.toNat 1]? = some (entE y) := rfl
    have ec : cmpS y.name x.name = 0 := by unfold cmpS; rw [he, bytesLess_irr]; simp
    (try simp only [brK_e, gdK_e, skK_e, gdA_e, skA_e, pkK_e]); simp (maxSteps := 10000000) (disch := omega) only [stIns2', e0, e1, ld_ent, go_sem, ↓reduceIte, Nat.reduceEqDiff, Nat.reduceSub, Nat.reduceLeDiff, Nat.reduceAdd, Int.reduceEq, Int.reduceLT, Int.reduceLE]
    refine call_with (okInF _ _) ?_
    (try simp only [brK_e, gdK_e, skK_e, gdA_e, skA_e, pkK_e]); simp (maxSteps := 10000000) (disch := omega) only [ec, go_sem, ↓reduceIte, Nat.reduceEqDiff, Nat.reduceSub, Nat.reduceLeDiff, Nat.reduceAdd, Int.reduceEq, Int.reduceLT, Int.reduceLE]
    refine loop_next (x := 1) 2 _ _ rfl (.inr rfl) (by omega) ?_ ?_
    · (try simp only [brK_e, gdK_e, skK_e, gdA_e, skA_e, pkK_e]); simp (maxSteps := 10000000) (disch := omega) only [go_sem, ↓reduceIte, Nat.reduceEqDiff, Nat.reduceSub, Nat.reduceLeDiff, Nat.reduceAdd, Int.reduceEq, Int.reduceLT, Int.reduceLE]
    · (try simp only [brK_e, gdK_e, skK_e, gdA_e, skA_e, pkK_e]); simp (maxSteps := 10000000) (disch := omega) only [go_sem, ↓reduceIte, Nat.reduceEqDiff, Nat.reduceSub, Nat.reduceLeDiff, Nat.reduceAdd, Int.reduceEq, Int.reduceLT, Int.reduceLE]
  · (try simp only [brK_e, gdK_e, skK_e, gdA_e, skA_e, pkK_e]); simp (maxSteps := 10000000) (disch := omega) only [stIns2, go_sem, ↓reduceIte, Nat.reduceEqDiff, Nat.reduceSub, Nat.reduceLeDiff, Nat.reduceAdd, Int.reduceEq, Int.reduceLT, Int.reduceLE]
    rfl
def stSt2 (x y : Ent) (_ : Unit) : FS := mk [(8, .pv (.i .i64 20)), (7, .pv (.i .i64 0)), (6, .pv (.i .i64 20)), (0, .pv (.sl false 15 [entE x, entE y])), (1, .pv (.i .i64 2)), (2, .fn (.func 38) [])] []
theorem okStable2 {x y : Ent} (he : x.name = y.name) {a : SV} {h d} (hx : lents h [a, .pv (.i .i64 2), .fn (.func 38) []] = [.pv (.sl false 15 [entE x, entE y]), .pv (.i .i64 2), .fn (.func 38) []]) (hl : lendable [a, .pv (.i .i64 2), .fn (.func 38) []] = true) :
    FunOk Tryd.prog 55 [a, .pv (.i .i64 2), .fn (.func 38) []] h d (.tup []) [] := by
  refine fun_scalar mixed fn55 (by simp) hl rfl fun F => ?_
  rw [hx]
  (try simp only [brK_e, gdK_e, skK_e, gdA_e, skA_e, pkK_e]); simp (maxSteps := 10000000) (disch := omega) only [ir55, go_sem, ↓reduceIte, Nat.reduceEqDiff, Nat.reduceSub, Nat.reduceLeDiff, Nat.reduceAdd, Int.reduceEq, Int.reduceLT, Int.reduceLE]
  refine loop_ok mixed (stSt2 x y) (fun _ => True) (fun _ => 0) () trivial (weak_mk ?_ ?_) fun _ _ => ?_
  · (try simp only [brK_e, gdK_e, skK_e, gdA_e, skA_e, pkK_e]); simp (maxSteps := 10000000) (disch := omega) only [go_sem, ↓reduceIte, Nat.reduceEqDiff, Nat.reduceSub, Nat.reduceLeDiff, Nat.reduceAdd, Int.reduceEq, Int.reduceLT, Int.reduceLE]
  · (try simp only [brK_e, gdK_e, skK_e, gdA_e, skA_e, pkK_e]); simp (maxSteps := 10000000) (disch := omega) only [go_sem, ↓reduceIte, Nat.reduceEqDiff, Nat.reduceSub, Nat.reduceLeDiff, Nat.reduceAdd, Int.reduceEq, Int.reduceLT, Int.reduceLE]
  (try simp only [brK_e, gdK_e, skK_e, gdA_e, skA_e, pkK_e]); simp (maxSteps := 10000000) (disch := omega) only [stSt2, go_sem, ↓reduceIte, Nat.reduceEqDiff, Nat.reduceSub, Nat.reduceLeDiff, Nat.reduceAdd, Int.reduceEq, Int.reduceLT, Int.reduceLE]
  refine call_with (okIns2 he rfl rfl) ?_
  (try simp only [brK_e, gdK_e, skK_e, gdA_e, skA_e, pkK_e]); simp (maxSteps := 10000000) (disch := omega) only [go_sem, ↓reduceIte, Nat.reduceEqDiff, Nat.reduceSub, Nat.reduceLeDiff, Nat.reduceAdd, Int.reduceEq, Int.reduceLT, Int.reduceLE]
  refine loop_ok mixed (stSt2 x y) (fun _ => True) (fun _ => 0) () trivial (weak_mk ?_ ?_) fun _ _ => ?_
  · (try simp only [brK_e, gdK_e, skK_e, gdA_e, skA_e, pkK_e]); simp (maxSteps := 10000000) (disch := omega) only [go_sem, ↓reduceIte, Nat.reduceEqDiff, Nat.reduceSub, Nat.reduceLeDiff, Nat.reduceAdd, Int.reduceEq, Int.reduceLT, Int.reduceLE]
  · (try simp only [brK_e, gdK_e, skK_e, gdA_e, skA_e, pkK_e]); simp (maxSteps := 10000000) (disch := omega) only [go_sem, ↓reduceIte, Nat.reduceEqDiff, Nat.reduceSub, Nat.reduceLeDiff, Nat.reduceAdd, Int.reduceEq, Int.reduceLT, Int.reduceLE]
  (try simp only [brK_e, gdK_e, skK_e, gdA_e, skA_e, pkK_e]); simp (maxSteps := 10000000) (disch := omega) only [stSt2, go_sem, ↓reduceIte, Nat.reduceEqDiff, Nat.reduceSub, Nat.reduceLeDiff, Nat.reduceAdd, Int.reduceEq, Int.reduceLT, Int.reduceLE]
  rfl
theorem okSort2 {x y : Ent} (he : x.name = y.name) {a : SV} {h d} (hx : lents h [a, .fn (.func 38) []] = [.pv (.sl false 15 [entE x, entE y]), .fn (.func 38) []]) (hl : lendable [a, .fn (.func 38) []] = true) :
    FunOk Tryd.prog 37 [a, .fn (.func 38) []] h d (.tup []) [] := by
  refine fun_scalar mixed fn37 (by simp) hl rfl fun F => ?_
  rw [hx]
  (try simp only [brK_e, gdK_e, skK_e, gdA_e, skA_e, pkK_e]); simp (maxSteps := 10000000) (disch := omega) only [ir37, go_sem, ↓reduceIte, Nat.reduceEqDiff, Nat.reduceSub, Nat.reduceLeDiff, Nat.reduceAdd, Int.reduceEq, Int.reduceLT, Int.reduceLE]
  refine call_with (okStable2 he rfl rfl) ?_
  (try simp only [brK_e, gdK_e, skK_e, gdA_e, skA_e, pkK_e]); simp (maxSteps := 10000000) (disch := omega) only [go_sem, ↓reduceIte, Nat.reduceEqDiff, Nat.reduceSub, Nat.reduceLeDiff, Nat.reduceAdd, Int.reduceEq, Int.reduceLT, Int.reduceLE]
  rfl
end Go.Proofs.YthleeikkpjiicaaDoor.Fw
namespace Go.Proofs.YthleeikkpjiicaaDoor.Fw
open Go.RowKit Go.Proofs
def inP (dir : Idn) (x : Ent) : Bool := decide (x.dir = dir) && decide (vEq x.gone fun _ => 0)
def stInE (f : Bool) (l : List Ent) (dir : Idn) (k : Nat) : FS := mk [(10, .pv (.i .i64 k)), (9, .pv (.i .i64 l.length)), (8, .pv (.sl f 15 (l.map entE))), (5, .os 40), (3, .p 3 0)] [(40, some (.row 15 (((l.take k).filter (inP dir)).map entE))), (3, some (.var (.vec 2 [.i .i64 dir.1, .i .u32 dir.2])))]
theorem filter_snoc {l : List Ent} {k : Nat} {y : Ent} (h : l[k]? = some y) (P : Ent → Bool) : (l.take (k + 1)).filter P = (l.take k).filter P ++ if P y = true then [y] else [] := by
  rw [List.take_add_one, h, List.filter_append]
  congr 1
  cases hp : P y <;> simp [hp]
set_option maxHeartbeats 1000000 in
theorem okInE {x : SV} {f : Bool} {l M : List Ent} {dir : Idn} {h d} (hq : ∀ {h d}, h 40 = some (.row 15 ((l.filter (inP dir)).map entE)) → FunOk Tryd.prog 37 [.os 40, .fn (.func 38) []] h d (.tup []) [.upd 40 (.row 15 (M.map entE))])
    (hx : lents h [x, .vec 2 [.i .i64 dir.1, .i .u32 dir.2]] = [.pv (.sl f 15 (l.map entE)), .vec 2 [.i .i64 dir.1, .i .u32 dir.2]]) (hl : lendable [x, .vec 2 [.i .i64 dir.1, .i .u32 dir.2]] = true) (hn : l.length ≤ 1000) :
    FunOk Tryd.prog 14 [x, .vec 2 [.i .i64 dir.1, .i .u32 dir.2]] h d (.os d) [.new d (.row 15 (M.map entE))] := by
  refine fun_row mixed fn14 (by simp) hl (.inr (entE_flat _)) fun F => ?_
  rw [hx]
  (try simp only [brK_e, gdK_e, skK_e, gdA_e, skA_e, pkK_e]); simp (maxSteps := 10000000) (disch := omega) only [ir14, List.length_map, go_sem, ↓reduceIte, Nat.reduceEqDiff, Nat.reduceSub, Nat.reduceLeDiff, Nat.reduceAdd, Int.reduceEq, Int.reduceLT, Int.reduceLE]
  refine loop_ok mixed (stInE f l dir) (fun k => k ≤ l.length) (fun k => l.length - k) 0 (Nat.zero_le _) (wk_nil 5 40 15 rfl (by omega) (weak_mk ?_ ?_)) fun k hk => ?_
  · (try simp only [brK_e, gdK_e, skK_e, gdA_e, skA_e, pkK_e]); simp (maxSteps := 10000000) (disch := omega) only [go_sem, ↓reduceIte, Nat.reduceEqDiff, Nat.reduceSub, Nat.reduceLeDiff, Nat.reduceAdd, Int.reduceEq, Int.reduceLT, Int.reduceLE]
  · (try simp only [brK_e, gdK_e, skK_e, gdA_e, skA_e, pkK_e]); simp (maxSteps := 10000000) (disch := omega) only [go_sem, ↓reduceIte, Nat.reduceEqDiff, Nat.reduceSub, Nat.reduceLeDiff, Nat.reduceAdd, Int.reduceEq, Int.reduceLT, Int.reduceLE]
    rfl
  by_cases hlt : k < l.length
  · have hx' : l[k]? = some l[k] := List.getElem?_eq_getElem hlt
    have he : (l.map entE)[k]? = some (entE l[k]) := by rw [List.getElem?_map, hx']; rfl
    have ht := filter_snoc hx' (inP dir)
    have hb : ((l.take k).filter (inP dir)).length ≤ k := Nat.le_trans (List.length_filter_le _ _) (by simp; omega)
    generalize l[k] = y at *
    have hcy := entE_len y
    by_cases hid : y.dir = dir
    · have hp := peqI_t hid
      (try simp only [brK_e, gdK_e, skK_e, gdA_e, skA_e, pkK_e]); simp (maxSteps := 10000000) (disch := omega) only [stInE, List.length_map, he, ld_ent, ld_entDir, fitsId2, hp, hcy, go_sem, ↓reduceIte, Nat.reduceEqDiff, Nat.reduceSub, Nat.reduceLeDiff, Nat.reduceAdd, Int.reduceEq, Int.reduceLT, Int.reduceLE]
      refine call_with (okAliveE _) ?_
      by_cases ha : vEq y.gone fun _ => 0
      · have hP : inP dir y = true := by simp [inP, hid, ha]
        rw [if_pos hP] at ht
        (try simp only [brK_e, gdK_e, skK_e, gdA_e, skA_e, pkK_e]); simp (maxSteps := 10000000) (disch := omega) only [ha, ld_ent, hcy, List.length_map, go_sem, ↓reduceIte, Nat.reduceEqDiff, Nat.reduceSub, Nat.reduceLeDiff, Nat.reduceAdd, Int.reduceEq, Int.reduceLT, Int.reduceLE]
        refine ⟨k + 1, by omega, by omega, wk_ren 25 40 (by decide) rfl (weak_mk ?_ ?_)⟩
        · (try simp only [brK_e, gdK_e, skK_e, gdA_e, skA_e, pkK_e]); simp (maxSteps := 10000000) (disch := omega) only [go_sem, ↓reduceIte, Nat.reduceEqDiff, Nat.reduceSub, Nat.reduceLeDiff, Nat.reduceAdd, Int.reduceEq, Int.reduceLT, Int.reduceLE]
        · (try simp only [brK_e, gdK_e, skK_e, gdA_e, skA_e, pkK_e]); simp (maxSteps := 10000000) (disch := omega) only [ht, go_sem, ↓reduceIte, Nat.reduceEqDiff, Nat.reduceSub, Nat.reduceLeDiff, Nat.reduceAdd, Int.reduceEq, Int.reduceLT, Int.reduceLE]
          simp
      · have hP : ¬ inP dir y = true := by simp [inP, hid, ha]
        rw [if_neg hP, List.append_nil] at ht
        (try simp only [brK_e, gdK_e, skK_e, gdA_e, skA_e, pkK_e]); simp (maxSteps := 10000000) (disch := omega) only [ha, go_sem, ↓reduceIte, Nat.reduceEqDiff, Nat.reduceSub, Nat.reduceLeDiff, Nat.reduceAdd, Int.reduceEq, Int.reduceLT, Int.reduceLE]
        refine loop_next (k + 1) _ _ rfl (by omega) (by omega) ?_ ?_
        · (try simp only [brK_e, gdK_e, skK_e, gdA_e, skA_e, pkK_e]); simp (maxSteps := 10000000) (disch := omega) only [go_sem, ↓reduceIte, Nat.reduceEqDiff, Nat.reduceSub, Nat.reduceLeDiff, Nat.reduceAdd, Int.reduceEq, Int.reduceLT, Int.reduceLE]
        · (try simp only [brK_e, gdK_e, skK_e, gdA_e, skA_e, pkK_e]); simp (maxSteps := 10000000) (disch := omega) only [ht, go_sem, ↓reduceIte, Nat.reduceEqDiff, Nat.reduceSub, Nat.reduceLeDiff, Nat.reduceAdd, Int.reduceEq, Int.reduceLT, Int.reduceLE]
    · have hp := peqI_f hid
      have hP : ¬ inP dir y = true := by simp [inP, hid]
      rw [if_neg hP, List.append_nil] at ht
      (try simp only [brK_e, gdK_e, skK_e, gdA_e, skA_e, pkK_e]); simp (maxSteps := 10000000) (disch := omega) only [stInE, List.length_map, he, ld_ent, ld_entDir, fitsId2, hp, hcy, go_sem, ↓reduceIte, Nat.reduceEqDiff, Nat.reduceSub, Nat.reduceLeDiff, Nat.reduceAdd, Int.reduceEq, Int.reduceLT, Int.reduceLE]
      refine loop_next (k + 1) _ _ rfl (by omega) (by omega) ?_ ?_
      · (try simp only [brK_e, gdK_e, skK_e, gdA_e, skA_e, pkK_e]); simp (maxSteps := 10000000) (disch := omega) only [go_sem, ↓reduceIte, Nat.reduceEqDiff, Nat.reduceSub, Nat.reduceLeDiff, Nat.reduceAdd, Int.reduceEq, Int.reduceLT, Int.reduceLE]
      · (try simp only [brK_e, gdK_e, skK_e, gdA_e, skA_e, pkK_e]); simp (maxSteps := 10000000) (disch := omega) only [ht, go_sem, ↓reduceIte, Nat.reduceEqDiff, Nat.reduceSub, Nat.reduceLeDiff, Nat.reduceAdd, Int.reduceEq, Int.reduceLT, Int.reduceLE]
  · obtain rfl : k = l.length := by omega
    have e := List.take_length (l := l)
    (try simp only [brK_e, gdK_e, skK_e, gdA_e, skA_e, pkK_e]); simp (maxSteps := 10000000) (disch := omega) only [stInE, List.length_map, e, go_sem, ↓reduceIte, Nat.reduceEqDiff, Nat.reduceSub, Nat.reduceLeDiff, Nat.reduceAdd, Int.reduceEq, Int.reduceLT, Int.reduceLE]
    refine call_with (hq rfl) ?_
    (try simp only [brK_e, gdK_e, skK_e, gdA_e, skA_e, pkK_e]); simp (maxSteps := 10000000) (disch := omega) only [go_sem, ↓reduceIte, Nat.reduceEqDiff, Nat.reduceSub, Nat.reduceLeDiff, Nat.reduceAdd, Int.reduceEq, Int.reduceLT, Int.reduceLE]
/-- a number's digits -/
def decN (n : Nat) : List UInt8 := if h : n < 10 then [UInt8.ofNat (48 + n)] else decN (n / 10) ++ [UInt8.ofNat (48 + n % 10)]
termination_by n
decreasing_by omega
def decI (n : Int) : List UInt8 := if n < 0 then 45 :: decN n.natAbs else decN n.toNat
def tagS (s : List UInt8) (i : Idn) : List UInt8 := s ++ [126] ++ decI i.1 ++ [46] ++ decN i.2
theorem decN_1 : decN 1 = [49] := by unfold decN; rfl
theorem decN_2 : decN 2 = [50] := by unfold decN; rfl
theorem decI_2 : decI 2 = [50] := by unfold decI; rw [if_neg (by omega)]; exact decN_2
theorem okSmallD (n : Nat) (hn : n = 1 ∨ n = 2) {h d} : FunOk Tryd.prog 72 [.pv (.i .i64 (n : Int))] h d (.pv (.s [UInt8.ofNat (48 + n)])) [] := by
  refine fun_pure mixed fn72 (by simp) rfl rfl fun F => ?_
  rcases hn with rfl | rfl
  · (try simp only [brK_e, gdK_e, skK_e, gdA_e, skA_e, pkK_e]); simp (maxSteps := 10000000) (disch := omega) only [ir72, go_sem, ↓reduceIte, Nat.reduceEqDiff, Nat.reduceSub, Nat.reduceLeDiff, Nat.reduceAdd, Int.reduceEq, Int.reduceLT, Int.reduceLE]
    rfl
  · (try simp only [brK_e, gdK_e, skK_e, gdA_e, skA_e, pkK_e]); simp (maxSteps := 10000000) (disch := omega) only [ir72, go_sem, ↓reduceIte, Nat.reduceEqDiff, Nat.reduceSub, Nat.reduceLeDiff, Nat.reduceAdd, Int.reduceEq, Int.reduceLT, Int.reduceLE]
    rfl
theorem okTag2 {h d} : FunOk Tryd.prog 36 [.pv (.s [97]), .vec 2 [.i .i64 2, .i .u32 1]] h d (.pv (.s (tagS [97] (2, 1)))) [] := by
  have e : tagS [97] (2, 1) = [97, 126, 50, 46, 49] := by unfold tagS; rw [decI_2, decN_1]; rfl
  rw [e]
  have k1 : ∀ {h d}, FunOk Tryd.prog 71 [.pv (.i .i64 2), .pv (.i .i64 10)] h d (.pv (.s [50])) [] := fun {h d} => by
    refine fun_pure mixed fn71 (by simp) rfl rfl fun F => ?_
    (try simp only [brK_e, gdK_e, skK_e, gdA_e, skA_e, pkK_e]); simp (maxSteps := 10000000) (disch := omega) only [ir71, go_sem, ↓reduceIte, Nat.reduceEqDiff, Nat.reduceSub, Nat.reduceLeDiff, Nat.reduceAdd, Int.reduceEq, Int.reduceLT, Int.reduceLE]
    refine call_with (okSmallD 2 (.inr rfl)) ?_
    (try simp only [brK_e, gdK_e, skK_e, gdA_e, skA_e, pkK_e]); simp (maxSteps := 10000000) (disch := omega) only [go_sem, ↓reduceIte, Nat.reduceEqDiff, Nat.reduceSub, Nat.reduceLeDiff, Nat.reduceAdd, Int.reduceEq, Int.reduceLT, Int.reduceLE]
    rfl
  have k2 : ∀ {h d}, FunOk Tryd.prog 65 [.pv (.i .i64 2)] h d (.pv (.s [50])) [] := fun {h d} => by
    refine fun_pure mixed fn65 (by simp) rfl rfl fun F => ?_
    (try simp only [brK_e, gdK_e, skK_e, gdA_e, skA_e, pkK_e]); simp (maxSteps := 10000000) (disch := omega) only [ir65, go_sem, ↓reduceIte, Nat.reduceEqDiff, Nat.reduceSub, Nat.reduceLeDiff, Nat.reduceAdd, Int.reduceEq, Int.reduceLT, Int.reduceLE]
    refine call_with k1 ?_
    (try simp only [brK_e, gdK_e, skK_e, gdA_e, skA_e, pkK_e]); simp (maxSteps := 10000000) (disch := omega) only [go_sem, ↓reduceIte, Nat.reduceEqDiff, Nat.reduceSub, Nat.reduceLeDiff, Nat.reduceAdd, Int.reduceEq, Int.reduceLT, Int.reduceLE]
  have k3 : ∀ {h d}, FunOk Tryd.prog 53 [.pv (.i .i64 2)] h d (.pv (.s [50])) [] := fun {h d} => by
    refine fun_pure mixed fn53 (by simp) rfl rfl fun F => ?_
    (try simp only [brK_e, gdK_e, skK_e, gdA_e, skA_e, pkK_e]); simp (maxSteps := 10000000) (disch := omega) only [ir53, go_sem, ↓reduceIte, Nat.reduceEqDiff, Nat.reduceSub, Nat.reduceLeDiff, Nat.reduceAdd, Int.reduceEq, Int.reduceLT, Int.reduceLE]
    refine call_with k2 ?_
    (try simp only [brK_e, gdK_e, skK_e, gdA_e, skA_e, pkK_e]); simp (maxSteps := 10000000) (disch := omega) only [go_sem, ↓reduceIte, Nat.reduceEqDiff, Nat.reduceSub, Nat.reduceLeDiff, Nat.reduceAdd, Int.reduceEq, Int.reduceLT, Int.reduceLE]
  have k4 : ∀ {h d}, FunOk Tryd.prog 66 [.pv (.i .u64 1), .pv (.i .i64 10)] h d (.pv (.s [49])) [] := fun {h d} => by
    refine fun_pure mixed fn66 (by simp) rfl rfl fun F => ?_
    (try simp only [brK_e, gdK_e, skK_e, gdA_e, skA_e, pkK_e]); simp (maxSteps := 10000000) (disch := omega) only [ir66, go_sem, ↓reduceIte, Nat.reduceEqDiff, Nat.reduceSub, Nat.reduceLeDiff, Nat.reduceAdd, Int.reduceEq, Int.reduceLT, Int.reduceLE]
    refine call_with (okSmallD 1 (.inl rfl)) ?_
    (try simp only [brK_e, gdK_e, skK_e, gdA_e, skA_e, pkK_e]); simp (maxSteps := 10000000) (disch := omega) only [go_sem, ↓reduceIte, Nat.reduceEqDiff, Nat.reduceSub, Nat.reduceLeDiff, Nat.reduceAdd, Int.reduceEq, Int.reduceLT, Int.reduceLE]
    rfl
  have k5 : ∀ {h d}, FunOk Tryd.prog 54 [.pv (.i .u64 1), .pv (.i .i64 10)] h d (.pv (.s [49])) [] := fun {h d} => by
    refine fun_pure mixed fn54 (by simp) rfl rfl fun F => ?_
    (try simp only [brK_e, gdK_e, skK_e, gdA_e, skA_e, pkK_e]); simp (maxSteps := 10000000) (disch := omega) only [ir54, go_sem, ↓reduceIte, Nat.reduceEqDiff, Nat.reduceSub, Nat.reduceLeDiff, Nat.reduceAdd, Int.reduceEq, Int.reduceLT, Int.reduceLE]
    refine call_with k4 ?_
    (try simp only [brK_e, gdK_e, skK_e, gdA_e, skA_e, pkK_e]); simp (maxSteps := 10000000) (disch := omega) only [go_sem, ↓reduceIte, Nat.reduceEqDiff, Nat.reduceSub, Nat.reduceLeDiff, Nat.reduceAdd, Int.reduceEq, Int.reduceLT, Int.reduceLE]
  refine fun_pure mixed fn36 (by simp) rfl rfl fun F => ?_
  (try simp only [brK_e, gdK_e, skK_e, gdA_e, skA_e, pkK_e]); simp (maxSteps := 10000000) (disch := omega) only [ir36, go_sem, ↓reduceIte, Nat.reduceEqDiff, Nat.reduceSub, Nat.reduceLeDiff, Nat.reduceAdd, Int.reduceEq, Int.reduceLT, Int.reduceLE]
  refine call_with k3 ?_
  (try simp only [brK_e, gdK_e, skK_e, gdA_e, skA_e, pkK_e]); simp (maxSteps := 10000000) (disch := omega) only [go_sem, ↓reduceIte, Nat.reduceEqDiff, Nat.reduceSub, Nat.reduceLeDiff, Nat.reduceAdd, Int.reduceEq, Int.reduceLT, Int.reduceLE]
  refine call_with k5 ?_
  (try simp only [brK_e, gdK_e, skK_e, gdA_e, skA_e, pkK_e]); simp (maxSteps := 10000000) (disch := omega) only [go_sem, ↓reduceIte, Nat.reduceEqDiff, Nat.reduceSub, Nat.reduceLeDiff, Nat.reduceAdd, Int.reduceEq, Int.reduceLT, Int.reduceLE]
def strE (t : List UInt8) : List PV := [.s t]
def sameName (l : List Ent) (k : Nat) (x : Ent) : Prop := 0 < k ∧ ∃ y, l[k - 1]? = some y ∧ y.name = x.name
open Classical in
noncomputable def shAt (l : List Ent) (k : Nat) : List UInt8 := match l[k]? with
  | some x => if sameName l k x then tagS x.name x.id else x.name
  | none => []
noncomputable def shTo (l : List Ent) (k : Nat) : List (List UInt8) := (List.range k).map (shAt l)
theorem shTo_succ (l : List Ent) (k : Nat) : shTo l (k + 1) = shTo l k ++ [shAt l k] := by simp [shTo, List.range_succ]
theorem shTo_len (l : List Ent) (k : Nat) : (shTo l k).length = k := by simp [shTo]
theorem sh_t {l : List Ent} {k : Nat} {x : Ent} (h : l[k]? = some x) (hs : sameName l k x) : shAt l k = tagS x.name x.id := by unfold shAt; rw [h]; simp only; rw [if_pos hs]
theorem sh_f {l : List Ent} {k : Nat} {x : Ent} (h : l[k]? = some x) (hs : ¬ sameName l k x) : shAt l k = x.name := by unfold shAt; rw [h]; simp only; rw [if_neg hs]
theorem strE_flat (l : List (List UInt8)) : ∀ c ∈ l.map strE, c.all PV.flat = true := by
  intro c hc
  obtain ⟨v, _, rfl⟩ := List.mem_map.1 hc
  rfl
def stShown (f : Bool) (l : List Ent) (L : List (List UInt8)) (k : Nat) : FS := mk [(8, .pv (.i .i64 k)), (7, .pv (.i .i64 l.length)), (6, .pv (.sl f 15 (l.map entE))), (3, .os 60), (0, .pv (.sl f 15 (l.map entE)))] [(60, some (.row 1 (L.map strE)))]
set_option maxHeartbeats 1000000 in
theorem okShown {x : SV} {f : Bool} {l : List Ent} {h d} (htag : ∀ k y, l[k]? = some y → sameName l k y → ∀ {h d}, FunOk Tryd.prog 36 [.pv (.s y.name), .vec 2 [.i .i64 y.id.1, .i .u32 y.id.2]] h d (.pv (.s (tagS y.name y.id))) [])
    (hx : lents h [x] = [.pv (.sl f 15 (l.map entE))]) (hl : lendable [x] = true) (hn : l.length ≤ 1000) :
    FunOk Tryd.prog 13 [x] h d (.os d) [.new d (.row 1 ((shTo l l.length).map strE))] := by
  refine fun_row mixed fn13 (by simp) hl (.inr (strE_flat _)) fun F => ?_
  rw [hx]
  (try simp only [brK_e, gdK_e, skK_e, gdA_e, skA_e, pkK_e]); simp (maxSteps := 10000000) (disch := omega) only [ir13, List.length_map, go_sem, ↓reduceIte, Nat.reduceEqDiff, Nat.reduceSub, Nat.reduceLeDiff, Nat.reduceAdd, Int.reduceEq, Int.reduceLT, Int.reduceLE]
  refine loop_ok mixed (fun k => stShown f l (shTo l k) k) (fun k => k ≤ l.length) (fun k => l.length - k) 0 (Nat.zero_le _) (wk_nil 3 60 1 rfl (by omega) (weak_mk ?_ ?_)) fun k hk => ?_
  · (try simp only [brK_e, gdK_e, skK_e, gdA_e, skA_e, pkK_e]); simp (maxSteps := 10000000) (disch := omega) only [go_sem, ↓reduceIte, Nat.reduceEqDiff, Nat.reduceSub, Nat.reduceLeDiff, Nat.reduceAdd, Int.reduceEq, Int.reduceLT, Int.reduceLE]
  · (try simp only [brK_e, gdK_e, skK_e, gdA_e, skA_e, pkK_e]); simp (maxSteps := 10000000) (disch := omega) only [go_sem, ↓reduceIte, Nat.reduceEqDiff, Nat.reduceSub, Nat.reduceLeDiff, Nat.reduceAdd, Int.reduceEq, Int.reduceLT, Int.reduceLE]
    rfl
  by_cases hlt : k < l.length
  · have hx' : l[k]? = some l[k] := List.getElem?_eq_getElem hlt
    have he : (l.map entE)[k]? = some (entE l[k]) := by rw [List.getElem?_map, hx']; rfl
    have hm : l[k] ∈ l := List.getElem_mem hlt
    have ht := shTo_succ l k
    have hLn := shTo_len l k
    have s1 := sh_t hx'
    have s2 := sh_f hx'
    have htg := fun q h d => htag k _ hx' q (h := h) (d := d)
    generalize l[k] = y at *
    have hcy := entE_len y
    by_cases h0 : 0 < k
    · have hp : l[k - 1]? = some l[k - 1] := List.getElem?_eq_getElem (by omega)
      have hpe : (l.map entE)[((k : Int) - 1).toNat]? = some (entE l[k - 1]) := by rw [show ((k : Int) - 1).toNat = k - 1 by omega, List.getElem?_map, hp]; rfl
      by_cases hsn : l[k - 1].name = y.name
      · have hsm : sameName l k y := ⟨h0, _, hp, hsn⟩
        rw [s1 hsm] at ht
        generalize l[k - 1] = z at *
        (try simp only [brK_e, gdK_e, skK_e, gdA_e, skA_e, pkK_e]); simp (maxSteps := 10000000) (disch := omega) only [stShown, List.length_map, he, hpe, ld_ent, ld_entName, ld_entId, hcy, hsn, go_sem, ↓reduceIte, Nat.reduceEqDiff, Nat.reduceSub, Nat.reduceLeDiff, Nat.reduceAdd, Int.reduceEq, Int.reduceLT, Int.reduceLE]
        refine call_with (htg hsm _ _) ?_
        (try simp only [brK_e, gdK_e, skK_e, gdA_e, skA_e, pkK_e]); simp (maxSteps := 10000000) (disch := omega) only [List.length_map, hLn, go_sem, ↓reduceIte, Nat.reduceEqDiff, Nat.reduceSub, Nat.reduceLeDiff, Nat.reduceAdd, Int.reduceEq, Int.reduceLT, Int.reduceLE]
        refine ⟨k + 1, by omega, by omega, wk_ren 33 60 (by decide) rfl (weak_mk ?_ ?_)⟩
        · (try simp only [brK_e, gdK_e, skK_e, gdA_e, skA_e, pkK_e]); simp (maxSteps := 10000000) (disch := omega) only [go_sem, ↓reduceIte, Nat.reduceEqDiff, Nat.reduceSub, Nat.reduceLeDiff, Nat.reduceAdd, Int.reduceEq, Int.reduceLT, Int.reduceLE]
        · (try simp only [brK_e, gdK_e, skK_e, gdA_e, skA_e, pkK_e]); simp (maxSteps := 10000000) (disch := omega) only [go_sem, ↓reduceIte, Nat.reduceEqDiff, Nat.reduceSub, Nat.reduceLeDiff, Nat.reduceAdd, Int.reduceEq, Int.reduceLT, Int.reduceLE]
          simp [ht, strE]
      · rw [s2 (by rintro ⟨_, z, h1, h2⟩; rw [hp] at h1; cases h1; exact hsn h2)] at ht
        (try simp only [brK_e, gdK_e, skK_e, gdA_e, skA_e, pkK_e]); simp (maxSteps := 10000000) (disch := omega) only [stShown, List.length_map, he, hpe, ld_ent, ld_entName, ld_entId, hcy, hsn, hLn, go_sem, ↓reduceIte, Nat.reduceEqDiff, Nat.reduceSub, Nat.reduceLeDiff, Nat.reduceAdd, Int.reduceEq, Int.reduceLT, Int.reduceLE]
        refine ⟨k + 1, by omega, by omega, wk_ren 38 60 (by decide) rfl (weak_mk ?_ ?_)⟩
        · (try simp only [brK_e, gdK_e, skK_e, gdA_e, skA_e, pkK_e]); simp (maxSteps := 10000000) (disch := omega) only [go_sem, ↓reduceIte, Nat.reduceEqDiff, Nat.reduceSub, Nat.reduceLeDiff, Nat.reduceAdd, Int.reduceEq, Int.reduceLT, Int.reduceLE]
        · (try simp only [brK_e, gdK_e, skK_e, gdA_e, skA_e, pkK_e]); simp (maxSteps := 10000000) (disch := omega) only [go_sem, ↓reduceIte, Nat.reduceEqDiff, Nat.reduceSub, Nat.reduceLeDiff, Nat.reduceAdd, Int.reduceEq, Int.reduceLT, Int.reduceLE]
          simp [ht, strE]
    · rw [s2 (fun h => h0 h.1)] at ht
      (try simp only [brK_e, gdK_e, skK_e, gdA_e, skA_e, pkK_e]); simp (maxSteps := 10000000) (disch := omega) only [stShown, List.length_map, he, ld_ent, ld_entName, ld_entId, hcy, hLn, go_sem, ↓reduceIte, Nat.reduceEqDiff, Nat.reduceSub, Nat.reduceLeDiff, Nat.reduceAdd, Int.reduceEq, Int.reduceLT, Int.reduceLE]
      refine ⟨k + 1, by omega, by omega, wk_ren 38 60 (by decide) rfl (weak_mk ?_ ?_)⟩
      · (try simp only [brK_e, gdK_e, skK_e, gdA_e, skA_e, pkK_e]); simp (maxSteps := 10000000) (disch := omega) only [go_sem, ↓reduceIte, Nat.reduceEqDiff, Nat.reduceSub, Nat.reduceLeDiff, Nat.reduceAdd, Int.reduceEq, Int.reduceLT, Int.reduceLE]
      · (try simp only [brK_e, gdK_e, skK_e, gdA_e, skA_e, pkK_e]); simp (maxSteps := 10000000) (disch := omega) only [go_sem, ↓reduceIte, Nat.reduceEqDiff, Nat.reduceSub, Nat.reduceLeDiff, Nat.reduceAdd, Int.reduceEq, Int.reduceLT, Int.reduceLE]
        simp [ht, strE]
  · obtain rfl : k = l.length := by omega
    (try simp only [brK_e, gdK_e, skK_e, gdA_e, skA_e, pkK_e]); simp (maxSteps := 10000000) (disch := omega) only [stShown, List.length_map, go_sem, ↓reduceIte, Nat.reduceEqDiff, Nat.reduceSub, Nat.reduceLeDiff, Nat.reduceAdd, Int.reduceEq, Int.reduceLT, Int.reduceLE]
theorem okId10 (r : Int) (q : Nat) {h d} : FunOk Tryd.prog 35 [.pv (.i .i64 r), .pv (.i .u32 q)] h d (.agg [.pv (.i .i64 r), .pv (.i .u32 q)]) [] := by
  refine fun_pure mixed fn35 (by simp) rfl rfl fun F => ?_
  (try simp only [brK_e, gdK_e, skK_e, gdA_e, skA_e, pkK_e]); simp (maxSteps := 10000000) (disch := omega) only [ir35, go_sem, ↓reduceIte, Nat.reduceEqDiff, Nat.reduceSub, Nat.reduceLeDiff, Nat.reduceAdd, Int.reduceEq, Int.reduceLT, Int.reduceLE]
def e21 : Ent := ⟨(2, 1), (0, 0), [97], (0, 0), fun _ => 0⟩
def e11 : Ent := ⟨(1, 1), (0, 0), [97], (0, 0), fun _ => 0⟩
theorem imp_nil {f : Bool} {y z : Nat} : Imp (.pv (.sl f y [])) (.pv (.sl f z [])) := by
  intro V ρ v h
  simp only [Conc] at h ⊢
  cases h with
  | sl full sz es a cap cs bl off arr hcap hfull hsz ha hcs hel =>
    exact .sl f z [] a cap cs bl off arr hcap hfull (by simp) (by simp) (by simp) (by simp)
theorem add1 : addL [] e21 = [e21] := rfl
theorem add2 : addL [e21] e11 = [e11, e21] := by
  have h1 : isE [e21] e11.id = false := by unfold isE; rfl
  unfold addL
  rw [if_neg (by rw [h1]; simp)]
  rw [insE_cons, if_neg (by show ¬ ilt (2, 1) (1, 1) = true; rw [ilt_iff]; decide)]
theorem in2 : [e11, e21].filter (inP (0, 0)) = [e11, e21] := by
  have h1 : inP (0, 0) e11 = true := by simp [inP, e11, vEq]
  have h2 : inP (0, 0) e21 = true := by simp [inP, e21, vEq]
  simp [h1, h2]
theorem sh2 : shTo [e11, e21] 2 = [[97], [97, 126, 50, 46, 49]] := by
  have h0 : shAt [e11, e21] 0 = [97] := sh_f (x := e11) rfl fun h => absurd h.1 (by omega)
  have h1 : shAt [e11, e21] 1 = tagS [97] (2, 1) := sh_t (x := e21) rfl ⟨by omega, e11, rfl, rfl⟩
  have e : tagS [97] (2, 1) = [97, 126, 50, 46, 49] := by unfold tagS; rw [decI_2, decN_1]; rfl
  show [shAt [e11, e21] 0, shAt [e11, e21] 1] = _
  rw [h0, h1, e]
set_option maxHeartbeats 1000000 in
theorem lives10 {h d} : FunOk Tryd.prog 10 [] h d (.pv (.b true)) [] := by
  refine fun_pure mixed fn10 (by simp) rfl rfl fun F => ?_
  (try simp only [brK_e, gdK_e, skK_e, gdA_e, skA_e, pkK_e]); simp (maxSteps := 10000000) (disch := omega) only [ir10, go_sem, ↓reduceIte, Nat.reduceEqDiff, Nat.reduceSub, Nat.reduceLeDiff, Nat.reduceAdd, Int.reduceEq, Int.reduceLT, Int.reduceLE]
  refine call_with (okId10 2 1) ?_
  (try simp only [brK_e, gdK_e, skK_e, gdA_e, skA_e, pkK_e]); simp (maxSteps := 10000000) (disch := omega) only [go_sem, ↓reduceIte, Nat.reduceEqDiff, Nat.reduceSub, Nat.reduceLeDiff, Nat.reduceAdd, Int.reduceEq, Int.reduceLT, Int.reduceLE]
  have k1 : ∀ {h d}, FunOk Tryd.prog 23 [.pv (.sl true 0 []), .agg [.pv (.i .i64 2), .pv (.i .u32 1), .pv (.i .i64 0), .pv (.i .u32 0), .pv (.s [97]), .pv (.i .i64 0), .pv (.i .u32 0), .vec 8 (List.replicate 8 (.i .u32 0))]] h d (.os d) [.new d (.row 15 ([e21].map entE))] := fun {h d} =>
    (okAddE (a := .pv (.sl true 15 [])) (f := true) (l := []) e21 rfl rfl List.Pairwise.nil (Nat.zero_le _)).imp ⟨imp_nil, imp_agg rfl rfl, trivial⟩ (by simp [tops, tn])
  refine call_with k1 ?_
  (try simp only [brK_e, gdK_e, skK_e, gdA_e, skA_e, pkK_e]); simp (maxSteps := 10000000) (disch := omega) only [go_sem, ↓reduceIte, Nat.reduceEqDiff, Nat.reduceSub, Nat.reduceLeDiff, Nat.reduceAdd, Int.reduceEq, Int.reduceLT, Int.reduceLE]
  refine call_with (okId10 1 1) ?_
  (try simp only [brK_e, gdK_e, skK_e, gdA_e, skA_e, pkK_e]); simp (maxSteps := 10000000) (disch := omega) only [go_sem, ↓reduceIte, Nat.reduceEqDiff, Nat.reduceSub, Nat.reduceLeDiff, Nat.reduceAdd, Int.reduceEq, Int.reduceLT, Int.reduceLE]
  have k2 : ∀ {h d}, h 5 = some (.row 15 ([e21].map entE)) → FunOk Tryd.prog 23 [.os 5, .agg [.pv (.i .i64 1), .pv (.i .u32 ((1 : Nat) : Int)), .pv (.i .i64 0), .pv (.i .u32 0), .pv (.s [97]), .pv (.i .i64 0), .pv (.i .u32 0), .vec 8 (vE fun _ => 0)]] h d (.os d) [.new d (.row 15 ([e11, e21].map entE))] := fun {h d} h5 => by
    rw [← add2]
    exact (okAddE (a := .os 5) (f := false) (l := [e21]) e11 (by simp only [lents, lent_os _ _ _ _ h5]; rfl) rfl (List.pairwise_singleton _ _) (by decide)).imp ⟨Imp.refl _, imp_agg rfl rfl, trivial⟩ (fun n hn => hn)
  refine call_with (k2 rfl) ?_
  (try simp only [brK_e, gdK_e, skK_e, gdA_e, skA_e, pkK_e]); simp (maxSteps := 10000000) (disch := omega) only [go_sem, ↓reduceIte, Nat.reduceEqDiff, Nat.reduceSub, Nat.reduceLeDiff, Nat.reduceAdd, Int.reduceEq, Int.reduceLT, Int.reduceLE]
  have k3 : ∀ {h d}, h 8 = some (.row 15 ([e11, e21].map entE)) → FunOk Tryd.prog 14 [.os 8, .agg [.pv (.i .i64 0), .pv (.i .u32 0)]] h d (.os d) [.new d (.row 15 ([e11, e21].map entE))] := fun {h d} h8 =>
    (okInE (x := .os 8) (f := false) (l := [e11, e21]) (M := [e11, e21]) (dir := (0, 0)) (fun {h d} hh => by
      rw [in2] at hh
      exact FunOk.same (okSort2 (x := e11) (y := e21) rfl (by simp only [lents, lent_os _ _ _ _ hh]; rfl) rfl) hh (by simp [tops, tn])) (by simp only [lents, lent_os _ _ _ _ h8]; rfl) rfl (by decide)).imp ⟨Imp.refl _, imp_agg rfl rfl, trivial⟩ (fun n hn => hn)
  refine call_with (k3 rfl) ?_
  (try simp only [brK_e, gdK_e, skK_e, gdA_e, skA_e, pkK_e]); simp (maxSteps := 10000000) (disch := omega) only [go_sem, ↓reduceIte, Nat.reduceEqDiff, Nat.reduceSub, Nat.reduceLeDiff, Nat.reduceAdd, Int.reduceEq, Int.reduceLT, Int.reduceLE]
  have k4 : ∀ {h d}, h 11 = some (.row 15 ([e11, e21].map entE)) → FunOk Tryd.prog 13 [.os 11] h d (.os d) [.new d (.row 1 ([[97], [97, 126, 50, 46, 49]].map strE))] := fun {h d} h11 => by
    rw [← sh2]
    refine okShown (x := .os 11) (f := false) (l := [e11, e21]) (fun k y hy hs {h d} => ?_) (by simp only [lents, lent_os _ _ _ _ h11]) rfl (by decide)
    have : k = 1 ∧ y = e21 := by
      obtain ⟨h0, _⟩ := hs
      have hk : k < 2 := (List.getElem?_eq_some_iff.1 hy).1
      obtain rfl : k = 1 := by omega
      cases hy; exact ⟨rfl, rfl⟩
    obtain ⟨rfl, rfl⟩ := this
    exact okTag2
  refine call_with (k4 rfl) ?_
  have n1 : (((([e11, e21].map entE).length : Nat) : Int) = 2) = True := eq_true rfl
  have n2 : (((([[97], [97, 126, 50, 46, 49]].map strE).length : Nat) : Int) = 2) = True := eq_true rfl
  have n3 : ((0 : Int) < ((([[97], [97, 126, 50, 46, 49]].map strE).length : Nat) : Int)) = True := eq_true (by decide)
  have n4 : ((1 : Int) < ((([[97], [97, 126, 50, 46, 49]].map strE).length : Nat) : Int)) = True := eq_true (by decide)
  have n5 : ((0 : Int) < ((([e11, e21].map entE).length : Nat) : Int)) = True := eq_true (by decide)
  have g1 : ([[97], [97, 126, 50, 46, 49]].map strE)[0]? = some [PV.s [97]] := rfl
  have g2 : ([[97], [97, 126, 50, 46, 49]].map strE)[Int.toNat 1]? = some [PV.s [97, 126, 50, 46, 49]] := rfl
  have g3 : ([e11, e21].map entE)[0]? = some (entE e11) := rfl
  have hz : vEq e11.gone (fun _ => 0) := fun i _ => rfl
  have q1 : ∀ K : KK, LoadK (some [PV.s [97]]) 0 1 false K = K (.pv (.s [97])) [] := fun K => by simp [LoadK, ldX]
  have q2 : ∀ K : KK, LoadK (some [PV.s [97, 126, 50, 46, 49]]) 0 1 false K = K (.pv (.s [97, 126, 50, 46, 49])) [] := fun K => by simp [LoadK, ldX]
  (try simp only [brK_e, gdK_e, skK_e, gdA_e, skA_e, pkK_e]); simp (maxSteps := 10000000) (disch := omega) only [n1, n2, n3, n4, n5, g1, g2, g3, q1, q2, ld_ent, go_sem, ↓reduceIte, Nat.reduceEqDiff, Nat.reduceSub, Nat.reduceLeDiff, Nat.reduceAdd, Int.reduceEq, Int.reduceLT, Int.reduceLE]
  refine call_with (okAliveE e11) ?_
  have hz' : decide (vEq e11.gone fun _ => 0) = true := by simp [hz]
  (try simp only [brK_e, gdK_e, skK_e, gdA_e, skA_e, pkK_e]); simp (maxSteps := 10000000) (disch := omega) only [hz', go_sem, ↓reduceIte, Nat.reduceEqDiff, Nat.reduceSub, Nat.reduceLeDiff, Nat.reduceAdd, Int.reduceEq, Int.reduceLT, Int.reduceLE]
end Go.Proofs.YthleeikkpjiicaaDoor.Fw
namespace Go.Proofs.YthleeikkpjiicaaDoor.Fw
open Go.RowKit Go.Proofs
/-! Acts on entries: what comes, and what goes. -/
structure Act where
  ent : Ent
  goes : Bool
  by' : Idn
def actE (a : Act) : List PV := entE a.ent ++ [.b a.goes, .i .i64 a.by'.1, .i .u32 a.by'.2]
def doL (l : List Ent) (a : Act) : List Ent := if a.goes = true then killL (addL l a.ent) a.ent.id a.by' else addL l a.ent
def bareE (x : Ent) : Ent := { x with gone := fun _ => 0 }
/-- what entries tell of acts, in whatever order -/
def RepA (L : List Act) (m : List Ent) : Prop := SortE m ∧ ∀ i, (look m i = none → ∀ a ∈ L, a.ent.id ≠ i) ∧
  ∀ x, look m i = some x → (∃ a ∈ L, a.ent.id = i ∧ bareE x = a.ent) ∧ ∀ q n, x.gone q ≤ n ↔ ∀ a ∈ L, a.ent.id = i → a.goes = true → oneT a.by' q ≤ n
theorem RepA.nil : RepA [] [] := ⟨List.Pairwise.nil, fun i => ⟨fun _ a h => (by cases h), fun x h => (by simp [look] at h)⟩⟩
theorem RepA.snoc {L : List Act} {m : List Ent} {a : Act} (h : RepA L m) (ha : bareE a.ent = a.ent) : RepA (L ++ [a]) (doL m a) := by
  obtain ⟨hs, h⟩ := h
  have hsa := sort_add hs a.ent
  have h0 : ∀ q, a.ent.gone q = 0 := fun q => by rw [← ha]; rfl
  have hsd : SortE (doL m a) := by unfold doL; split; exact sort_kill hsa _ _; exact hsa
  have hlook : ∀ i, look (doL m a) i = if a.ent.id = i then some (if a.goes = true then killF a.by' ((look m i).getD a.ent) else (look m i).getD a.ent) else look m i := fun i => by
    unfold doL
    by_cases hg : a.goes = true
    · rw [if_pos hg, look_kill, look_add hs]
      by_cases e : a.ent.id = i
      · simp [e, hg]
      · simp [e]
    · rw [if_neg hg, look_add hs]
      simp [hg]
  refine ⟨hsd, fun i => ⟨fun hn b hb => ?_, fun x hx => ?_⟩⟩
  · rw [hlook] at hn
    split at hn
    · cases hn
    · rename_i e
      rcases List.mem_append.1 hb with hb | hb
      · exact (h i).1 hn b hb
      · simp at hb; subst hb; exact e
  · rw [hlook] at hx
    by_cases e : a.ent.id = i
    · rw [if_pos e] at hx
      simp only [Option.some.injEq] at hx
      cases hm : look m i with
      | none =>
        rw [hm] at hx
        simp only [Option.getD_none] at hx
        have hno := (h i).1 hm
        refine ⟨⟨a, by simp, e, ?_⟩, fun q n => ?_⟩
        · subst hx; split <;> exact ha
        · subst hx
          constructor
          · intro hq b hb hbi hbg
            rcases List.mem_append.1 hb with hb | hb
            · exact absurd hbi (hno b hb)
            · simp at hb; subst hb
              rw [if_pos hbg] at hq
              simp only [killF, vJoin] at hq
              omega
          · intro hq
            split
            · rename_i hg
              have := hq a (by simp) e hg
              simp only [killF, vJoin, h0]
              omega
            · rw [h0]; omega
      | some y =>
        rw [hm] at hx
        simp only [Option.getD_some] at hx
        obtain ⟨⟨b, hb, hbi, hbe⟩, hy⟩ := (h i).2 y hm
        refine ⟨⟨b, List.mem_append_left _ hb, hbi, ?_⟩, fun q n => ?_⟩
        · subst hx; split <;> exact hbe
        · subst hx
          constructor
          · intro hq c hc hci hcg
            rcases List.mem_append.1 hc with hc | hc
            · refine (hy q n).1 ?_ c hc hci hcg
              split at hq
              · simp only [killF, vJoin] at hq; omega
              · exact hq
            · simp at hc; subst hc
              rw [if_pos hcg] at hq
              simp only [killF, vJoin] at hq
              omega
          · intro hq
            have h1 := (hy q n).2 fun c hc => hq c (List.mem_append_left _ hc)
            split
            · rename_i hg
              have := hq a (by simp) e hg
              simp only [killF, vJoin]
              omega
            · exact h1
    · rw [if_neg e] at hx
      obtain ⟨⟨b, hb, hbi, hbe⟩, hy⟩ := (h i).2 x hx
      refine ⟨⟨b, List.mem_append_left _ hb, hbi, hbe⟩, fun q n => ?_⟩
      rw [hy q n]
      constructor
      · intro hq c hc hci hcg
        rcases List.mem_append.1 hc with hc | hc
        · exact hq c hc hci hcg
        · simp at hc; subst hc; exact absurd hci e
      · exact fun hq c hc => hq c (List.mem_append_left _ hc)
theorem RepA.join {L M : List Act} {l m : List Ent} (h : RepA L l) (k : RepA M m) : RepA (L ++ M) (joinL l m) := by
  obtain ⟨hs, h⟩ := h
  obtain ⟨ks, k⟩ := k
  refine ⟨sort_join hs, fun i => ?_⟩
  rw [look_join hs ks]
  cases hx : look l i with
  | none =>
    have h1 := (h i).1 hx
    cases hy : look m i with
    | none =>
      have k1 := (k i).1 hy
      refine ⟨fun _ a ha => (List.mem_append.1 ha).elim (h1 a) (k1 a), fun x hx => by cases hx⟩
    | some y =>
      obtain ⟨⟨b, hb, hbi, hbe⟩, k2⟩ := (k i).2 y hy
      refine ⟨fun e => (by cases e), fun x e => ?_⟩
      cases e
      refine ⟨⟨b, List.mem_append_right _ hb, hbi, hbe⟩, fun q n => (k2 q n).trans ⟨fun hq c hc hci hcg => ?_, fun hq c hc => hq c (List.mem_append_right _ hc)⟩⟩
      rcases List.mem_append.1 hc with hc | hc
      · exact absurd hci (h1 c hc)
      · exact hq c hc hci hcg
  | some x =>
    obtain ⟨⟨a, ha, hai, hae⟩, h2⟩ := (h i).2 x hx
    cases hy : look m i with
    | none =>
      have k1 := (k i).1 hy
      refine ⟨fun e => (by cases e), fun x e => ?_⟩
      cases e
      refine ⟨⟨a, List.mem_append_left _ ha, hai, hae⟩, fun q n => (h2 q n).trans ⟨fun hq c hc hci hcg => ?_, fun hq c hc => hq c (List.mem_append_left _ hc)⟩⟩
      rcases List.mem_append.1 hc with hc | hc
      · exact hq c hc hci hcg
      · exact absurd hci (k1 c hc)
    | some y =>
      obtain ⟨⟨b, hb, hbi, hbe⟩, k2⟩ := (k i).2 y hy
      refine ⟨fun e => (by cases e), fun x e => ?_⟩
      cases e
      refine ⟨⟨a, List.mem_append_left _ ha, hai, hae⟩, fun q n => ?_⟩
      have e1 : (mrg2 x y).gone q ≤ n ↔ x.gone q ≤ n ∧ y.gone q ≤ n := by simp only [mrg2, vJoin]; omega
      rw [e1, h2 q n, k2 q n]
      constructor
      · rintro ⟨p1, p2⟩ c hc hci hcg
        rcases List.mem_append.1 hc with hc | hc
        · exact p1 c hc hci hcg
        · exact p2 c hc hci hcg
      · exact fun p => ⟨fun c hc => p c (List.mem_append_left _ hc), fun c hc => p c (List.mem_append_right _ hc)⟩
theorem RepA.eq {L M : List Act} {l m : List Ent} (h : RepA L l) (k : RepA M m) (hm : ∀ a, a ∈ L ↔ a ∈ M) (hf : ∀ a b, a ∈ L → b ∈ L → a.ent.id = b.ent.id → a.ent = b.ent) : l = m := by
  obtain ⟨hs, h⟩ := h
  obtain ⟨ks, k⟩ := k
  refine look_ext hs ks fun i => ?_
  cases hx : look l i with
  | none =>
    have h1 := (h i).1 hx
    cases hy : look m i with
    | none => rfl
    | some y =>
      obtain ⟨⟨b, hb, hbi, _⟩, _⟩ := (k i).2 y hy
      exact absurd hbi (h1 b ((hm b).2 hb))
  | some x =>
    obtain ⟨⟨a, ha, hai, hae⟩, h2⟩ := (h i).2 x hx
    cases hy : look m i with
    | none => exact absurd hai ((k i).1 hy a ((hm a).1 ha))
    | some y =>
      obtain ⟨⟨b, hb, hbi, hbe⟩, k2⟩ := (k i).2 y hy
      have hb' := (hm b).2 hb
      have e1 : bareE x = bareE y := by rw [hae, hbe, hf a b ha hb' (hai.trans hbi.symm)]
      have e2 : x.gone = y.gone := funext fun q => by
        have u1 : x.gone q ≤ y.gone q := (h2 q _).2 fun c hc => (k2 q _).1 (Nat.le_refl _) c ((hm c).1 hc)
        have u2 : y.gone q ≤ x.gone q := (k2 q _).2 fun c hc => (h2 q _).1 (Nat.le_refl _) c ((hm c).2 hc)
        omega
      obtain ⟨x1, x2, x3, x4, x5⟩ := x
      obtain ⟨y1, y2, y3, y4, y5⟩ := y
      simp only [bareE, Ent.mk.injEq, and_true] at e1
      simp only at e2
      obtain ⟨rfl, rfl, rfl, rfl⟩ := e1
      subst e2
      rfl
def doAll (L : List Act) : List Ent := L.foldl doL []
theorem doAll_snoc (L : List Act) (a : Act) : doAll (L ++ [a]) = doL (doAll L) a := by simp [doAll]
theorem doAll_rep (L : List Act) : (∀ a ∈ L, bareE a.ent = a.ent) → RepA L (doAll L) := by
  have key : ∀ n, ∀ L : List Act, L.length = n → (∀ a ∈ L, bareE a.ent = a.ent) → RepA L (doAll L) := by
    intro n
    induction n with
    | zero => intro L hL _; obtain rfl := List.eq_nil_of_length_eq_zero hL; exact RepA.nil
    | succ n ih =>
      intro L hL h
      obtain ⟨M, a, rfl⟩ : ∃ M a, L = M ++ [a] := by
        have hne : L ≠ [] := by intro e; subst e; cases hL
        exact ⟨L.dropLast, L.getLast hne, (List.dropLast_concat_getLast hne).symm⟩
      rw [doAll_snoc]
      exact (ih M (by simpa using hL) fun b hb => h b (List.mem_append_left _ hb)).snoc (h a (by simp))
  exact key _ L rfl
theorem len_do (l : List Ent) (a : Act) : (doL l a).length ≤ l.length + 1 := by
  have := len_add l a.ent
  unfold doL killL
  split
  · rw [len_mod]; exact this
  · exact this
theorem doAll_len : ∀ (n : Nat) (L : List Act), L.length = n → (doAll L).length ≤ n
  | 0, L, h => by obtain rfl := List.eq_nil_of_length_eq_zero h; simp [doAll]
  | n + 1, L, h => by
    obtain ⟨M, a, rfl⟩ : ∃ M a, L = M ++ [a] := by
      have hne : L ≠ [] := by intro e; subst e; cases h
      exact ⟨L.dropLast, L.getLast hne, (List.dropLast_concat_getLast hne).symm⟩
    rw [doAll_snoc]
    have h1 := doAll_len n M (by simpa using h)
    have h2 := len_do (doAll M) a
    omega
theorem doAll_sort (L : List Act) (h : ∀ a ∈ L, bareE a.ent = a.ent) : SortE (doAll L) := (doAll_rep L h).1
theorem doL_sort {l : List Ent} (hs : SortE l) (a : Act) : SortE (doL l a) := by
  unfold doL
  split
  · exact sort_kill (sort_add hs _) _ _
  · exact sort_add hs _
end Go.Proofs.YthleeikkpjiicaaDoor.Fw
namespace Go.Proofs.YthleeikkpjiicaaDoor.Fw
open Go.RowKit Go.Proofs
theorem actE_len (a : Act) : (actE a).length = 18 := by simp [actE, entE_len]
theorem act_take {a : Act} {i n : Nat} (h : i + n ≤ 15) : ((actE a).drop i).take n = ((entE a.ent).drop i).take n := by
  have := entE_len a.ent
  unfold actE
  rw [List.drop_append_of_le_length (by omega), List.take_append_of_le_length (by simp; omega)]
theorem ld_act (a : Act) (K : KK) : LoadK (some (actE a)) 0 18 true K = K (.vec 18 (actE a)) [] := by
  have e : ((actE a).drop 0).take 18 = actE a := List.take_of_length_le (by rw [List.drop_zero, actE_len]; omega)
  simp only [LoadK, ldX, eq_iff_iff, e, actE_len]
  exact ⟨fun h => h.2.2, fun h => ⟨by omega, .inl trivial, h⟩⟩
theorem ld_actE (a : Act) (K : KK) : LoadK (some (actE a)) 0 15 true K = K (.vec 15 (entE a.ent)) [] := by
  have e : ((actE a).drop 0).take 15 = entE a.ent := by rw [act_take (by omega)]; exact List.take_of_length_le (by rw [List.drop_zero, entE_len]; omega)
  simp only [LoadK, ldX, eq_iff_iff, e, actE_len]
  exact ⟨fun h => h.2.2, fun h => ⟨by omega, .inl trivial, h⟩⟩
theorem ld_actId (a : Act) (K : KK) : LoadK (some (actE a)) 0 2 true K = K (.vec 2 [.i .i64 a.ent.id.1, .i .u32 a.ent.id.2]) [] := by
  simp only [LoadK, ldX, eq_iff_iff, actE_len]
  exact ⟨fun h => h.2.2, fun h => ⟨by omega, .inl trivial, h⟩⟩
theorem ld_actName (a : Act) (K : KK) : LoadK (some (actE a)) 4 1 false K = K (.pv (.s a.ent.name)) [] := by
  simp only [LoadK, ldX, eq_iff_iff, actE_len]
  exact ⟨fun h => h.2.2, fun h => ⟨by omega, .inr trivial, h⟩⟩
theorem ld_actBy (a : Act) (K : KK) : LoadK (some (actE a)) 7 8 true K = K (.vec 8 (vE a.ent.gone)) [] := by
  have e : ((actE a).drop 7).take 8 = vE a.ent.gone := by
    rw [act_take (by omega)]
    unfold entE
    rw [List.drop_left' (by rfl)]
    exact List.take_of_length_le (by rw [vE_length]; omega)
  simp only [LoadK, ldX, eq_iff_iff, e, actE_len]
  exact ⟨fun h => h.2.2, fun h => ⟨by omega, .inl trivial, h⟩⟩
theorem act_back (a : Act) : (actE a).drop 15 = [.b a.goes, .i .i64 a.by'.1, .i .u32 a.by'.2] := by
  unfold actE; exact List.drop_left' (entE_len _)
theorem ld_actGoes (a : Act) (K : KK) : LoadK (some (actE a)) 15 1 false K = K (.pv (.b a.goes)) [] := by
  have e : (actE a).getD 15 (.b false) = .b a.goes := by
    have : (actE a)[15]? = ((actE a).drop 15)[0]? := by rw [List.getElem?_drop]
    rw [List.getD_eq_getElem?_getD, this, act_back]; rfl
  simp only [LoadK, ldX, eq_iff_iff, e, actE_len]
  exact ⟨fun h => h.2.2, fun h => ⟨by omega, .inr trivial, h⟩⟩
theorem ld_actB2 (a : Act) (K : KK) : LoadK (some (actE a)) 16 2 true K = K (.vec 2 [.i .i64 a.by'.1, .i .u32 a.by'.2]) [] := by
  have e : ((actE a).drop 16).take 2 = [.i .i64 a.by'.1, .i .u32 a.by'.2] := by
    rw [show (16 : Nat) = 15 + 1 from rfl, ← List.drop_drop, act_back]; rfl
  simp only [LoadK, ldX, eq_iff_iff, e, actE_len]
  exact ⟨fun h => h.2.2, fun h => ⟨by omega, .inl trivial, h⟩⟩
theorem okDo {x : SV} {f : Bool} {l : List Ent} (a : Act) {h d} (hx : lents h [x, .vec 18 (actE a)] = [.pv (.sl f 15 (l.map entE)), .vec 18 (actE a)]) (hl : lendable [x, .vec 18 (actE a)] = true) (hs : SortE l) (hn : l.length ≤ 500) :
    FunOk Tryd.prog 30 [x, .vec 18 (actE a)] h d (.os d) [.new d (.row 15 ((doL l a).map entE))] := by
  refine fun_row mixed fn30 (by simp) hl (.inr (entE_flat _)) fun F => ?_
  rw [hx]
  have hq := len_add l a.ent
  (try simp only [brK_e, gdK_e, skK_e, gdA_e, skA_e, pkK_e]); simp (maxSteps := 10000000) (disch := omega) only [ir30, ld_actE, go_sem, ↓reduceIte, Nat.reduceEqDiff, Nat.reduceSub, Nat.reduceLeDiff, Nat.reduceAdd, Int.reduceEq, Int.reduceLT, Int.reduceLE]
  refine call_with (okAddE (l := l) a.ent rfl rfl hs (by omega)) ?_
  by_cases hg : a.goes = true
  · have e : doL l a = killL (addL l a.ent) a.ent.id a.by' := by unfold doL; rw [if_pos hg]
    have hg' := ld_actGoes a
    rw [hg] at hg'
    (try simp only [brK_e, gdK_e, skK_e, gdA_e, skA_e, pkK_e]); simp (maxSteps := 10000000) (disch := omega) only [hg', ld_actId, ld_actB2, go_sem, ↓reduceIte, Nat.reduceEqDiff, Nat.reduceSub, Nat.reduceLeDiff, Nat.reduceAdd, Int.reduceEq, Int.reduceLT, Int.reduceLE]
    refine call_with (okKillE (l := addL l a.ent) a.ent.id a.by' rfl rfl (sort_add hs _) (by omega)) ?_
    (try simp only [brK_e, gdK_e, skK_e, gdA_e, skA_e, pkK_e]); simp (maxSteps := 10000000) (disch := omega) only [e, go_sem, ↓reduceIte, Nat.reduceEqDiff, Nat.reduceSub, Nat.reduceLeDiff, Nat.reduceAdd, Int.reduceEq, Int.reduceLT, Int.reduceLE]
  · have e : doL l a = addL l a.ent := by unfold doL; rw [if_neg hg]
    have hgf : a.goes = false := by simpa using hg
    have hg' := ld_actGoes a
    rw [hgf] at hg'
    (try simp only [brK_e, gdK_e, skK_e, gdA_e, skA_e, pkK_e]); simp (maxSteps := 10000000) (disch := omega) only [hg', e, go_sem, ↓reduceIte, Nat.reduceEqDiff, Nat.reduceSub, Nat.reduceLeDiff, Nat.reduceAdd, Int.reduceEq, Int.reduceLT, Int.reduceLE]
def FairA (l : List Act) : Prop := l.length ≤ 30 ∧ ∀ (i : Nat) (x : Act), l[i]? = some x → (x.ent.name.length ≤ 40 ∧ vEq x.ent.gone fun _ => 0) ∧ ∀ (j : Nat) (y : Act), l[j]? = some y → j < i → y.ent.id = x.ent.id → entE y.ent = entE x.ent
open Classical in
noncomputable def fairAB (l : List Act) : Bool := decide (FairA l)
theorem fairAB_t {A : List Act} (h : FairA A) : fairAB A = true := by simp [fairAB, h]
theorem fairAB_f {A : List Act} (h : ¬ FairA A) : fairAB A = false := by simp [fairAB, h]
def stFair (A : List Act) (k : Nat) : FS := mk [(12, .pv (.i .i64 k)), (11, .pv (.i .i64 A.length)), (10, .pv (.sl false 18 (A.map actE))), (0, .pv (.sl false 18 (A.map actE)))] []
def stFair2 (A : List Act) (x : Act) (k : Nat) (j : Nat) : FS := mk [(33, .pv (.i .i64 j)), (32, .pv (.i .i64 k)), (31, .pv (.sl false 18 ((A.take k).map actE))), (4, .p 4 0), (12, .pv (.i .i64 k)), (11, .pv (.i .i64 A.length)), (10, .pv (.sl false 18 (A.map actE))), (0, .pv (.sl false 18 (A.map actE)))] [(4, some (.var (.vec 18 (actE x))))]
set_option maxHeartbeats 4000000 in
theorem okFair {A : List Act} {h d} : FunOk Tryd.prog 29 [.pv (.sl false 18 (A.map actE))] h d (.pv (.b (fairAB A))) [] := by
  refine fun_scalar mixed fn29 (by simp) rfl rfl fun F => ?_
  by_cases h30 : 30 < (A.length : Int)
  · have hf := fairAB_f (A := A) fun h => by have := h.1; omega
    (try simp only [brK_e, gdK_e, skK_e, gdA_e, skA_e, pkK_e]); simp (maxSteps := 10000000) (disch := omega) only [ir29, List.length_map, hf, go_sem, ↓reduceIte, Nat.reduceEqDiff, Nat.reduceSub, Nat.reduceLeDiff, Nat.reduceAdd, Int.reduceEq, Int.reduceLT, Int.reduceLE]
  (try simp only [brK_e, gdK_e, skK_e, gdA_e, skA_e, pkK_e]); simp (maxSteps := 10000000) (disch := omega) only [ir29, List.length_map, go_sem, ↓reduceIte, Nat.reduceEqDiff, Nat.reduceSub, Nat.reduceLeDiff, Nat.reduceAdd, Int.reduceEq, Int.reduceLT, Int.reduceLE]
  refine loop_ok mixed (stFair A) (fun k => k ≤ A.length ∧ ∀ (i : Nat) (x : Act), i < k → A[i]? = some x → (x.ent.name.length ≤ 40 ∧ vEq x.ent.gone fun _ => 0) ∧ ∀ (j : Nat) (y : Act), A[j]? = some y → j < i → y.ent.id = x.ent.id → entE y.ent = entE x.ent) (fun k => A.length - k) 0 ⟨Nat.zero_le _, fun i x hi => absurd hi (Nat.not_lt_zero i)⟩ (weak_mk ?_ ?_) fun k hk => ?_
  · (try simp only [brK_e, gdK_e, skK_e, gdA_e, skA_e, pkK_e]); simp (maxSteps := 10000000) (disch := omega) only [List.length_map, go_sem, ↓reduceIte, Nat.reduceEqDiff, Nat.reduceSub, Nat.reduceLeDiff, Nat.reduceAdd, Int.reduceEq, Int.reduceLT, Int.reduceLE]
  · (try simp only [brK_e, gdK_e, skK_e, gdA_e, skA_e, pkK_e]); simp (maxSteps := 10000000) (disch := omega) only [go_sem, ↓reduceIte, Nat.reduceEqDiff, Nat.reduceSub, Nat.reduceLeDiff, Nat.reduceAdd, Int.reduceEq, Int.reduceLT, Int.reduceLE]
  obtain ⟨hk1, hk2⟩ := hk
  by_cases hlt : k < A.length
  · have hx : A[k]? = some A[k] := List.getElem?_eq_getElem hlt
    have he : (A.map actE)[k]? = some (actE A[k]) := by rw [List.getElem?_map, hx]; rfl
    generalize A[k] = x at *
    have hcx := actE_len x
    by_cases hnm : 40 < (x.ent.name.length : Int)
    · have hf := fairAB_f (A := A) fun h => by have := (h.2 k x hx).1.1; omega
      (try simp only [brK_e, gdK_e, skK_e, gdA_e, skA_e, pkK_e]); simp (maxSteps := 10000000) (disch := omega) only [stFair, List.length_map, he, ld_act, hcx, ld_actName, hnm, hf, go_sem, ↓reduceIte, Nat.reduceEqDiff, Nat.reduceSub, Nat.reduceLeDiff, Nat.reduceAdd, Int.reduceEq, Int.reduceLT, Int.reduceLE]
    by_cases hg : vEq x.ent.gone fun _ => 0
    case neg =>
      have hf := fairAB_f (A := A) fun h => hg (h.2 k x hx).1.2
      (try simp only [brK_e, gdK_e, skK_e, gdA_e, skA_e, pkK_e]); simp (maxSteps := 10000000) (disch := omega) only [stFair, List.length_map, he, ld_act, hcx, ld_actName, hnm, ld_actBy, hg, hf, go_sem, ↓reduceIte, Nat.reduceEqDiff, Nat.reduceSub, Nat.reduceLeDiff, Nat.reduceAdd, Int.reduceEq, Int.reduceLT, Int.reduceLE]
    have eT2 : ((A.map actE).take k).length = k := by simp; omega
    (try simp only [brK_e, gdK_e, skK_e, gdA_e, skA_e, pkK_e]); simp (maxSteps := 10000000) (disch := omega) only [stFair, List.length_map, he, ld_act, hcx, ld_actName, hnm, ld_actBy, hg, eT2, go_sem, ↓reduceIte, Nat.reduceEqDiff, Nat.reduceSub, Nat.reduceLeDiff, Nat.reduceAdd, Int.reduceEq, Int.reduceLT, Int.reduceLE]
    refine loop_ok mixed (stFair2 A x k) (fun j => j ≤ k ∧ ∀ (j' : Nat) (y : Act), j' < j → A[j']? = some y → y.ent.id = x.ent.id → entE y.ent = entE x.ent) (fun j => k - j) 0 ⟨Nat.zero_le _, fun j y hj => absurd hj (Nat.not_lt_zero j)⟩ (weak_mk ?_ ?_) fun j hj => ?_
    · (try simp only [brK_e, gdK_e, skK_e, gdA_e, skA_e, pkK_e]); simp (maxSteps := 10000000) (disch := omega) only [List.map_take, List.length_map, go_sem, ↓reduceIte, Nat.reduceEqDiff, Nat.reduceSub, Nat.reduceLeDiff, Nat.reduceAdd, Int.reduceEq, Int.reduceLT, Int.reduceLE]
    · (try simp only [brK_e, gdK_e, skK_e, gdA_e, skA_e, pkK_e]); simp (maxSteps := 10000000) (disch := omega) only [go_sem, ↓reduceIte, Nat.reduceEqDiff, Nat.reduceSub, Nat.reduceLeDiff, Nat.reduceAdd, Int.reduceEq, Int.reduceLT, Int.reduceLE]
    obtain ⟨p1, p2⟩ := hj
    by_cases hj : j < k
    · have hy : A[j]? = some A[j] := List.getElem?_eq_getElem (by omega)
      have hye : ((A.take k).map actE)[j]? = some (actE A[j]) := by rw [List.getElem?_map, List.getElem?_take, if_pos hj, hy]; rfl
      generalize A[j] = y at *
      have hcy := actE_len y
      by_cases hid : y.ent.id = x.ent.id
      · have hp := peqI_t hid
        have f1 := fits_ent x.ent
        have f2 := fits_ent y.ent
        by_cases hb : entE y.ent = entE x.ent
        · have hpe : peq (entE y.ent) (entE x.ent) = true := by rw [hb]; exact peq_refl _
          (try simp only [brK_e, gdK_e, skK_e, gdA_e, skA_e, pkK_e]); simp (maxSteps := 10000000) (disch := omega) only [stFair2, List.length_map, List.length_take, hye, ld_act, hcy, ld_actId, fitsId2, hp, ld_actE, f1, f2, hpe, go_sem, ↓reduceIte, Nat.reduceEqDiff, Nat.reduceSub, Nat.reduceLeDiff, Nat.reduceAdd, Int.reduceEq, Int.reduceLT, Int.reduceLE]
          refine loop_next (x := j) (j + 1) _ _ rfl ⟨by omega, fun j' y' hj' hy' hid' => ?_⟩ (by omega) ?_ ?_
          · by_cases ej : j' = j
            · subst ej; rw [hy] at hy'; cases hy'; exact hb
            · exact p2 j' y' (by omega) hy' hid'
          · (try simp only [brK_e, gdK_e, skK_e, gdA_e, skA_e, pkK_e]); simp (maxSteps := 10000000) (disch := omega) only [List.length_map, List.length_take, go_sem, ↓reduceIte, Nat.reduceEqDiff, Nat.reduceSub, Nat.reduceLeDiff, Nat.reduceAdd, Int.reduceEq, Int.reduceLT, Int.reduceLE]
          · (try simp only [brK_e, gdK_e, skK_e, gdA_e, skA_e, pkK_e]); simp (maxSteps := 10000000) (disch := omega) only [go_sem, ↓reduceIte, Nat.reduceEqDiff, Nat.reduceSub, Nat.reduceLeDiff, Nat.reduceAdd, Int.reduceEq, Int.reduceLT, Int.reduceLE]
        · have hpe : peq (entE y.ent) (entE x.ent) = false := by unfold peq; rw [decide_eq_false_iff_not]; exact hb
          have hno := fairAB_f (A := A) fun h => hb ((h.2 k x hx).2 j y hy hj hid)
          (try simp only [brK_e, gdK_e, skK_e, gdA_e, skA_e, pkK_e]); simp (maxSteps := 10000000) (disch := omega) only [stFair2, List.length_map, List.length_take, hye, ld_act, hcy, ld_actId, fitsId2, hp, ld_actE, f1, f2, hpe, hno, go_sem, ↓reduceIte, Nat.reduceEqDiff, Nat.reduceSub, Nat.reduceLeDiff, Nat.reduceAdd, Int.reduceEq, Int.reduceLT, Int.reduceLE]
      · have hp := peqI_f hid
        (try simp only [brK_e, gdK_e, skK_e, gdA_e, skA_e, pkK_e]); simp (maxSteps := 10000000) (disch := omega) only [stFair2, List.length_map, List.length_take, hye, ld_act, hcy, ld_actId, fitsId2, hp, go_sem, ↓reduceIte, Nat.reduceEqDiff, Nat.reduceSub, Nat.reduceLeDiff, Nat.reduceAdd, Int.reduceEq, Int.reduceLT, Int.reduceLE]
        refine loop_next (x := j) (j + 1) _ _ rfl ⟨by omega, fun j' y' hj' hy' hid' => ?_⟩ (by omega) ?_ ?_
        · by_cases ej : j' = j
          · subst ej; rw [hy] at hy'; cases hy'; exact absurd hid' hid
          · exact p2 j' y' (by omega) hy' hid'
        · (try simp only [brK_e, gdK_e, skK_e, gdA_e, skA_e, pkK_e]); simp (maxSteps := 10000000) (disch := omega) only [List.length_map, List.length_take, go_sem, ↓reduceIte, Nat.reduceEqDiff, Nat.reduceSub, Nat.reduceLeDiff, Nat.reduceAdd, Int.reduceEq, Int.reduceLT, Int.reduceLE]
        · (try simp only [brK_e, gdK_e, skK_e, gdA_e, skA_e, pkK_e]); simp (maxSteps := 10000000) (disch := omega) only [go_sem, ↓reduceIte, Nat.reduceEqDiff, Nat.reduceSub, Nat.reduceLeDiff, Nat.reduceAdd, Int.reduceEq, Int.reduceLT, Int.reduceLE]
    · obtain rfl : j = k := by omega
      (try simp only [brK_e, gdK_e, skK_e, gdA_e, skA_e, pkK_e]); simp (maxSteps := 10000000) (disch := omega) only [stFair2, List.length_map, List.length_take, go_sem, ↓reduceIte, Nat.reduceEqDiff, Nat.reduceSub, Nat.reduceLeDiff, Nat.reduceAdd, Int.reduceEq, Int.reduceLT, Int.reduceLE]
      refine loop_next (x := j) (j + 1) _ _ rfl ⟨by omega, fun i' x' hi' hx' => ?_⟩ (by omega) ?_ ?_
      · by_cases ei : i' = j
        · subst ei; rw [hx] at hx'; cases hx'
          exact ⟨⟨by omega, hg⟩, fun j' y' hy' hj' hid' => p2 j' y' hj' hy' hid'⟩
        · exact hk2 i' x' (by omega) hx'
      · (try simp only [brK_e, gdK_e, skK_e, gdA_e, skA_e, pkK_e]); simp (maxSteps := 10000000) (disch := omega) only [List.length_map, go_sem, ↓reduceIte, Nat.reduceEqDiff, Nat.reduceSub, Nat.reduceLeDiff, Nat.reduceAdd, Int.reduceEq, Int.reduceLT, Int.reduceLE]
      · (try simp only [brK_e, gdK_e, skK_e, gdA_e, skA_e, pkK_e]); simp (maxSteps := 10000000) (disch := omega) only [go_sem, ↓reduceIte, Nat.reduceEqDiff, Nat.reduceSub, Nat.reduceLeDiff, Nat.reduceAdd, Int.reduceEq, Int.reduceLT, Int.reduceLE]
  · obtain rfl : k = A.length := by omega
    have hyes := fairAB_t (A := A) ⟨by omega, fun i x hi => hk2 i x (List.getElem?_eq_some_iff.1 hi).1 hi⟩
    (try simp only [brK_e, gdK_e, skK_e, gdA_e, skA_e, pkK_e]); simp (maxSteps := 10000000) (disch := omega) only [stFair, List.length_map, hyes, go_sem, ↓reduceIte, Nat.reduceEqDiff, Nat.reduceSub, Nat.reduceLeDiff, Nat.reduceAdd, Int.reduceEq, Int.reduceLT, Int.reduceLE]
theorem imp_nilF {f : Bool} {y z : Nat} : Imp (.pv (.sl f y [])) (.pv (.sl false z [])) := by
  intro V ρ v h
  simp only [Conc] at h ⊢
  cases h with
  | sl full sz es a cap cs bl off arr hcap hfull hsz ha hcs hel =>
    exact .sl false z [] a cap cs bl off arr hcap (by simp) (by simp) (by simp) (by simp) (by simp)
def noAct : Act := ⟨⟨(0, 0), (0, 0), [], (0, 0), fun _ => 0⟩, false, (0, 0)⟩
def bAt (A : List Act) (K j : Nat) : Act := A.getD (A.length - 1 - (j + K) % A.length) noAct
def bL (A : List Act) (K k : Nat) : List Act := (List.range k).map (bAt A K)
theorem bL_succ (A : List Act) (K k : Nat) : bL A K (k + 1) = bL A K k ++ [bAt A K k] := by simp [bL, List.range_succ]
theorem bL_len (A : List Act) (K k : Nat) : (bL A K k).length = k := by simp [bL]
theorem bL_mem {A : List Act} {K : Nat} (hK : K < A.length) (a : Act) : a ∈ A ↔ a ∈ bL A K A.length := by
  constructor
  · intro h
    obtain ⟨i, hi⟩ := List.mem_iff_getElem?.1 h
    have hl := (List.getElem?_eq_some_iff.1 hi).1
    refine List.mem_map.2 ⟨(A.length - 1 - i + A.length - K) % A.length, List.mem_range.2 (Nat.mod_lt _ (by omega)), ?_⟩
    unfold bAt
    have e : ((A.length - 1 - i + A.length - K) % A.length + K) % A.length = A.length - 1 - i := by
      rw [Nat.mod_add_mod, show A.length - 1 - i + A.length - K + K = A.length - 1 - i + A.length by omega, Nat.add_mod_right, Nat.mod_eq_of_lt (by omega)]
    rw [e, show A.length - 1 - (A.length - 1 - i) = i by omega, List.getD_eq_getElem?_getD, hi]; rfl
  · intro h
    obtain ⟨j, hj, rfl⟩ := List.mem_map.1 h
    have hl : (j + K) % A.length < A.length := Nat.mod_lt _ (by omega)
    unfold bAt
    rw [List.getD_eq_getElem?_getD, List.getElem?_eq_getElem (show A.length - 1 - (j + K) % A.length < A.length by omega)]
    exact List.getElem_mem _
def stMeets (A : List Act) (K H k : Nat) : FS := mk [(45, .pv (.i .i64 k)), (44, .pv (.i .i64 A.length)), (43, .pv (.sl false 18 (A.map actE))), (7, .pv (.sl false 15 ((doAll (A.take k)).map entE))), (8, .pv (.sl false 15 ((doAll (bL A K k)).map entE))), (9, .pv (.sl false 15 ((doAll ((A.take k).take (H + 1))).map entE))), (10, .pv (.sl false 15 ((doAll ((A.take k).drop (H + 1))).map entE))), (11, .pv (.i .i64 K)), (12, .pv (.i .i64 H)), (0, .pv (.sl false 18 (A.map actE)))] []
set_option maxHeartbeats 8000000 in
theorem lawEntryMeets (A : List Act) (tu ha : Int) (hT : ∀ a ∈ A, tidyV a.ent.gone) {h d} :
    FunOk Tryd.prog 7 [.pv (.sl false 18 (A.map actE)), .pv (.i .i64 tu), .pv (.i .i64 ha)] h d (.pv (.b true)) [] := by
  refine fun_pureW mixed fn7 (by simp) rfl rfl fun F => ?_
  (try simp only [brK_e, gdK_e, skK_e, gdA_e, skA_e, pkK_e]); simp (maxSteps := 10000000) (disch := omega) only [ir7, go_sem, ↓reduceIte, Nat.reduceEqDiff, Nat.reduceSub, Nat.reduceLeDiff, Nat.reduceAdd, Int.reduceEq, Int.reduceLT, Int.reduceLE]
  refine call_with lives10 ?_
  (try simp only [brK_e, gdK_e, skK_e, gdA_e, skA_e, pkK_e]); simp (maxSteps := 10000000) (disch := omega) only [go_sem, ↓reduceIte, Nat.reduceEqDiff, Nat.reduceSub, Nat.reduceLeDiff, Nat.reduceAdd, Int.reduceEq, Int.reduceLT, Int.reduceLE]
  refine call_with (okFair (A := A)) ?_
  by_cases hF : FairA A
  case neg =>
    have e := fairAB_f hF
    (try simp only [brK_e, gdK_e, skK_e, gdA_e, skA_e, pkK_e]); simp (maxSteps := 10000000) (disch := omega) only [e, go_sem, ↓reduceIte, Nat.reduceEqDiff, Nat.reduceSub, Nat.reduceLeDiff, Nat.reduceAdd, Int.reduceEq, Int.reduceLT, Int.reduceLE]
    refine call_with lives10 ?_
    (try simp only [brK_e, gdK_e, skK_e, gdA_e, skA_e, pkK_e]); simp (maxSteps := 10000000) (disch := omega) only [go_sem, ↓reduceIte, Nat.reduceEqDiff, Nat.reduceSub, Nat.reduceLeDiff, Nat.reduceAdd, Int.reduceEq, Int.reduceLT, Int.reduceLE]
    refine ⟨_, .same _, ?_⟩
    (try simp only [brK_e, gdK_e, skK_e, gdA_e, skA_e, pkK_e]); simp (maxSteps := 10000000) (disch := omega) only [go_sem, ↓reduceIte, Nat.reduceEqDiff, Nat.reduceSub, Nat.reduceLeDiff, Nat.reduceAdd, Int.reduceEq, Int.reduceLT, Int.reduceLE]
  have e := fairAB_t hF
  have lA := hF.1
  by_cases h0 : (A.length : Int) = 0
  · (try simp only [brK_e, gdK_e, skK_e, gdA_e, skA_e, pkK_e]); simp (maxSteps := 10000000) (disch := omega) only [e, List.length_map, h0, go_sem, ↓reduceIte, Nat.reduceEqDiff, Nat.reduceSub, Nat.reduceLeDiff, Nat.reduceAdd, Int.reduceEq, Int.reduceLT, Int.reduceLE]
    refine call_with lives10 ?_
    (try simp only [brK_e, gdK_e, skK_e, gdA_e, skA_e, pkK_e]); simp (maxSteps := 10000000) (disch := omega) only [go_sem, ↓reduceIte, Nat.reduceEqDiff, Nat.reduceSub, Nat.reduceLeDiff, Nat.reduceAdd, Int.reduceEq, Int.reduceLT, Int.reduceLE]
    refine ⟨_, .same _, ?_⟩
    (try simp only [brK_e, gdK_e, skK_e, gdA_e, skA_e, pkK_e]); simp (maxSteps := 10000000) (disch := omega) only [go_sem, ↓reduceIte, Nat.reduceEqDiff, Nat.reduceSub, Nat.reduceLeDiff, Nat.reduceAdd, Int.reduceEq, Int.reduceLT, Int.reduceLE]
  obtain ⟨K, hK, hwK⟩ := u64_idx tu (n := A.length) (by omega) (by omega)
  obtain ⟨H, hH, hwH⟩ := u64_idx ha (n := A.length) (by omega) (by omega)
  rw [wrap_u64 (n := (A.length : Int)) (by omega)] at hwK hwH
  (try simp only [brK_e, gdK_e, skK_e, gdA_e, skA_e, pkK_e]); simp (maxSteps := 10000000) (disch := omega) only [e, List.length_map, h0, hwK, hwH, go_sem, ↓reduceIte, Nat.reduceEqDiff, Nat.reduceSub, Nat.reduceLeDiff, Nat.reduceAdd, Int.reduceEq, Int.reduceLT, Int.reduceLE]
  refine loop_ok mixed (stMeets A K H) (fun k => k ≤ A.length) (fun k => A.length - k) 0 (Nat.zero_le _) (weak_mk ?_ ?_) fun k hk => ?_
  · (try simp only [brK_e, gdK_e, skK_e, gdA_e, skA_e, pkK_e]); simp (maxSteps := 10000000) (disch := omega) only [List.length_map, go_sem, ↓reduceIte, Nat.reduceEqDiff, Nat.reduceSub, Nat.reduceLeDiff, Nat.reduceAdd, Int.reduceEq, Int.reduceLT, Int.reduceLE]
    exact ⟨imp_nilF, imp_nilF, imp_nilF, imp_nilF⟩
  · (try simp only [brK_e, gdK_e, skK_e, gdA_e, skA_e, pkK_e]); simp (maxSteps := 10000000) (disch := omega) only [go_sem, ↓reduceIte, Nat.reduceEqDiff, Nat.reduceSub, Nat.reduceLeDiff, Nat.reduceAdd, Int.reduceEq, Int.reduceLT, Int.reduceLE]
  have hbare : ∀ a ∈ A, bareE a.ent = a.ent := fun a hm => by
    obtain ⟨i, hi⟩ := List.mem_iff_getElem?.1 hm
    have hg := (hF.2 i a hi).1.2
    have : a.ent.gone = fun _ => 0 := tidy_ext (hT a hm) (fun _ _ => rfl) hg
    unfold bareE; rw [← this]
  have htk : ∀ n, ∀ a ∈ A.take n, bareE a.ent = a.ent := fun n a hm => hbare a (List.mem_of_mem_take hm)
  have hbl : ∀ n, ∀ a ∈ bL A K n, bareE a.ent = a.ent := fun n a hm => by
    obtain ⟨j, hj, rfl⟩ := List.mem_map.1 hm
    have hl : (j + K) % A.length < A.length := Nat.mod_lt _ (by omega)
    unfold bAt
    rw [List.getD_eq_getElem?_getD, List.getElem?_eq_getElem (show A.length - 1 - (j + K) % A.length < A.length by omega)]
    exact hbare _ (List.getElem_mem _)
  by_cases hlt : k < A.length
  · have hx : A[k]? = some A[k] := List.getElem?_eq_getElem hlt
    have he : (A.map actE)[k]? = some (actE A[k]) := by rw [List.getElem?_map, hx]; rfl
    have ht : A.take (k + 1) = A.take k ++ [A[k]] := by rw [List.take_add_one, hx]; rfl
    have hbt := bL_succ A K k
    have hlm : (k + K) % A.length < A.length := Nat.mod_lt _ (by omega)
    have em : ((k : Int) + (K : Int)).tmod (A.length : Int) = (((k + K) % A.length : Nat) : Int) := by
      rw [Int.tmod_eq_emod_of_nonneg (by omega), ← Int.natCast_add, ← Int.natCast_emod]
    have hbx : (A.map actE)[A.length - 1 - (k + K) % A.length]? = some (actE (bAt A K k)) := by
      unfold bAt
      rw [List.getElem?_map, List.getD_eq_getElem?_getD, List.getElem?_eq_getElem (show A.length - 1 - (k + K) % A.length < A.length by omega)]; rfl
    have ei : ((A.length : Int) - 1 - (((k + K) % A.length : Nat) : Int)).toNat = A.length - 1 - (k + K) % A.length := by omega
    have s1 := doAll_sort (A.take k) (htk k)
    have s2 := doAll_sort (bL A K k) (hbl k)
    have s3 := doAll_sort ((A.take k).take (H + 1)) fun a hm => htk k a (List.mem_of_mem_take hm)
    have s4 := doAll_sort ((A.take k).drop (H + 1)) fun a hm => htk k a (List.mem_of_mem_drop hm)
    have l1 := doAll_len _ (A.take k) rfl
    have l2 := doAll_len _ (bL A K k) rfl
    have l3 := doAll_len _ ((A.take k).take (H + 1)) rfl
    have l4 := doAll_len _ ((A.take k).drop (H + 1)) rfl
    rw [bL_len] at l2
    simp only [List.length_take, List.length_drop] at l1 l3 l4
    have hlk : (A.take k).length = k := by simp; omega
    have c1 : k ≤ H → (A.take (k + 1)).take (H + 1) = (A.take k).take (H + 1) ++ [A[k]] ∧ (A.take (k + 1)).drop (H + 1) = (A.take k).drop (H + 1) := fun h => by
      rw [ht]
      refine ⟨?_, ?_⟩
      · rw [List.take_of_length_le (show (A.take k ++ [A[k]]).length ≤ H + 1 by rw [List.length_append, hlk, List.length_singleton]; omega), List.take_of_length_le (show (A.take k).length ≤ H + 1 by omega)]
      · rw [List.drop_of_length_le (show (A.take k ++ [A[k]]).length ≤ H + 1 by rw [List.length_append, hlk, List.length_singleton]; omega), List.drop_of_length_le (show (A.take k).length ≤ H + 1 by omega)]
    have c2 : ¬ k ≤ H → (A.take (k + 1)).take (H + 1) = (A.take k).take (H + 1) ∧ (A.take (k + 1)).drop (H + 1) = (A.take k).drop (H + 1) ++ [A[k]] := fun h => by
      rw [ht]
      exact ⟨List.take_append_of_le_length (by omega), List.drop_append_of_le_length (by omega)⟩
    generalize hy : bAt A K k = y at *
    generalize A[k] = x at *
    generalize (k + K) % A.length = m at *
    have hcx := actE_len x
    (try simp only [brK_e, gdK_e, skK_e, gdA_e, skA_e, pkK_e]); simp (maxSteps := 10000000) (disch := omega) only [stMeets, List.length_map, he, ld_act, hcx, go_sem, ↓reduceIte, Nat.reduceEqDiff, Nat.reduceSub, Nat.reduceLeDiff, Nat.reduceAdd, Int.reduceEq, Int.reduceLT, Int.reduceLE]
    refine call_with (okDo (l := doAll (A.take k)) x rfl rfl s1 (by omega)) ?_
    (try simp only [brK_e, gdK_e, skK_e, gdA_e, skA_e, pkK_e]); simp (maxSteps := 10000000) (disch := omega) only [List.length_map, em, ei, hbx, ld_act, go_sem, ↓reduceIte, Nat.reduceEqDiff, Nat.reduceSub, Nat.reduceLeDiff, Nat.reduceAdd, Int.reduceEq, Int.reduceLT, Int.reduceLE]
    refine call_with (okDo (l := doAll (bL A K k)) y rfl rfl s2 (by omega)) ?_
    have t1 : doAll (A.take (k + 1)) = doL (doAll (A.take k)) x := by rw [ht, doAll_snoc]
    have t2 : doAll (bL A K (k + 1)) = doL (doAll (bL A K k)) y := by rw [hbt, doAll_snoc]
    by_cases hh : k ≤ H
    · obtain ⟨c3, c4⟩ := c1 hh
      have t3 : doAll ((A.take (k + 1)).take (H + 1)) = doL (doAll ((A.take k).take (H + 1))) x := by rw [c3, doAll_snoc]
      have hh' : ((k : Int) ≤ (H : Int)) := by omega
      (try simp only [brK_e, gdK_e, skK_e, gdA_e, skA_e, pkK_e]); simp (maxSteps := 10000000) (disch := omega) only [hh', ld_act, go_sem, ↓reduceIte, Nat.reduceEqDiff, Nat.reduceSub, Nat.reduceLeDiff, Nat.reduceAdd, Int.reduceEq, Int.reduceLT, Int.reduceLE]
      refine call_with (okDo (l := doAll ((A.take k).take (H + 1))) x rfl rfl s3 (by omega)) ?_
      (try simp only [brK_e, gdK_e, skK_e, gdA_e, skA_e, pkK_e]); simp (maxSteps := 10000000) (disch := omega) only [go_sem, ↓reduceIte, Nat.reduceEqDiff, Nat.reduceSub, Nat.reduceLeDiff, Nat.reduceAdd, Int.reduceEq, Int.reduceLT, Int.reduceLE]
      refine ⟨k + 1, by omega, by omega, wk_frz 52 rfl (wk_frz 67 rfl (wk_frz 73 rfl (weak_mk ?_ ?_)))⟩
      · (try simp only [brK_e, gdK_e, skK_e, gdA_e, skA_e, pkK_e]); simp (maxSteps := 10000000) (disch := omega) only [List.length_map, t1, t2, t3, c4, go_sem, ↓reduceIte, Nat.reduceEqDiff, Nat.reduceSub, Nat.reduceLeDiff, Nat.reduceAdd, Int.reduceEq, Int.reduceLT, Int.reduceLE]
      · (try simp only [brK_e, gdK_e, skK_e, gdA_e, skA_e, pkK_e]); simp (maxSteps := 10000000) (disch := omega) only [go_sem, ↓reduceIte, Nat.reduceEqDiff, Nat.reduceSub, Nat.reduceLeDiff, Nat.reduceAdd, Int.reduceEq, Int.reduceLT, Int.reduceLE]
    · obtain ⟨c3, c4⟩ := c2 hh
      have t4 : doAll ((A.take (k + 1)).drop (H + 1)) = doL (doAll ((A.take k).drop (H + 1))) x := by rw [c4, doAll_snoc]
      have hh' : ¬ ((k : Int) ≤ (H : Int)) := by omega
      (try simp only [brK_e, gdK_e, skK_e, gdA_e, skA_e, pkK_e]); simp (maxSteps := 10000000) (disch := omega) only [hh', ld_act, go_sem, ↓reduceIte, Nat.reduceEqDiff, Nat.reduceSub, Nat.reduceLeDiff, Nat.reduceAdd, Int.reduceEq, Int.reduceLT, Int.reduceLE]
      refine call_with (okDo (l := doAll ((A.take k).drop (H + 1))) x rfl rfl s4 (by omega)) ?_
      (try simp only [brK_e, gdK_e, skK_e, gdA_e, skA_e, pkK_e]); simp (maxSteps := 10000000) (disch := omega) only [go_sem, ↓reduceIte, Nat.reduceEqDiff, Nat.reduceSub, Nat.reduceLeDiff, Nat.reduceAdd, Int.reduceEq, Int.reduceLT, Int.reduceLE]
      refine ⟨k + 1, by omega, by omega, wk_frz 52 rfl (wk_frz 67 rfl (wk_frz 76 rfl (weak_mk ?_ ?_)))⟩
      · (try simp only [brK_e, gdK_e, skK_e, gdA_e, skA_e, pkK_e]); simp (maxSteps := 10000000) (disch := omega) only [List.length_map, t1, t2, t4, c3, go_sem, ↓reduceIte, Nat.reduceEqDiff, Nat.reduceSub, Nat.reduceLeDiff, Nat.reduceAdd, Int.reduceEq, Int.reduceLT, Int.reduceLE]
      · (try simp only [brK_e, gdK_e, skK_e, gdA_e, skA_e, pkK_e]); simp (maxSteps := 10000000) (disch := omega) only [go_sem, ↓reduceIte, Nat.reduceEqDiff, Nat.reduceSub, Nat.reduceLeDiff, Nat.reduceAdd, Int.reduceEq, Int.reduceLT, Int.reduceLE]
  · obtain rfl : k = A.length := by omega
    have eT : A.take A.length = A := List.take_length
    have rA := doAll_rep A hbare
    have rB := doAll_rep (bL A K A.length) (hbl _)
    have rC := doAll_rep (A.take (H + 1)) fun a hm => hbare a (List.mem_of_mem_take hm)
    have rD := doAll_rep (A.drop (H + 1)) fun a hm => hbare a (List.mem_of_mem_drop hm)
    have hf : ∀ a b, a ∈ A → b ∈ A → a.ent.id = b.ent.id → a.ent = b.ent := fun a b hma hmb e => by
      obtain ⟨i, hi⟩ := List.mem_iff_getElem?.1 hma
      obtain ⟨j, hj⟩ := List.mem_iff_getElem?.1 hmb
      have go : ∀ {i j : Nat} {a b : Act}, A[i]? = some a → A[j]? = some b → j < i → a ∈ A → b ∈ A → b.ent.id = a.ent.id → b.ent = a.ent := fun {i j a b} hi hj hji ma mb e =>
        entE_inj (hT b mb) (hT a ma) ((hF.2 i a hi).2 j b hj hji e)
      rcases Nat.lt_trichotomy i j with h | h | h
      · exact go hj hi h hmb hma e
      · subst h; rw [hi] at hj; cases hj; rfl
      · exact (go hi hj h hma hmb e.symm).symm
    have mCD : ∀ a, a ∈ A ↔ a ∈ A.take (H + 1) ++ A.drop (H + 1) := fun a => by rw [List.take_append_drop]
    have mDC : ∀ a, a ∈ A ↔ a ∈ A.drop (H + 1) ++ A.take (H + 1) := fun a => by rw [mCD a, List.mem_append, List.mem_append]; exact or_comm
    have mEC : ∀ a, a ∈ A ↔ a ∈ (A.take (H + 1) ++ A.drop (H + 1)) ++ A.take (H + 1) := fun a => by
      rw [List.mem_append, ← mCD a]; exact ⟨.inl, fun h => h.elim id List.mem_of_mem_take⟩
    have E1 : doAll A = doAll (bL A K A.length) := rA.eq rB (bL_mem hK) hf
    have E2 : doAll A = joinL (doAll (A.take (H + 1))) (doAll (A.drop (H + 1))) := rA.eq (rC.join rD) mCD hf
    have E3 : doAll A = joinL (doAll (A.drop (H + 1))) (doAll (A.take (H + 1))) := rA.eq (rD.join rC) mDC hf
    have E4 : doAll A = joinL (joinL (doAll (A.take (H + 1))) (doAll (A.drop (H + 1)))) (doAll (A.take (H + 1))) := rA.eq ((rC.join rD).join rC) mEC hf
    have l1 := doAll_len _ A rfl
    have l3 := doAll_len _ (A.take (H + 1)) rfl
    have l4 := doAll_len _ (A.drop (H + 1)) rfl
    simp only [List.length_take, List.length_drop] at l3 l4
    have l5 := len_join (doAll (A.drop (H + 1))) (doAll (A.take (H + 1)))
    have hfine := fineEB_t (sort_fineE rA.1)
    (try simp only [brK_e, gdK_e, skK_e, gdA_e, skA_e, pkK_e]); simp (maxSteps := 10000000) (disch := omega) only [stMeets, List.length_map, eT, go_sem, ↓reduceIte, Nat.reduceEqDiff, Nat.reduceSub, Nat.reduceLeDiff, Nat.reduceAdd, Int.reduceEq, Int.reduceLT, Int.reduceLE]
    refine call_with (okJoinE (l := doAll (A.take (H + 1))) (m := doAll (A.drop (H + 1))) rfl rfl rC.1 (by omega) (by omega)) ?_
    (try simp only [brK_e, gdK_e, skK_e, gdA_e, skA_e, pkK_e]); simp (maxSteps := 10000000) (disch := omega) only [go_sem, ↓reduceIte, Nat.reduceEqDiff, Nat.reduceSub, Nat.reduceLeDiff, Nat.reduceAdd, Int.reduceEq, Int.reduceLT, Int.reduceLE]
    refine call_with (okSameEn (l := doAll A) (m := doAll (bL A K A.length)) rfl rfl E1 (by omega)) ?_
    (try simp only [brK_e, gdK_e, skK_e, gdA_e, skA_e, pkK_e]); simp (maxSteps := 10000000) (disch := omega) only [go_sem, ↓reduceIte, Nat.reduceEqDiff, Nat.reduceSub, Nat.reduceLeDiff, Nat.reduceAdd, Int.reduceEq, Int.reduceLT, Int.reduceLE]
    refine call_with (okSameEn (l := doAll A) (m := joinL (doAll (A.take (H + 1))) (doAll (A.drop (H + 1)))) rfl rfl E2 (by omega)) ?_
    (try simp only [brK_e, gdK_e, skK_e, gdA_e, skA_e, pkK_e]); simp (maxSteps := 10000000) (disch := omega) only [go_sem, ↓reduceIte, Nat.reduceEqDiff, Nat.reduceSub, Nat.reduceLeDiff, Nat.reduceAdd, Int.reduceEq, Int.reduceLT, Int.reduceLE]
    refine call_with (okJoinE (l := doAll (A.drop (H + 1))) (m := doAll (A.take (H + 1))) rfl rfl rD.1 (by omega) (by omega)) ?_
    (try simp only [brK_e, gdK_e, skK_e, gdA_e, skA_e, pkK_e]); simp (maxSteps := 10000000) (disch := omega) only [go_sem, ↓reduceIte, Nat.reduceEqDiff, Nat.reduceSub, Nat.reduceLeDiff, Nat.reduceAdd, Int.reduceEq, Int.reduceLT, Int.reduceLE]
    refine call_with (okSameEn (l := doAll A) (m := joinL (doAll (A.drop (H + 1))) (doAll (A.take (H + 1)))) rfl rfl E3 (by omega)) ?_
    (try simp only [brK_e, gdK_e, skK_e, gdA_e, skA_e, pkK_e]); simp (maxSteps := 10000000) (disch := omega) only [go_sem, ↓reduceIte, Nat.reduceEqDiff, Nat.reduceSub, Nat.reduceLeDiff, Nat.reduceAdd, Int.reduceEq, Int.reduceLT, Int.reduceLE]
    refine call_with (okJoinE (l := joinL (doAll (A.take (H + 1))) (doAll (A.drop (H + 1)))) (m := doAll (A.take (H + 1))) rfl rfl (rC.join rD).1 (by omega) (by omega)) ?_
    (try simp only [brK_e, gdK_e, skK_e, gdA_e, skA_e, pkK_e]); simp (maxSteps := 10000000) (disch := omega) only [go_sem, ↓reduceIte, Nat.reduceEqDiff, Nat.reduceSub, Nat.reduceLeDiff, Nat.reduceAdd, Int.reduceEq, Int.reduceLT, Int.reduceLE]
    refine call_with (okSameEn (l := doAll A) (m := joinL (joinL (doAll (A.take (H + 1))) (doAll (A.drop (H + 1)))) (doAll (A.take (H + 1)))) rfl rfl E4 (by omega)) ?_
    (try simp only [brK_e, gdK_e, skK_e, gdA_e, skA_e, pkK_e]); simp (maxSteps := 10000000) (disch := omega) only [go_sem, ↓reduceIte, Nat.reduceEqDiff, Nat.reduceSub, Nat.reduceLeDiff, Nat.reduceAdd, Int.reduceEq, Int.reduceLT, Int.reduceLE]
    refine call_with (okFineE (l := doAll A) rfl rfl (by omega)) ?_
    (try simp only [brK_e, gdK_e, skK_e, gdA_e, skA_e, pkK_e]); simp (maxSteps := 10000000) (disch := omega) only [hfine, go_sem, ↓reduceIte, Nat.reduceEqDiff, Nat.reduceSub, Nat.reduceLeDiff, Nat.reduceAdd, Int.reduceEq, Int.reduceLT, Int.reduceLE]
    refine ⟨_, .same _, ?_⟩
    (try simp only [brK_e, gdK_e, skK_e, gdA_e, skA_e, pkK_e]); simp (maxSteps := 10000000) (disch := omega) only [go_sem, ↓reduceIte, Nat.reduceEqDiff, Nat.reduceSub, Nat.reduceLeDiff, Nat.reduceAdd, Int.reduceEq, Int.reduceLT, Int.reduceLE]
abbrev shAct : Sh := .st [shEnt, .bool, shId]
theorem GC_act {cs : List PV} (h : GC shAct cs) : ∃ a : Act, cs = actE a ∧ tidyV a.ent.gone := by
  simp only [GC, GCL] at h
  obtain ⟨c1, r1, rfl, g1, c2, r2, rfl, ⟨b, rfl⟩, c3, r3, rfl, g3, rfl⟩ := h
  obtain ⟨x, rfl, hx, _⟩ := GC_ent (by simpa only [GC, GCL] using g1)
  obtain ⟨i, rfl, _⟩ := GC_id (by simpa only [GC, GCL] using g3)
  exact ⟨⟨x, b, i⟩, by simp [actE, idE], hx⟩
theorem holdsEntryMeets {c0 c1 c2 : List PV} (g0 : GC (.sl shAct) c0) (g1 : GC (.int .i64) c1) (g2 : GC (.int .i64) c2) {h d} :
    FunOk Tryd.prog 7 [toSV (.sl shAct) c0, toSV (.int .i64) c1, toSV (.int .i64) c2] h d (.pv (.b true)) [] := by
  obtain ⟨es, rfl, h1, g0⟩ := GC_sl g0
  obtain ⟨l, rfl, hl⟩ := els_of (f := actE) GC_act g0
  obtain ⟨n, rfl, hn⟩ := GC_i64 g1
  obtain ⟨m, rfl, hm⟩ := GC_i64 g2
  exact lawEntryMeets l n m fun a ha => hl a ha
end Go.Proofs.YthleeikkpjiicaaDoor.Fw
