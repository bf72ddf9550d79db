/- What the functions that the law BagPlays reaches compute. -/
import Derived.Test.YtfkmlmckihmihaaIr
import Derived.OpenShut
import Derived.ShutString
import Derived.ChangeOld
import Derived.SizedLaws
import Derived.ChangeOld
import Derived.Lib.Bytealg
import Derived.OpenShut
import Derived.ShutString
import Derived.SizedLaws
set_option linter.unusedVariables false
set_option linter.unusedSimpArgs false
set_option linter.unusedSectionVars false
set_option maxRecDepth 100000
namespace Go.Proofs.Ytfkmlmckihmihaa.Fw
open Go.RowKit Go.Proofs
end Go.Proofs.Ytfkmlmckihmihaa.Fw
namespace Go.Proofs.Ytfkmlmckihmihaa.Fw
open Go.RowKit
noncomputable abbrev allOf (w : World) : View := viewOf w fun _ => False
theorem cell_view {w : World} {a : Addr} {v : Value} (h : w.cell? a = some v) : a.spot = none ∧ ∃ arr, allOf w a.block = some arr ∧ arr[a.off]? = some v := by
 unfold World.cell? at h
 split at h
 · rename_i c ty fr hb
   split at h
   · cases h
   · rename_i hs
     refine ⟨by cases hx : a.spot <;> simp_all, c, ?_, h⟩
     unfold allOf viewOf cellsAt
     simp [hb]
 · cases h
inductive Sh where
 | int (k : IntKind) | bool | str | arr (n : Nat) (s : Sh) | st (l : List Sh) | sl (s : Sh)
mutual
def Sh.w : Sh → Nat
 | .arr n s => n * s.w
 | .st l => Sh.wL l
 | _ => 1
def Sh.wL : List Sh → Nat
 | [] => 0
 | s :: l => s.w + Sh.wL l
end
mutual
def shB (P : Program) : Sh → TypeId → Bool
 | .int k, t => match P.underlying t with | some (.int k') => decide (k = k') | _ => false
 | .bool, t => match P.underlying t with | some .bool => true | _ => false
 | .str, t => match P.underlying t with | some .string => true | _ => false
 | .arr n s, t => match P.underlying t with | some (.array n' e) => decide (n = n') && decide (P.cellsOf e = s.w) && decide (P.cellsOf t = n * s.w) && shB P s e | _ => false
 | .st l, t => match P.underlying t with | some (.struct fs) => decide (P.cellsOf t = Sh.wL l) && shBL P l fs.toList 0 | _ => false
 | .sl s, t => match P.underlying t with | some (.slice e) => decide (P.cellsOf e = s.w) && decide (0 < s.w) && shB P s e | _ => false
def shBL (P : Program) : List Sh → List Field → Nat → Bool
 | [], [], _ => true
 | s :: l, f :: fs, off => decide (f.offset = off) && decide (P.cellsOf f.type = s.w) && shB P s f.type && shBL P l fs (off + s.w)
 | _, _, _ => false
end
mutual
def GC : Sh → List PV → Prop
 | .int k, cs => ∃ n, cs = [.i k n] ∧ (Lit.int k n).wf = true
 | .bool, cs => ∃ b, cs = [.b b]
 | .str, cs => ∃ l, cs = [.s l] ∧ l.length ≤ maxLen
 | .arr n s, cs => ∃ cc : List (List PV), cs = cc.flatten ∧ cc.length = n ∧ ∀ c ∈ cc, GC s c
 | .st l, cs => GCL l cs
 | .sl s, cs => ∃ es, cs = [.sl false s.w es] ∧ es.length ≤ maxLen ∧ ∀ c ∈ es, GC s c
def GCL : List Sh → List PV → Prop
 | [], cs => cs = []
 | s :: l, cs => ∃ c cs', cs = c ++ cs' ∧ GC s c ∧ GCL l cs'
end
theorem flat_len {w : Nat} : ∀ {cc : List (List PV)}, (∀ c ∈ cc, c.length = w) → cc.flatten.length = cc.length * w
 | [], _ => by simp
 | c :: cc, h => by
   rw [List.flatten_cons, List.length_append, flat_len fun c hc => h c (by simp [hc]), h c (by simp), List.length_cons, Nat.add_mul]; omega
mutual
theorem GC.len : ∀ {s : Sh} {cs : List PV}, GC s cs → cs.length = s.w
 | .int k, cs, h => by obtain ⟨n, rfl, _⟩ := h; rfl
 | .bool, cs, h => by obtain ⟨n, rfl⟩ := h; rfl
 | .str, cs, h => by obtain ⟨n, rfl, _⟩ := h; rfl
 | .arr n s, cs, h => by
   simp only [GC] at h
   obtain ⟨cc, rfl, rfl, h⟩ := h
   rw [flat_len fun c hc => GC.len (h c hc)]; rfl
 | .st l, cs, h => by simp only [GC] at h; simp only [Sh.w]; exact GCL.len h
 | .sl s, cs, h => by obtain ⟨n, rfl, _⟩ := h; rfl
theorem GCL.len : ∀ {l : List Sh} {cs : List PV}, GCL l cs → cs.length = Sh.wL l
 | [], cs, h => by simp only [GCL] at h; subst h; rfl
 | s :: l, cs, h => by
   simp only [GCL] at h
   obtain ⟨c, cs', rfl, h1, h2⟩ := h
   rw [List.length_append, GC.len h1, GCL.len h2]; rfl
end
theorem arr_GC {V : View} {s : Sh} : ∀ (n : Nat) (vs : List Value), vs.length = n * s.w → (∀ i, i < n → ∃ c, GC s c ∧ PCells V c ((vs.drop (i * s.w)).take s.w)) → ∃ cc : List (List PV), cc.length = n ∧ (∀ c ∈ cc, GC s c) ∧ PCells V cc.flatten vs
 | 0, vs, hl, h => by
   have : vs = [] := List.eq_nil_of_length_eq_zero (by omega)
   subst this
   exact ⟨[], rfl, by simp, PCells.nil⟩
 | n + 1, vs, hl, h => by
   rw [Nat.add_mul] at hl
   obtain ⟨c, g, p⟩ := h 0 (by omega)
   rw [Nat.zero_mul, List.drop_zero] at p
   obtain ⟨cc, e1, e2, e3⟩ := arr_GC (V := V) (s := s) n (vs.drop s.w) (by rw [List.length_drop]; omega) fun i hi => by
    obtain ⟨c', g', p'⟩ := h (i + 1) (by omega)
    refine ⟨c', g', ?_⟩
    rw [List.drop_drop, show s.w + i * s.w = (i + 1) * s.w from by rw [Nat.add_mul]; omega]
    exact p'
   refine ⟨c :: cc, by simp [e1], fun x hx => ?_, ?_⟩
   · rcases List.mem_cons.1 hx with rfl | hx
     · exact g
     · exact e2 x hx
   · rw [List.flatten_cons]
     have := PCells.append p e3
     rwa [List.take_append_drop] at this
theorem add_add {a : Addr} (h : a.spot = none) (i j : Nat) : (a.add i).add j = ⟨a.block, a.off + (i + j), none⟩ := by
 obtain ⟨b, o, sp⟩ := a
 simp only at h; subst h
 unfold Addr.add
 by_cases hi : i = 0
 · subst hi
   by_cases hj : j = 0
   · subst hj; simp
   · simp [hj]
 · by_cases hj : j = 0
   · subst hj; simp [hi]
   · simp [hi, hj]; omega
theorem slice_GC {w : World} {s : Sh} {a : Addr} {len cap : Nat} (hcap : len ≤ cap) (hw : 0 < s.w)
 (h : ∀ i, i < len → ∃ c vs, GC s c ∧ PCells (allOf w) c vs ∧ w.cells? 0 (a.add (i * s.w)) s.w = some vs) :
 ∃ es : List (List PV), es.length = len ∧ (∀ c ∈ es, GC s c) ∧ PConc (allOf w) (.sl false s.w es) (.slice (some a) len cap) := by
 by_cases h0 : len = 0
 · subst h0
   exact ⟨[], rfl, by simp, .sl false s.w [] (some a) cap (fun _ _ => undef) 0 0 #[] (by simp) (by simp) (by simp) (by simp) (by simp) (by simp)⟩
 · have h' : ∀ i, ∃ c vs, i < len → GC s c ∧ PCells (allOf w) c vs ∧ w.cells? 0 (a.add (i * s.w)) s.w = some vs := fun i => by
    by_cases hi : i < len
    · obtain ⟨c, vs, h1⟩ := h i hi; exact ⟨c, vs, fun _ => h1⟩
    · exact ⟨[], [], fun h => absurd h hi⟩
   obtain ⟨c, hc⟩ := Classical.axiomOfChoice h'
   obtain ⟨vs, hv⟩ := Classical.axiomOfChoice hc
   obtain ⟨g0, p0, k0⟩ := hv 0 (by omega)
   obtain ⟨_, l0, c0⟩ := World.cells?_some k0
   have c00 := c0 0 hw
   have hlen0 : 0 < (vs 0).length := by omega
   rw [List.getElem?_eq_getElem hlen0, Nat.zero_mul] at c00
   have e0 : (a.add 0).add 0 = a := by simp [Addr.add]
   rw [e0] at c00
   obtain ⟨hs, arr, harr, _⟩ := cell_view c00
   have hget : ∀ i j, i < len → j < s.w → arr[a.off + (i * s.w + j)]? = (vs i)[j]? := fun i j hi hj => by
    obtain ⟨_, _, k⟩ := hv i hi
    obtain ⟨_, ll, cc⟩ := World.cells?_some k
    have h1 := cc j hj
    have hlt : j < (vs i).length := by omega
    rw [List.getElem?_eq_getElem hlt, add_add hs] at h1
    obtain ⟨_, arr', ha', h2⟩ := cell_view h1
    simp only at ha' h2
    rw [harr] at ha'; cases ha'
    rw [h2, List.getElem?_eq_getElem hlt]
   have hel : ∀ i, i < len → ((List.range len).map c)[i]? = some (c i) := fun i hi => by simp [hi]
   refine ⟨(List.range len).map c, by simp, fun x hx => ?_, ?_⟩
   · obtain ⟨i, hi, rfl⟩ := List.mem_map.1 hx
     exact (hv i (by simpa using hi)).1
   · have e := PConc.sl (V := allOf w) false s.w ((List.range len).map c) (some a) cap (fun i j => (vs i).getD j undef) a.block a.off arr (by simpa using hcap) (by simp) (fun x hx => by
      obtain ⟨i, hi, rfl⟩ := List.mem_map.1 hx
      exact (hv i (by simpa using hi)).1.len) (fun _ => by
      obtain ⟨b, o, sp⟩ := a
      simp only at hs; subst hs
      exact ⟨rfl, harr⟩) (fun i j hi hj => by
      have hi' : i < len := by simpa using hi
      rw [hget i j hi' hj]
      have : j < (vs i).length := by
       obtain ⟨_, ll, _⟩ := World.cells?_some (hv i hi').2.2; omega
      simp [List.getD_eq_getElem?_getD, this]) (fun i j x y hx hy => by
      have hi' : i < len := by
       have := (List.getElem?_eq_some_iff.1 hx).1; simpa using this
      rw [hel i hi'] at hx; cases hx
      obtain ⟨v, hv1, hv2⟩ := (hv i hi').2.1.2 j y hy
      simp only [List.getD_eq_getElem?_getD, hv1, Option.getD_some]; exact hv2)
     simpa using e
section
variable {H : Type} {enc : TypeId × Value → H} {P : Program} {w : World} {spare : Nat → Bool} {held : Bool}
mutual
theorem trod_GC : ∀ (s : Sh) {t : TypeId} {fuel : Nat} {vs : List Value} {x}, shB P s t = true → DataW.trod enc P w 0 spare held fuel t vs = some x → ∃ cs, GC s cs ∧ PCells (allOf w) cs vs
 | .int k, t, fuel, vs, x, hs, h => by
   simp only [shB] at hs
   split at hs
   · rename_i k' hu
     obtain rfl := of_decide_eq_true hs
     obtain ⟨n, rfl, _, hw⟩ := DataW.trod_int hu h
     exact ⟨[.i k n], ⟨n, rfl, hw⟩, PCells.cons (.i _ _) PCells.nil⟩
   · cases hs
 | .bool, t, fuel, vs, x, hs, h => by
   simp only [shB] at hs
   split at hs
   · rename_i hu
     obtain ⟨n, rfl, _⟩ := DataW.trod_bool hu h
     exact ⟨[.b n], ⟨n, rfl⟩, PCells.cons (.b _) PCells.nil⟩
   · cases hs
 | .str, t, fuel, vs, x, hs, h => by
   simp only [shB] at hs
   split at hs
   · rename_i hu
     obtain ⟨b, rfl, _, hl⟩ := DataW.trod_string hu h
     refine ⟨[.s b.data.toList], ⟨b.data.toList, rfl, by simpa using hl⟩, PCells.cons ?_ PCells.nil⟩
     have := PConc.s (V := allOf w) b.data.toList
     simpa using this
   · cases hs
 | .arr n s, t, fuel, vs, x, hs, h => by
   simp only [shB] at hs
   split at hs
   · rename_i n' e hu
     simp only [Bool.and_eq_true, decide_eq_true_eq] at hs
     obtain ⟨⟨⟨rfl, h1⟩, h2⟩, h3⟩ := hs
     obtain ⟨xs, m, rfl, _, hl, hx, hg⟩ := DataW.trod_array hu h
     rw [h1] at hg
     obtain ⟨cc, e1, e2, e3⟩ := arr_GC (V := allOf w) (s := s) n vs (by rw [hl, h2]) fun i hi => by
      have := hg i hi
      rw [List.getElem?_eq_getElem (by omega)] at this
      exact trod_GC s h3 this
     exact ⟨cc.flatten, by simp only [GC]; exact ⟨cc, rfl, e1, e2⟩, e3⟩
   · cases hs
 | .st l, t, fuel, vs, x, hs, h => by
   simp only [shB] at hs
   split at hs
   · rename_i fs hu
     simp only [Bool.and_eq_true, decide_eq_true_eq] at hs
     obtain ⟨h2, h3⟩ := hs
     obtain ⟨xs, m, rfl, _, hl, hx, hg⟩ := DataW.trod_struct hu h
     obtain ⟨cs, e1, e2⟩ := trod_GCL l (off := 0) (vs := vs) h3 fun f hf => by
      obtain ⟨i, hi⟩ := List.mem_iff_getElem?.1 hf
      have hi2 : fs[i]? = some f := by simpa using hi
      have := hg i f hi2
      have hlt := (Array.getElem?_eq_some_iff.1 hi2).1
      rw [List.getElem?_eq_getElem (by omega)] at this
      exact ⟨_, _, this⟩
     rw [List.drop_zero, ← h2, ← hl, List.take_length] at e2
     exact ⟨cs, by simp only [GC]; exact e1, e2⟩
   · cases hs
 | .sl s, t, fuel, vs, x, hs, h => by
   simp only [shB] at hs
   split at hs
   · rename_i e hu
     simp only [Bool.and_eq_true, decide_eq_true_eq] at hs
     obtain ⟨⟨h1, h2⟩, h3⟩ := hs
     rcases DataW.trod_slice hu h with ⟨rfl, _⟩ | ⟨a, len, cap, elems, rest, n, rfl, rfl, _, _, hl, hm, hle, hg, _⟩
     · exact ⟨[.sl false s.w []], by simp only [GC]; exact ⟨[], rfl, by simp, by simp⟩, PCells.cons (.sl false s.w [] none 0 (fun _ _ => undef) 0 0 #[] (by simp) (by simp) (by simp) (by simp) (by simp) (by simp)) PCells.nil⟩
     · rw [h1] at hg
       obtain ⟨es, e1, e2, e3⟩ := slice_GC (w := w) (s := s) (a := a) hl h2 fun i hi => by
        have h4 := hg i hi
        rw [List.getElem?_eq_getElem (by omega)] at h4
        obtain ⟨vs, h5, h6⟩ := Option.bind_eq_some_iff.1 h4
        obtain ⟨c, g, p⟩ := trod_GC s h3 h6
        exact ⟨c, vs, g, p, h5⟩
       exact ⟨[.sl false s.w es], by simp only [GC]; exact ⟨es, rfl, by omega, e2⟩, PCells.cons e3 PCells.nil⟩
   · cases hs
theorem trod_GCL : ∀ (l : List Sh) {fs : List Field} {off : Nat} {vs : List Value}, shBL P l fs off = true →
 (∀ f ∈ fs, ∃ n x, DataW.trod enc P w 0 spare held n f.type ((vs.drop f.offset).take (P.cellsOf f.type)) = some x) → ∃ cs, GCL l cs ∧ PCells (allOf w) cs ((vs.drop off).take (Sh.wL l))
 | [], fs, off, vs, hs, h => ⟨[], by simp only [GCL], by simp only [Sh.wL, List.take_zero]; exact PCells.nil⟩
 | s :: l, [], off, vs, hs, h => by simp [shBL] at hs
 | s :: l, f :: fs, off, vs, hs, h => by
   simp only [shBL, Bool.and_eq_true, decide_eq_true_eq] at hs
   obtain ⟨⟨⟨h1, h2⟩, h3⟩, h4⟩ := hs
   obtain ⟨n, x, hx⟩ := h f (by simp)
   obtain ⟨c, g, p⟩ := trod_GC s h3 hx
   obtain ⟨cs, gl, pl⟩ := trod_GCL l (vs := vs) h4 fun f hf => h f (by simp [hf])
   refine ⟨c ++ cs, by simp only [GCL]; exact ⟨c, cs, rfl, g, gl⟩, ?_⟩
   rw [h1, h2] at p
   have := PCells.append p pl
   have e : (vs.drop off).take (Sh.wL (s :: l)) = (vs.drop off).take s.w ++ (vs.drop (off + s.w)).take (Sh.wL l) := by
    simp only [Sh.wL]
    rw [List.take_add, List.drop_drop]
   rw [e]; exact this
end
end
mutual
def toSV : Sh → List PV → SV
 | .arr n s, cs => .vec (n * s.w) cs
 | .st l, cs => .agg (toSegs l cs)
 | _, cs => .pv (cs.headD (.b false))
def toSegs : List Sh → List PV → List SV
 | [], _ => []
 | s :: l, cs => (toSV s (cs.take s.w)).segs ++ toSegs l (cs.drop s.w)
end
def Sh.isAg : Sh → Bool
 | .arr _ _ => true
 | .st _ => true
 | _ => false
theorem cells_append {V : View} {ρ : Nat → Value} : ∀ {l m : List SV} {a b : List Value}, Cells V ρ l a → Cells V ρ m b → Cells V ρ (l ++ m) (a ++ b)
 | [], m, a, b, h1, h2 => by simp only [Cells] at h1; subst h1; exact h2
 | x :: l, m, a, b, h1, h2 => by
   simp only [Cells, List.cons_append] at h1 ⊢
   obtain ⟨u, us, rfl, c, d, e, f⟩ := h1
   exact ⟨u, us ++ b, by simp, c, d, e, cells_append f h2⟩
mutual
theorem conc_toSV {V : View} {ρ : Nat → Value} : ∀ (s : Sh) {cs : List PV} {v : Value}, GC s cs → PCells V cs (flatV v) → (s.isAg = true → ∃ vs, v = .agg ⟨vs⟩) → (s.isAg = false → ∀ vs, v ≠ .agg vs) → Conc V ρ (toSV s cs) v
 | .int k, cs, v, g, p, _, h => by
   obtain ⟨n, rfl, _⟩ := g
   have e : flatV v = [v] := by cases v <;> first | rfl | exact absurd rfl (h rfl _)
   rw [e] at p
   obtain ⟨v', h1, h2⟩ := p.2 0 _ rfl
   simp at h1; subst h1
   simp only [toSV, Conc, List.headD_cons]; exact h2
 | .bool, cs, v, g, p, _, h => by
   obtain ⟨n, rfl⟩ := g
   have e : flatV v = [v] := by cases v <;> first | rfl | exact absurd rfl (h rfl _)
   rw [e] at p
   obtain ⟨v', h1, h2⟩ := p.2 0 _ rfl
   simp at h1; subst h1
   simp only [toSV, Conc, List.headD_cons]; exact h2
 | .str, cs, v, g, p, _, h => by
   obtain ⟨n, rfl, _⟩ := g
   have e : flatV v = [v] := by cases v <;> first | rfl | exact absurd rfl (h rfl _)
   rw [e] at p
   obtain ⟨v', h1, h2⟩ := p.2 0 _ rfl
   simp at h1; subst h1
   simp only [toSV, Conc, List.headD_cons]; exact h2
 | .sl s, cs, v, g, p, _, h => by
   simp only [GC] at g
   obtain ⟨n, rfl, _⟩ := g
   have e : flatV v = [v] := by cases v <;> first | rfl | exact absurd rfl (h rfl _)
   rw [e] at p
   obtain ⟨v', h1, h2⟩ := p.2 0 _ rfl
   simp at h1; subst h1
   simp only [toSV, Conc, List.headD_cons]; exact h2
 | .arr n s, cs, v, g, p, h, _ => by
   obtain ⟨vs, rfl⟩ := h rfl
   have hl := g.len
   simp only [toSV, Conc]
   refine ⟨vs, rfl, ?_, p⟩
   have e1 : vs.length = cs.length := p.1.symm
   rw [e1, hl]; rfl
 | .st l, cs, v, g, p, h, _ => by
   obtain ⟨vs, rfl⟩ := h rfl
   simp only [GC] at g
   simp only [toSV, Conc]
   exact ⟨vs, rfl, conc_toSegs l g p⟩
theorem conc_toSegs {V : View} {ρ : Nat → Value} : ∀ (l : List Sh) {cs : List PV} {vs : List Value}, GCL l cs → PCells V cs vs → Cells V ρ (toSegs l cs) vs
 | [], cs, vs, g, p => by
   simp only [GCL] at g; subst g
   have : vs = [] := List.eq_nil_of_length_eq_zero (by rw [← p.1]; rfl)
   subst this
   simp only [toSegs, Cells]
 | s :: l, cs, vs, g, p => by
   simp only [GCL] at g
   obtain ⟨c, cs', rfl, g1, g2⟩ := g
   have hl := g1.len
   have p1 : PCells V c (vs.take c.length) := by
    have := p.split c.length |>.1
    simpa using this
   have p2 : PCells V cs' (vs.drop c.length) := by
    have := p.split c.length |>.2
    simpa using this
   have hvs : vs = vs.take c.length ++ vs.drop c.length := (List.take_append_drop _ _).symm
   have hlen : (vs.take c.length).length = s.w := by rw [← p1.1, hl]
   simp only [toSegs]
   rw [List.take_left' hl, List.drop_left' hl]
   rw [hvs]
   refine cells_append ?_ (conc_toSegs l g2 p2)
   cases s with
   | st m =>
     simp only [GC] at g1
     simp only [toSV, SV.segs]
     exact conc_toSegs m g1 p1
   | arr n s' =>
     have := conc_toSV (V := V) (ρ := ρ) (.arr n s') (v := .agg ⟨vs.take c.length⟩) g1 (by simpa [flatV] using p1) (fun _ => ⟨_, rfl⟩) (by simp [Sh.isAg])
     simp only [toSV] at this ⊢
     simp only [SV.segs, Cells]
     exact ⟨_, [], by simp [flatV], this, by simpa [flatV, SV.width, Sh.w] using hlen, fun v hv => p1.one v (by simpa [flatV] using hv), rfl⟩
   | int k =>
     obtain ⟨n, rfl, _⟩ := g1
     obtain ⟨v, h1, h2⟩ := p1.2 0 _ rfl
     have e : vs.take [PV.i k n].length = [v] := by
      match hx : vs.take [PV.i k n].length, h1, hlen with
      | [u], h1, _ => simp at h1; rw [h1]
     have ho := h2.one
     have fv : flatV v = [v] := by cases v <;> first | rfl | exact absurd ho (by simp [oneCell])
     rw [e]
     simp only [toSV, SV.segs, Cells, Conc, List.headD_cons]
     exact ⟨v, [], by rw [fv]; rfl, h2, by rw [fv]; rfl, by rw [fv]; simpa using ho, rfl⟩
   | bool =>
     obtain ⟨n, rfl⟩ := g1
     obtain ⟨v, h1, h2⟩ := p1.2 0 _ rfl
     have e : vs.take [PV.b n].length = [v] := by
      match hx : vs.take [PV.b n].length, h1, hlen with
      | [u], h1, _ => simp at h1; rw [h1]
     have ho := h2.one
     have fv : flatV v = [v] := by cases v <;> first | rfl | exact absurd ho (by simp [oneCell])
     rw [e]
     simp only [toSV, SV.segs, Cells, Conc, List.headD_cons]
     exact ⟨v, [], by rw [fv]; rfl, h2, by rw [fv]; rfl, by rw [fv]; simpa using ho, rfl⟩
   | str =>
     obtain ⟨n, rfl, _⟩ := g1
     obtain ⟨v, h1, h2⟩ := p1.2 0 _ rfl
     have e : vs.take [PV.s n].length = [v] := by
      match hx : vs.take [PV.s n].length, h1, hlen with
      | [u], h1, _ => simp at h1; rw [h1]
     have ho := h2.one
     have fv : flatV v = [v] := by cases v <;> first | rfl | exact absurd ho (by simp [oneCell])
     rw [e]
     simp only [toSV, SV.segs, Cells, Conc, List.headD_cons]
     exact ⟨v, [], by rw [fv]; rfl, h2, by rw [fv]; rfl, by rw [fv]; simpa using ho, rfl⟩
   | sl s' =>
     simp only [GC] at g1
     obtain ⟨n, rfl, _⟩ := g1
     obtain ⟨v, h1, h2⟩ := p1.2 0 _ rfl
     have e : vs.take [PV.sl false s'.w n].length = [v] := by
      match hx : vs.take [PV.sl false s'.w n].length, h1, hlen with
      | [u], h1, _ => simp at h1; rw [h1]
     have ho := h2.one
     have fv : flatV v = [v] := by cases v <;> first | rfl | exact absurd ho (by simp [oneCell])
     rw [e]
     simp only [toSV, SV.segs, Cells, Conc, List.headD_cons]
     exact ⟨v, [], by rw [fv]; rfl, h2, by rw [fv]; rfl, by rw [fv]; simpa using ho, rfl⟩
end
mutual
theorem toSV_closed : ∀ (s : Sh) (cs : List PV), (toSV s cs).closed = true
 | .int k, cs => rfl
 | .bool, cs => rfl
 | .str, cs => rfl
 | .sl s, cs => rfl
 | .arr n s, cs => rfl
 | .st l, cs => by simp only [toSV, SV.closed]; exact toSegs_closed l cs
theorem toSegs_closed : ∀ (l : List Sh) (cs : List PV), SV.closedL (toSegs l cs) = true
 | [], cs => rfl
 | s :: l, cs => by
   simp only [toSegs]
   have h2 := toSegs_closed l (cs.drop s.w)
   have app : ∀ (a b : List SV), SV.closedL a = true → SV.closedL b = true → SV.closedL (a ++ b) = true := fun a b ha hb => by
    induction a with
    | nil => exact hb
    | cons x a ih => simp only [SV.closedL, Bool.and_eq_true, List.cons_append] at ha ⊢; exact ⟨ha.1, ih ha.2⟩
   refine app _ _ ?_ h2
   cases s with
   | st m => simp only [toSV, SV.segs]; exact toSegs_closed m _
   | int k => rfl
   | bool => rfl
   | str => rfl
   | sl s => rfl
   | arr n s => rfl
end
theorem okWide_ag {P : Program} {w : World} {base : Nat} {t : TypeId} {v : Value} : ∀ {s : Sh}, shB P s t = true → Value.okWide P w .any base t v → (s.isAg = true → ∃ vs, v = .agg ⟨vs⟩) ∧ (s.isAg = false → ∀ vs, v ≠ .agg vs)
 | .int k, hs, h => by
   simp only [shB] at hs
   split at hs
   · rename_i k' hu
     obtain ⟨n, rfl⟩ := WideShapes.okWide_int hu h
     exact ⟨fun h => (by cases h), fun _ vs e => by cases e⟩
   · cases hs
 | .bool, hs, h => by
   simp only [shB] at hs
   split at hs
   · rename_i hu
     obtain ⟨n, rfl⟩ := WideShapes.okWide_bool hu h
     exact ⟨fun h => (by cases h), fun _ vs e => by cases e⟩
   · cases hs
 | .str, hs, h => by
   simp only [shB] at hs
   split at hs
   · rename_i hu
     obtain ⟨n, rfl⟩ := WideShapes.okWide_string hu h
     exact ⟨fun h => (by cases h), fun _ vs e => by cases e⟩
   · cases hs
 | .sl s, hs, h => by
   simp only [shB] at hs
   split at hs
   · rename_i e hu
     obtain ⟨a, b, c, rfl⟩ := WideShapes.okWide_slice hu h
     exact ⟨fun h => (by cases h), fun _ vs e => by cases e⟩
   · cases hs
 | .arr n s, hs, h => by
   simp only [shB] at hs
   split at hs
   · rename_i n' e hu
     simp only [Value.okWide, hu] at h
     obtain ⟨⟨xs⟩, rfl, _⟩ := h
     exact ⟨fun _ => ⟨_, rfl⟩, fun h => (by cases h)⟩
   · cases hs
 | .st l, hs, h => by
   simp only [shB] at hs
   split at hs
   · rename_i fs hu
     simp only [Value.okWide, hu] at h
     obtain ⟨⟨xs⟩, rfl, _⟩ := h
     exact ⟨fun _ => ⟨_, rfl⟩, fun h => (by cases h)⟩
   · cases hs
theorem arg_conc {H : Type} {enc : TypeId × Value → H} {P : Program} {w : World} {spare : Nat → Bool} {held : Bool} {base : Nat} {t : TypeId} {v : Value} {d : DataW H} {ps : List MemPlace} {s : Sh} (hs : shB P s t = true)
 (hv : Value.okWide P w .any base t v) (h : DataW.Trod enc P w 0 spare held t v d ps) : ∃ cs, GC s cs ∧ Conc (allOf w) (fun _ => undef) (toSV s cs) v := by
 obtain ⟨fuel, hf⟩ := h
 obtain ⟨cs, g, p⟩ := trod_GC s hs hf
 rw [flatV_cells] at p
 obtain ⟨h1, h2⟩ := okWide_ag hs hv
 exact ⟨cs, g, conc_toSV s g p h1 h2⟩
end Go.Proofs.Ytfkmlmckihmihaa.Fw
namespace Go.Proofs.Ytfkmlmckihmihaa.Fw
open Go.RowKit
theorem flat_get {m : Nat} : ∀ {cc : List (List PV)} {i j : Nat}, (∀ c ∈ cc, c.length = m) → j < m → cc.flatten[i * m + j]? = (cc[i]?).bind (·[j]?)
 | [], i, j, _, _ => by simp
 | c :: cc, 0, j, h, hj => by
   have hc := h c (by simp)
   rw [List.flatten_cons, Nat.zero_mul, Nat.zero_add, List.getElem?_append_left (by omega)]; rfl
 | c :: cc, i + 1, j, h, hj => by
   have hc := h c (by simp)
   rw [List.flatten_cons, List.getElem?_append_right (by rw [Nat.add_mul]; omega)]
   rw [show (i + 1) * m + j - c.length = i * m + j from by rw [Nat.add_mul]; omega]
   rw [flat_get (fun c hc => h c (by simp [hc])) hj]; rfl
theorem arr_el {n : Nat} {s : Sh} {cs : List PV} (h : GC (.arr n s) cs) : cs.length = n * s.w ∧ ∀ i, i < n → ∃ c, GC s c ∧ ∀ j, j < s.w → cs[i * s.w + j]? = c[j]? := by
 refine ⟨h.len, fun i hi => ?_⟩
 simp only [GC] at h
 obtain ⟨cc, rfl, rfl, g⟩ := h
 refine ⟨cc[i], g _ (List.getElem_mem _), fun j hj => ?_⟩
 rw [flat_get (fun c hc => (g c hc).len) hj, List.getElem?_eq_getElem hi]; rfl
theorem u32_wf {n : Int} (h : (Lit.int .u32 n).wf = true) : 0 ≤ n ∧ n < 4294967296 := by
 simp [Lit.wf, IntKind.min, IntKind.max, IntKind.signed, IntKind.bits] at h; omega
theorem i64_wf {n : Int} (h : (Lit.int .i64 n).wf = true) : -9223372036854775808 ≤ n ∧ n < 9223372036854775808 := by
 simp [Lit.wf, IntKind.min, IntKind.max, IntKind.signed, IntKind.bits] at h; omega
theorem arrF_of {n : Nat} {cs : List PV} {f : Nat → PV} (hl : cs.length = n) (h : ∀ i, i < n → cs[i]? = some (f i)) : cs = arrF n f := by
 apply List.ext_getElem?
 intro i
 by_cases hi : i < n
 · rw [h i hi, arrF_get hi]
 · rw [List.getElem?_eq_none (by omega), List.getElem?_eq_none (by rw [arrF_length]; omega)]
theorem GC_vE {cs : List PV} (h : GC (.arr 8 (.int .u32)) cs) : ∃ a : Vc, cs = vE a ∧ ∀ i, i < 8 → a i < 4294967296 := by
 obtain ⟨hl, g⟩ := arr_el h
 have key : ∀ i, ∃ n : Nat, i < 8 → cs[i]? = some (.i .u32 n) ∧ n < 4294967296 := fun i => by
  by_cases hi : i < 8
  · obtain ⟨c, ⟨n, rfl, hw⟩, k⟩ := g i hi
    have := k 0 (by simp [Sh.w])
    simp only [Sh.w, Nat.mul_one, Nat.add_zero] at this
    have hr := u32_wf hw
    refine ⟨n.toNat, fun _ => ⟨?_, by omega⟩⟩
    rw [this, show ((n.toNat : Nat) : Int) = n from by omega]; rfl
  · exact ⟨0, fun h => absurd h hi⟩
 obtain ⟨a, ha⟩ := Classical.axiomOfChoice key
 exact ⟨a, arrF_of hl fun i hi => (ha i hi).1, fun i hi => (ha i hi).2⟩
theorem GC_tE {cs : List PV} (h : GC (.arr 8 (.arr 8 (.int .u32))) cs) : ∃ t : Nat → Vc, cs = tE t ∧ ∀ i, i < 8 → ∀ j, j < 8 → t i j < 4294967296 := by
 obtain ⟨hl, g⟩ := arr_el h
 have key : ∀ i, ∃ a : Vc, i < 8 → (∀ j, j < 8 → cs[i * 8 + j]? = some (.i .u32 (a j))) ∧ ∀ j, j < 8 → a j < 4294967296 := fun i => by
  by_cases hi : i < 8
  · obtain ⟨c, hc, k⟩ := g i hi
    obtain ⟨a, rfl, hb⟩ := GC_vE hc
    refine ⟨a, fun _ => ⟨fun j hj => ?_, hb⟩⟩
    have := k j hj
    simp only [Sh.w] at this
    rw [this]; exact arrF_get hj _
  · exact ⟨fun _ => 0, fun h => absurd h hi⟩
 obtain ⟨t, ht⟩ := Classical.axiomOfChoice key
 refine ⟨t, arrF_of hl fun i hi => ?_, fun i hi => (ht i hi).2⟩
 have := (ht (i / 8) (by omega)).1 (i % 8) (by omega)
 rw [show i / 8 * 8 + i % 8 = i from by omega] at this
 exact this
theorem GC_i64 {cs : List PV} (h : GC (.int .i64) cs) : ∃ n : Int, cs = [.i .i64 n] ∧ -9223372036854775808 ≤ n ∧ n < 9223372036854775808 := by
 obtain ⟨n, rfl, hw⟩ := h; exact ⟨n, rfl, i64_wf hw⟩
theorem wrap_u64_mod (n : Int) : IntKind.u64.wrap n = n % 18446744073709551616 := by simp [IntKind.wrap, IntKind.signed, IntKind.bits]
theorem GC_sl {s : Sh} {cs : List PV} (h : GC (.sl s) cs) : ∃ es, cs = [.sl false s.w es] ∧ es.length ≤ maxLen ∧ ∀ c ∈ es, GC s c := by
 simp only [GC] at h; exact h
end Go.Proofs.Ytfkmlmckihmihaa.Fw
namespace Go.Proofs.Ytfkmlmckihmihaa.Fw
open Go.RowKit Go.Proofs
def idLt (r : Int) (q : Nat) (r' : Int) (q' : Nat) : Bool := decide (q < q' ∨ q = q' ∧ r < r')
theorem okLess (r : Int) (q : Nat) (r' : Int) (q' : Nat) {h d} : FunOk Try.prog 85 [.vec 2 [.i .i64 r, .i .u32 q], .vec 2 [.i .i64 r', .i .u32 q']] h d (.pv (.b (idLt r q r' q'))) [] := by
 refine fun_pure mixed fn85 (by simp) rfl rfl fun F => ?_
 by_cases h : q = q'
 · subst h
   have e : idLt r q r' q = decide (r < r') := by simp [idLt]
   (try simp only [bK1, bK2, bK3, bK4, bK5, bK6, bK7, bK8]); simp (maxSteps := 10000000) (disch := omega) only [ir85, e, go_sem, ↓reduceIte, Nat.reduceEqDiff, Nat.reduceSub, Nat.reduceLeDiff, Nat.reduceAdd, Int.reduceEq, Int.reduceLT, Int.reduceLE]
 · have hz : ¬ (q : Int) = (q' : Int) := by omega
   have e : idLt r q r' q' = decide ((q : Int) < (q' : Int)) := by simp [idLt, h]
   (try simp only [bK1, bK2, bK3, bK4, bK5, bK6, bK7, bK8]); simp (maxSteps := 10000000) (disch := omega) only [ir85, e, go_sem, ↓reduceIte, Nat.reduceEqDiff, Nat.reduceSub, Nat.reduceLeDiff, Nat.reduceAdd, Int.reduceEq, Int.reduceLT, Int.reduceLE]
theorem okLessR (r : Int) (q : Nat) (r' : Int) (q' : Nat) {h d} : FunOk Try.prog 86 [.vec 2 [.i .i64 r, .i .u32 q], .vec 2 [.i .i64 r', .i .u32 q']] h d (.pv (.b (idLt r q r' q'))) [] := by
 refine fun_pure mixed fn86 (by simp) rfl rfl fun F => ?_
 by_cases h : q = q'
 · subst h
   have e : idLt r q r' q = decide (r < r') := by simp [idLt]
   have hl : ¬ (q : Int) < (q : Int) := by omega
   (try simp only [bK1, bK2, bK3, bK4, bK5, bK6, bK7, bK8]); simp (maxSteps := 10000000) (disch := omega) only [ir86, e, hl, go_sem, ↓reduceIte, Nat.reduceEqDiff, Nat.reduceSub, Nat.reduceLeDiff, Nat.reduceAdd, Int.reduceEq, Int.reduceLT, Int.reduceLE]
 · have hz : ¬ (q : Int) = (q' : Int) := by omega
   have e : idLt r q r' q' = decide ((q : Int) < (q' : Int)) := by simp [idLt, h]
   by_cases hl : (q : Int) < (q' : Int)
   · (try simp only [bK1, bK2, bK3, bK4, bK5, bK6, bK7, bK8]); simp (maxSteps := 10000000) (disch := omega) only [ir86, e, hl, go_sem, ↓reduceIte, Nat.reduceEqDiff, Nat.reduceSub, Nat.reduceLeDiff, Nat.reduceAdd, Int.reduceEq, Int.reduceLT, Int.reduceLE]
   · (try simp only [bK1, bK2, bK3, bK4, bK5, bK6, bK7, bK8]); simp (maxSteps := 10000000) (disch := omega) only [ir86, e, hl, go_sem, ↓reduceIte, Nat.reduceEqDiff, Nat.reduceSub, Nat.reduceLeDiff, Nat.reduceAdd, Int.reduceEq, Int.reduceLT, Int.reduceLE]
theorem peqId_t {r r' : Int} {q q' : Nat} (h : r = r' ∧ q = q') : peq [.i .i64 r, .i .u32 q] [.i .i64 r', .i .u32 q'] = true := by
 obtain ⟨rfl, rfl⟩ := h; simp [peq]
theorem peqId_f {r r' : Int} {q q' : Nat} (h : ¬ (r = r' ∧ q = q')) : peq [.i .i64 r, .i .u32 q] [.i .i64 r', .i .u32 q'] = false := by
 simp only [peq, decide_eq_false_iff_not]
 intro e
 simp only [List.cons.injEq, PV.i.injEq, true_and, and_true] at e
 exact h ⟨e.1, by omega⟩
abbrev Idn := Int × Nat
def idE (b : Idn) : List PV := [.i .i64 b.1, .i .u32 b.2]
def getV (a : Vc) (r : Int) : Nat := if 1 ≤ r ∧ r ≤ 8 then a (r - 1).toNat else 0
def hasB (a : Vc) (r : Int) (q : Nat) : Bool := decide (1 ≤ q ∧ q ≤ getV a r)
theorem okGet (a : Vc) (r : Int) {h d} : FunOk Try.prog 84 [.vec 8 (vE a), .pv (.i .i64 r)] h d (.pv (.i .u32 (getV a r))) [] := by
 refine fun_pure mixed fn84 (by simp) rfl rfl fun F => ?_
 by_cases h1 : r < 1
 · have e : getV a r = 0 := by simp [getV]; omega
   (try simp only [bK1, bK2, bK3, bK4, bK5, bK6, bK7, bK8]); simp (maxSteps := 10000000) (disch := omega) only [ir84, h1, e, go_sem, ↓reduceIte, Nat.reduceEqDiff, Nat.reduceSub, Nat.reduceLeDiff, Nat.reduceAdd, Int.reduceEq, Int.reduceLT, Int.reduceLE]
 by_cases h2 : 8 < r
 · have e : getV a r = 0 := by simp [getV]; omega
   (try simp only [bK1, bK2, bK3, bK4, bK5, bK6, bK7, bK8]); simp (maxSteps := 10000000) (disch := omega) only [ir84, h1, h2, e, go_sem, ↓reduceIte, Nat.reduceEqDiff, Nat.reduceSub, Nat.reduceLeDiff, Nat.reduceAdd, Int.reduceEq, Int.reduceLT, Int.reduceLE]
 have e : getV a r = a (r - 1).toNat := by simp [getV]; omega
 obtain ⟨k, rfl⟩ : ∃ k : Nat, r = k + 1 := ⟨(r - 1).toNat, by omega⟩
 have ek : ((k : Int) + 1 - 1) = k := by omega
 (try simp only [bK1, bK2, bK3, bK4, bK5, bK6, bK7, bK8]); simp (maxSteps := 10000000) (disch := omega) only [ir84, h1, h2, e, ek, go_sem, ↓reduceIte, Nat.reduceEqDiff, Nat.reduceSub, Nat.reduceLeDiff, Nat.reduceAdd, Int.reduceEq, Int.reduceLT, Int.reduceLE]
def stGetR (a : Vc) (r : Int) (k : Nat) : FS := mk [(5, .pv (.i .i64 k)), (1, .pv (.i .i64 r)), (2, .p 2 0)] [(2, some (.var (.vec 8 (vE a))))]
theorem okGetR (a : Vc) (r : Int) {h d} : FunOk Try.prog 75 [.vec 8 (vE a), .pv (.i .i64 r)] h d (.pv (.i .u32 (getV a r))) [] := by
 refine fun_pure mixed fn75 (by simp) rfl rfl fun F => ?_
 (try simp only [bK1, bK2, bK3, bK4, bK5, bK6, bK7, bK8]); simp (maxSteps := 10000000) (disch := omega) only [ir75, go_sem, ↓reduceIte, Nat.reduceEqDiff, Nat.reduceSub, Nat.reduceLeDiff, Nat.reduceAdd, Int.reduceEq, Int.reduceLT, Int.reduceLE]
 refine loop_ok mixed (stGetR a r) (fun k => k ≤ 8 ∧ ∀ i : Nat, i < k → (i : Int) + 1 ≠ r) (fun k => 8 - k) 0 (by simp) (weak_mk ?_ ?_) fun k hk => ?_
 · (try simp only [bK1, bK2, bK3, bK4, bK5, bK6, bK7, bK8]); simp (maxSteps := 10000000) (disch := omega) only [go_sem, ↓reduceIte, Nat.reduceEqDiff, Nat.reduceSub, Nat.reduceLeDiff, Nat.reduceAdd, Int.reduceEq, Int.reduceLT, Int.reduceLE]
 · (try simp only [bK1, bK2, bK3, bK4, bK5, bK6, bK7, bK8]); simp (maxSteps := 10000000) (disch := omega) only [go_sem, ↓reduceIte, Nat.reduceEqDiff, Nat.reduceSub, Nat.reduceLeDiff, Nat.reduceAdd, Int.reduceEq, Int.reduceLT, Int.reduceLE]
 obtain ⟨hk1, hk2⟩ := hk
 by_cases hlt : k < 8
 · by_cases he : (k : Int) + 1 = r
   · subst he
     have e : getV a ((k : Int) + 1) = a k := by
      have e1 : ((k : Int) + 1 - 1).toNat = k := by omega
      simp [getV, e1]; omega
     (try simp only [bK1, bK2, bK3, bK4, bK5, bK6, bK7, bK8]); simp (maxSteps := 10000000) (disch := omega) only [stGetR, e, go_sem, ↓reduceIte, Nat.reduceEqDiff, Nat.reduceSub, Nat.reduceLeDiff, Nat.reduceAdd, Int.reduceEq, Int.reduceLT, Int.reduceLE]
   · (try simp only [bK1, bK2, bK3, bK4, bK5, bK6, bK7, bK8]); simp (maxSteps := 10000000) (disch := omega) only [stGetR, he, go_sem, ↓reduceIte, Nat.reduceEqDiff, Nat.reduceSub, Nat.reduceLeDiff, Nat.reduceAdd, Int.reduceEq, Int.reduceLT, Int.reduceLE]
     refine loop_next (k + 1) _ _ rfl ⟨by omega, fun i hi => ?_⟩ (by omega) ?_ ?_
     · by_cases e : i = k
       · subst e; exact he
       · exact hk2 i (by omega)
     · (try simp only [bK1, bK2, bK3, bK4, bK5, bK6, bK7, bK8]); simp (maxSteps := 10000000) (disch := omega) only [go_sem, ↓reduceIte, Nat.reduceEqDiff, Nat.reduceSub, Nat.reduceLeDiff, Nat.reduceAdd, Int.reduceEq, Int.reduceLT, Int.reduceLE]
     · (try simp only [bK1, bK2, bK3, bK4, bK5, bK6, bK7, bK8]); simp (maxSteps := 10000000) (disch := omega) only [go_sem, ↓reduceIte, Nat.reduceEqDiff, Nat.reduceSub, Nat.reduceLeDiff, Nat.reduceAdd, Int.reduceEq, Int.reduceLT, Int.reduceLE]
 · obtain rfl : k = 8 := by omega
   have e : getV a r = 0 := by
    unfold getV
    rw [if_neg]
    intro h
    exact hk2 (r - 1).toNat (by omega) (by omega)
   (try simp only [bK1, bK2, bK3, bK4, bK5, bK6, bK7, bK8]); simp (maxSteps := 10000000) (disch := omega) only [stGetR, e, go_sem, ↓reduceIte, Nat.reduceEqDiff, Nat.reduceSub, Nat.reduceLeDiff, Nat.reduceAdd, Int.reduceEq, Int.reduceLT, Int.reduceLE]
theorem okHasV (a : Vc) (r : Int) (q : Nat) {h d} : FunOk Try.prog 73 [.vec 8 (vE a), .vec 2 [.i .i64 r, .i .u32 q]] h d (.pv (.b (hasB a r q))) [] := by
 refine fun_pure mixed fn73 (by simp) rfl rfl fun F => ?_
 by_cases h1 : (1 : Int) ≤ q
 · (try simp only [bK1, bK2, bK3, bK4, bK5, bK6, bK7, bK8]); simp (maxSteps := 10000000) (disch := omega) only [ir73, h1, go_sem, ↓reduceIte, Nat.reduceEqDiff, Nat.reduceSub, Nat.reduceLeDiff, Nat.reduceAdd, Int.reduceEq, Int.reduceLT, Int.reduceLE]
   refine call_with (okGet a r) ?_
   have e : hasB a r q = decide ((q : Int) ≤ (getV a r : Int)) := decide_eq_decide.2 (by omega)
   (try simp only [bK1, bK2, bK3, bK4, bK5, bK6, bK7, bK8]); simp (maxSteps := 10000000) (disch := omega) only [e, go_sem, ↓reduceIte, Nat.reduceEqDiff, Nat.reduceSub, Nat.reduceLeDiff, Nat.reduceAdd, Int.reduceEq, Int.reduceLT, Int.reduceLE]
 · have e : hasB a r q = false := decide_eq_false (by omega)
   (try simp only [bK1, bK2, bK3, bK4, bK5, bK6, bK7, bK8]); simp (maxSteps := 10000000) (disch := omega) only [ir73, h1, e, go_sem, ↓reduceIte, Nat.reduceEqDiff, Nat.reduceSub, Nat.reduceLeDiff, Nat.reduceAdd, Int.reduceEq, Int.reduceLT, Int.reduceLE]
theorem okHasR (a : Vc) (r : Int) (q : Nat) {h d} : FunOk Try.prog 76 [.vec 8 (vE a), .vec 2 [.i .i64 r, .i .u32 q]] h d (.pv (.b (hasB a r q))) [] := by
 refine fun_pure mixed fn76 (by simp) rfl rfl fun F => ?_
 by_cases h1 : (0 : Int) < q
 · (try simp only [bK1, bK2, bK3, bK4, bK5, bK6, bK7, bK8]); simp (maxSteps := 10000000) (disch := omega) only [ir76, h1, go_sem, ↓reduceIte, Nat.reduceEqDiff, Nat.reduceSub, Nat.reduceLeDiff, Nat.reduceAdd, Int.reduceEq, Int.reduceLT, Int.reduceLE]
   refine call_with (okGetR a r) ?_
   have e : hasB a r q = decide ((q : Int) ≤ (getV a r : Int)) := decide_eq_decide.2 (by omega)
   (try simp only [bK1, bK2, bK3, bK4, bK5, bK6, bK7, bK8]); simp (maxSteps := 10000000) (disch := omega) only [e, go_sem, ↓reduceIte, Nat.reduceEqDiff, Nat.reduceSub, Nat.reduceLeDiff, Nat.reduceAdd, Int.reduceEq, Int.reduceLT, Int.reduceLE]
 · have e : hasB a r q = false := decide_eq_false (by omega)
   (try simp only [bK1, bK2, bK3, bK4, bK5, bK6, bK7, bK8]); simp (maxSteps := 10000000) (disch := omega) only [ir76, h1, e, go_sem, ↓reduceIte, Nat.reduceEqDiff, Nat.reduceSub, Nat.reduceLeDiff, Nat.reduceAdd, Int.reduceEq, Int.reduceLT, Int.reduceLE]
theorem imp_agg {l : List SV} {cs : List PV} {n : Nat} (hc : SV.cellsL? l = some cs) (hn : cs.length = n) : Imp (.agg l) (.vec n cs) := by
 intro V ρ v h
 have hp := Conc.cells h (x := .agg l) (cs := cs) hc
 simp only [Conc] at h ⊢
 obtain ⟨vs, rfl, _⟩ := h
 exact ⟨vs, rfl, by rw [← hn]; exact hp.1.symm, hp⟩
def ImpL : List SV → List SV → Prop
 | [], [] => True
 | x :: l, y :: m => Imp x y ∧ ImpL l m
 | _, _ => False
theorem ImpL.conc {V : View} {ρ : Nat → Value} : ∀ {l m : List SV} {vs : List Value}, ImpL l m → ConcL V ρ l vs → ConcL V ρ m vs
 | [], [], vs, _, h => h
 | x :: l, y :: m, vs, h, k => by
   simp only [ConcL] at k ⊢
   obtain ⟨v, us, rfl, k1, k2⟩ := k
   exact ⟨v, us, rfl, h.1 _ _ _ k1, ImpL.conc h.2 k2⟩
 | [], _ :: _, _, h, _ => h.elim
 | _ :: _, [], _, h, _ => h.elim
theorem FunOk.imp {P : Program} {f : Nat} {args args' : List SV} {h d x u} (hf : FunOk P f args' h d x u) (hi : ImpL args args') (ht : ∀ n ∈ tops args', n ∈ tops args) : FunOk P f args h d x u :=
 ⟨hf.1, fun F N ρ s a w hR hh vs hc => hf.2 F N ρ s a w hR (fun n hn => hh n (ht n hn)) vs (hi.conc hc)⟩
abbrev shId : Sh := .st [.int .i64, .int .u32]
theorem GC_id {cs : List PV} (h : GC shId cs) : ∃ b : Idn, cs = idE b ∧ (-9223372036854775808 ≤ b.1 ∧ b.1 < 9223372036854775808) ∧ b.2 < 4294967296 := by
 simp only [GC, GCL] at h
 obtain ⟨c, cs', rfl, ⟨n, rfl, hw⟩, c', cs'', rfl, ⟨m, rfl, hw'⟩, rfl⟩ := h
 have hr := u32_wf hw'
 exact ⟨(n, m.toNat), by simp [idE]; omega, i64_wf hw, by show m.toNat < _; omega⟩
theorem els_of {α : Type} {f : α → List PV} {p : α → Prop} {s : Sh} (key : ∀ {cs}, GC s cs → ∃ x, cs = f x ∧ p x) : ∀ {es : List (List PV)}, (∀ c ∈ es, GC s c) → ∃ l : List α, es = l.map f ∧ ∀ x ∈ l, p x
 | [], _ => ⟨[], rfl, by simp⟩
 | c :: es, h => by
   obtain ⟨l, e, hp⟩ := els_of (es := es) key fun c hc => h c (List.mem_cons_of_mem _ hc)
   obtain ⟨x, e2, hx⟩ := key (h c List.mem_cons_self)
   exact ⟨x :: l, by rw [e, e2]; rfl, fun y hy => by
    rcases List.mem_cons.1 hy with hy | hy
    · rw [hy]; exact hx
    · exact hp y hy⟩
end Go.Proofs.Ytfkmlmckihmihaa.Fw
namespace Go.Proofs.Ytfkmlmckihmihaa.Fw
open Go.RowKit Go.Proofs
structure SlI where
 f : Bool
 z : Nat
 l : List Idn
def SlI.pv (g : SlI) : PV := .sl g.f g.z (g.l.map idE)
def SlI.ok (g : SlI) : Prop := g.l = [] ∨ g.z = 2
def SlI.nil : SlI := ⟨true, 0, []⟩
structure Evt where
 rep : Int
 seq : Nat
 dep : Vc
 kind : Int
 orep : Int
 oseq : Nat
 drep : Int
 dseq : Nat
 name : List UInt8
 gone : SlI
 base : SlI
 off : Int
 data : List UInt8
 ward : Int
def evE (e : Evt) : List PV := [.i .i64 e.rep, .i .u32 e.seq] ++ vE e.dep ++ [.i .i64 e.kind, .i .i64 e.orep, .i .u32 e.oseq, .i .i64 e.drep, .i .u32 e.dseq, .s e.name, e.gone.pv, e.base.pv, .i .i64 e.off, .s e.data, .i .i64 e.ward]
theorem evE_len (e : Evt) : (evE e).length = 21 := by simp [evE, vE, arrF]
theorem ld_ev0 (e : Evt) (K : KK) : LoadK (some (evE e)) 0 1 false K = K (.pv (.i .i64 e.rep)) [] := by
 simp only [LoadK, ldX, eq_iff_iff]
 exact ⟨fun h => h.2.2, fun h => ⟨by simp [evE, vE, arrF], .inr trivial, h⟩⟩
theorem ld_ev1 (e : Evt) (K : KK) : LoadK (some (evE e)) 1 1 false K = K (.pv (.i .u32 e.seq)) [] := by
 simp only [LoadK, ldX, eq_iff_iff]
 exact ⟨fun h => h.2.2, fun h => ⟨by simp [evE, vE, arrF], .inr trivial, h⟩⟩
theorem ld_ev10 (e : Evt) (K : KK) : LoadK (some (evE e)) 10 1 false K = K (.pv (.i .i64 e.kind)) [] := by
 simp only [LoadK, ldX, eq_iff_iff]
 exact ⟨fun h => h.2.2, fun h => ⟨by simp [evE, vE, arrF], .inr trivial, h⟩⟩
theorem ld_ev15 (e : Evt) (K : KK) : LoadK (some (evE e)) 15 1 false K = K (.pv (.s e.name)) [] := by
 simp only [LoadK, ldX, eq_iff_iff]
 exact ⟨fun h => h.2.2, fun h => ⟨by simp [evE, vE, arrF], .inr trivial, h⟩⟩
theorem ld_ev16 (e : Evt) (K : KK) : LoadK (some (evE e)) 16 1 false K = K (.pv (e.gone.pv)) [] := by
 simp only [LoadK, ldX, eq_iff_iff]
 exact ⟨fun h => h.2.2, fun h => ⟨by simp [evE, vE, arrF], .inr trivial, h⟩⟩
theorem ld_ev17 (e : Evt) (K : KK) : LoadK (some (evE e)) 17 1 false K = K (.pv (e.base.pv)) [] := by
 simp only [LoadK, ldX, eq_iff_iff]
 exact ⟨fun h => h.2.2, fun h => ⟨by simp [evE, vE, arrF], .inr trivial, h⟩⟩
theorem ld_ev18 (e : Evt) (K : KK) : LoadK (some (evE e)) 18 1 false K = K (.pv (.i .i64 e.off)) [] := by
 simp only [LoadK, ldX, eq_iff_iff]
 exact ⟨fun h => h.2.2, fun h => ⟨by simp [evE, vE, arrF], .inr trivial, h⟩⟩
theorem ld_ev19 (e : Evt) (K : KK) : LoadK (some (evE e)) 19 1 false K = K (.pv (.s e.data)) [] := by
 simp only [LoadK, ldX, eq_iff_iff]
 exact ⟨fun h => h.2.2, fun h => ⟨by simp [evE, vE, arrF], .inr trivial, h⟩⟩
theorem ld_ev20 (e : Evt) (K : KK) : LoadK (some (evE e)) 20 1 false K = K (.pv (.i .i64 e.ward)) [] := by
 simp only [LoadK, ldX, eq_iff_iff]
 exact ⟨fun h => h.2.2, fun h => ⟨by simp [evE, vE, arrF], .inr trivial, h⟩⟩
theorem ld_evId (e : Evt) (K : KK) : LoadK (some (evE e)) 0 2 true K = K (.vec 2 ([.i .i64 e.rep, .i .u32 e.seq])) [] := by
 simp only [LoadK, ldX, eq_iff_iff]
 exact ⟨fun h => h.2.2, fun h => ⟨by simp [evE, vE, arrF], .inl trivial, h⟩⟩
theorem ld_evDep (e : Evt) (K : KK) : LoadK (some (evE e)) 2 8 true K = K (.vec 8 (vE e.dep)) [] := by
 simp only [LoadK, ldX, eq_iff_iff]
 exact ⟨fun h => h.2.2, fun h => ⟨by simp [evE, vE, arrF], .inl trivial, h⟩⟩
theorem ld_evObj (e : Evt) (K : KK) : LoadK (some (evE e)) 11 2 true K = K (.vec 2 ([.i .i64 e.orep, .i .u32 e.oseq])) [] := by
 simp only [LoadK, ldX, eq_iff_iff]
 exact ⟨fun h => h.2.2, fun h => ⟨by simp [evE, vE, arrF], .inl trivial, h⟩⟩
theorem ld_evDir (e : Evt) (K : KK) : LoadK (some (evE e)) 13 2 true K = K (.vec 2 ([.i .i64 e.drep, .i .u32 e.dseq])) [] := by
 simp only [LoadK, ldX, eq_iff_iff]
 exact ⟨fun h => h.2.2, fun h => ⟨by simp [evE, vE, arrF], .inl trivial, h⟩⟩
theorem ld_ev (e : Evt) (K : KK) : LoadK (some (evE e)) 0 21 true K = K (.vec 21 (evE e)) [] := load_whole (evE_len e) K
theorem ld_evDepAt (e : Evt) {j : Nat} (h : j < 8) (K : KK) : LoadK (some (evE e)) (2 + j) 1 false K = K (.pv (.i .u32 (e.dep j))) [] := by
 have : j = 0 ∨ j = 1 ∨ j = 2 ∨ j = 3 ∨ j = 4 ∨ j = 5 ∨ j = 6 ∨ j = 7 := by omega
 simp only [LoadK, ldX, eq_iff_iff]
 rcases this with rfl | rfl | rfl | rfl | rfl | rfl | rfl | rfl <;> exact ⟨fun h => h.2.2, fun h => ⟨by simp [evE, vE, arrF], .inr trivial, h⟩⟩
theorem sp_obj (e : Evt) (r : Int) (q : Nat) : splice (evE e) 11 [.i .i64 r, .i .u32 q] = evE { e with orep := r, oseq := q } := rfl
theorem sp_dir (e : Evt) (r : Int) (q : Nat) : splice (evE e) 13 [.i .i64 r, .i .u32 q] = evE { e with drep := r, dseq := q } := rfl
theorem sp_name (e : Evt) (s : List UInt8) : splice (evE e) 15 [.s s] = evE { e with name := s } := rfl
theorem sp_gone (e : Evt) (f : Bool) (z : Nat) (l : List Idn) : splice (evE e) 16 [.sl f z (l.map idE)] = evE { e with gone := ⟨f, z, l⟩ } := rfl
theorem sp_base (e : Evt) (f : Bool) (z : Nat) (l : List Idn) : splice (evE e) 17 [.sl f z (l.map idE)] = evE { e with base := ⟨f, z, l⟩ } := rfl
theorem sp_off (e : Evt) (n : Int) : splice (evE e) 18 [.i .i64 n] = evE { e with off := n } := rfl
theorem sp_data (e : Evt) (s : List UInt8) : splice (evE e) 19 [.s s] = evE { e with data := s } := rfl
theorem sp_ward (e : Evt) (n : Int) : splice (evE e) 20 [.i .i64 n] = evE { e with ward := n } := rfl
theorem sp_obj0 (e : Evt) : splice (evE e) 11 [.i .i64 0, .i .u32 0] = evE { e with orep := 0, oseq := 0 } := sp_obj e 0 0
theorem sp_dir0 (e : Evt) : splice (evE e) 13 [.i .i64 0, .i .u32 0] = evE { e with drep := 0, dseq := 0 } := sp_dir e 0 0
theorem sp_gone0 (e : Evt) : splice (evE e) 16 [.sl true 0 []] = evE { e with gone := .nil } := sp_gone e true 0 []
theorem sp_base0 (e : Evt) : splice (evE e) 17 [.sl true 0 []] = evE { e with base := .nil } := sp_base e true 0 []
theorem sp_all (e e' : Evt) : splice (evE e) 0 (evE e') = evE e' := rfl
attribute [go_sem] ld_ev0 ld_ev1 ld_ev10 ld_ev15 ld_ev16 ld_ev17 ld_ev18 ld_ev19 ld_ev20 ld_evId ld_evDep ld_evObj ld_evDir ld_ev evE_len SlI.pv load_vE8 List.length_map
def bareE (e : Evt) : Evt :=
 if e.kind = 1 ∨ e.kind = 2 then { e with drep := 0, dseq := 0, name := [] }
 else if e.kind = 3 then { e with orep := 0, oseq := 0, base := .nil, off := 0, data := [] }
 else if e.kind = 4 then { e with orep := 0, oseq := 0, base := .nil, off := 0 }
 else if e.kind = 5 then { e with orep := 0, oseq := 0, base := .nil, data := [] }
 else if e.kind = 6 then { e with orep := 0, oseq := 0, gone := .nil }
 else if e.kind = 7 then { e with orep := 0, oseq := 0, gone := .nil, drep := 0, dseq := 0, name := [] }
 else if e.kind = 8 then { e with ward := 0 }
 else e
set_option maxHeartbeats 4000000 in
theorem okBare (e : Evt) {h d} : FunOk Try.prog 69 [.vec 21 (evE e)] h d (.vec 21 (evE (bareE e))) [] := by
 refine fun_pure mixed fn69 (by simp) rfl rfl fun F => ?_
 have hl := evE_len e
 by_cases h1 : e.kind = 1
 · have eb : bareE e = { e with drep := 0, dseq := 0, name := [] } := by simp [bareE, h1]
   (try simp only [bK1, bK2, bK3, bK4, bK5, bK6, bK7, bK8]); simp (maxSteps := 10000000) (disch := omega) only [ir69, ld_ev10, h1, sp_dir0, sp_name, sp_obj0, sp_base0, sp_gone0, sp_off, sp_data, sp_ward, ld_ev, evE_len, eb, go_sem, ↓reduceIte, Nat.reduceEqDiff, Nat.reduceSub, Nat.reduceLeDiff, Nat.reduceAdd, Int.reduceEq, Int.reduceLT, Int.reduceLE]
 by_cases h2 : e.kind = 2
 · have eb : bareE e = { e with drep := 0, dseq := 0, name := [] } := by simp [bareE, h2]
   (try simp only [bK1, bK2, bK3, bK4, bK5, bK6, bK7, bK8]); simp (maxSteps := 10000000) (disch := omega) only [ir69, ld_ev10, h2, sp_dir0, sp_name, sp_obj0, sp_base0, sp_gone0, sp_off, sp_data, sp_ward, ld_ev, evE_len, eb, go_sem, ↓reduceIte, Nat.reduceEqDiff, Nat.reduceSub, Nat.reduceLeDiff, Nat.reduceAdd, Int.reduceEq, Int.reduceLT, Int.reduceLE]
 by_cases h3 : e.kind = 3
 · have eb : bareE e = { e with orep := 0, oseq := 0, base := .nil, off := 0, data := [] } := by simp [bareE, h3]
   (try simp only [bK1, bK2, bK3, bK4, bK5, bK6, bK7, bK8]); simp (maxSteps := 10000000) (disch := omega) only [ir69, ld_ev10, h3, sp_dir0, sp_name, sp_obj0, sp_base0, sp_gone0, sp_off, sp_data, sp_ward, ld_ev, evE_len, eb, go_sem, ↓reduceIte, Nat.reduceEqDiff, Nat.reduceSub, Nat.reduceLeDiff, Nat.reduceAdd, Int.reduceEq, Int.reduceLT, Int.reduceLE]
 by_cases h4 : e.kind = 4
 · have eb : bareE e = { e with orep := 0, oseq := 0, base := .nil, off := 0 } := by simp [bareE, h4]
   (try simp only [bK1, bK2, bK3, bK4, bK5, bK6, bK7, bK8]); simp (maxSteps := 10000000) (disch := omega) only [ir69, ld_ev10, h4, sp_dir0, sp_name, sp_obj0, sp_base0, sp_gone0, sp_off, sp_data, sp_ward, ld_ev, evE_len, eb, go_sem, ↓reduceIte, Nat.reduceEqDiff, Nat.reduceSub, Nat.reduceLeDiff, Nat.reduceAdd, Int.reduceEq, Int.reduceLT, Int.reduceLE]
 by_cases h5 : e.kind = 5
 · have eb : bareE e = { e with orep := 0, oseq := 0, base := .nil, data := [] } := by simp [bareE, h5]
   (try simp only [bK1, bK2, bK3, bK4, bK5, bK6, bK7, bK8]); simp (maxSteps := 10000000) (disch := omega) only [ir69, ld_ev10, h5, sp_dir0, sp_name, sp_obj0, sp_base0, sp_gone0, sp_off, sp_data, sp_ward, ld_ev, evE_len, eb, go_sem, ↓reduceIte, Nat.reduceEqDiff, Nat.reduceSub, Nat.reduceLeDiff, Nat.reduceAdd, Int.reduceEq, Int.reduceLT, Int.reduceLE]
 by_cases h6 : e.kind = 6
 · have eb : bareE e = { e with orep := 0, oseq := 0, gone := .nil } := by simp [bareE, h6]
   (try simp only [bK1, bK2, bK3, bK4, bK5, bK6, bK7, bK8]); simp (maxSteps := 10000000) (disch := omega) only [ir69, ld_ev10, h6, sp_dir0, sp_name, sp_obj0, sp_base0, sp_gone0, sp_off, sp_data, sp_ward, ld_ev, evE_len, eb, go_sem, ↓reduceIte, Nat.reduceEqDiff, Nat.reduceSub, Nat.reduceLeDiff, Nat.reduceAdd, Int.reduceEq, Int.reduceLT, Int.reduceLE]
 by_cases h7 : e.kind = 7
 · have eb : bareE e = { e with orep := 0, oseq := 0, gone := .nil, drep := 0, dseq := 0, name := [] } := by simp [bareE, h7]
   (try simp only [bK1, bK2, bK3, bK4, bK5, bK6, bK7, bK8]); simp (maxSteps := 10000000) (disch := omega) only [ir69, ld_ev10, h7, sp_dir0, sp_name, sp_obj0, sp_base0, sp_gone0, sp_off, sp_data, sp_ward, ld_ev, evE_len, eb, go_sem, ↓reduceIte, Nat.reduceEqDiff, Nat.reduceSub, Nat.reduceLeDiff, Nat.reduceAdd, Int.reduceEq, Int.reduceLT, Int.reduceLE]
 by_cases h8 : e.kind = 8
 · have eb : bareE e = { e with ward := 0 } := by simp [bareE, h8]
   (try simp only [bK1, bK2, bK3, bK4, bK5, bK6, bK7, bK8]); simp (maxSteps := 10000000) (disch := omega) only [ir69, ld_ev10, h8, sp_dir0, sp_name, sp_obj0, sp_base0, sp_gone0, sp_off, sp_data, sp_ward, ld_ev, evE_len, eb, go_sem, ↓reduceIte, Nat.reduceEqDiff, Nat.reduceSub, Nat.reduceLeDiff, Nat.reduceAdd, Int.reduceEq, Int.reduceLT, Int.reduceLE]
 have eb : bareE e = e := by simp [bareE, h1, h2, h3, h4, h5, h6, h7, h8]
 (try simp only [bK1, bK2, bK3, bK4, bK5, bK6, bK7, bK8]); simp (maxSteps := 10000000) (disch := omega) only [ir69, ld_ev10, h1, h2, h3, h4, h5, h6, h7, h8, ld_ev, evE_len, eb, go_sem, ↓reduceIte, Nat.reduceEqDiff, Nat.reduceSub, Nat.reduceLeDiff, Nat.reduceAdd, Int.reduceEq, Int.reduceLT, Int.reduceLE]
end Go.Proofs.Ytfkmlmckihmihaa.Fw
namespace Go.Proofs.Ytfkmlmckihmihaa.Fw
open Go.RowKit Go.Proofs
def zeroB (r : Int) (q : Nat) : Bool := decide (r = 0 ∧ q = 0)
theorem ld_id0 (r : Int) (q : Nat) (K : KK) : LoadK (some [PV.i .i64 r, PV.i .u32 q]) 0 1 false K = K (.pv (.i .i64 r)) [] := load_c0 ..
theorem ld_id1 (r : Int) (q : Nat) (K : KK) : LoadK (some [PV.i .i64 r, PV.i .u32 q]) 1 1 false K = K (.pv (.i .u32 q)) [] := by
 rw [load_cS]; exact load_c0 ..
theorem okZeroR (r : Int) (q : Nat) {h d} : FunOk Try.prog 77 [.vec 2 [.i .i64 r, .i .u32 q]] h d (.pv (.b (zeroB r q))) [] := by
 refine fun_pure mixed fn77 (by simp) rfl rfl fun F => ?_
 by_cases h1 : r = 0
 · by_cases h2 : q = 0
   · have e : zeroB r q = true := decide_eq_true ⟨h1, h2⟩
     (try simp only [bK1, bK2, bK3, bK4, bK5, bK6, bK7, bK8]); simp (maxSteps := 10000000) (disch := omega) only [ir77, ld_id0, ld_id1, h1, h2, e, Int.natCast_zero, go_sem, ↓reduceIte, Nat.reduceEqDiff, Nat.reduceSub, Nat.reduceLeDiff, Nat.reduceAdd, Int.reduceEq, Int.reduceLT, Int.reduceLE]
     rw [← h1, ← h2, e]
   · have e : zeroB r q = false := decide_eq_false (by omega)
     have h3 : ¬ (q : Int) = 0 := by omega
     (try simp only [bK1, bK2, bK3, bK4, bK5, bK6, bK7, bK8]); simp (maxSteps := 10000000) (disch := omega) only [ir77, ld_id0, ld_id1, h3, e, h1, go_sem, ↓reduceIte, Nat.reduceEqDiff, Nat.reduceSub, Nat.reduceLeDiff, Nat.reduceAdd, Int.reduceEq, Int.reduceLT, Int.reduceLE]
     rw [← h1, e]
 · have e : zeroB r q = false := decide_eq_false (by omega)
   (try simp only [bK1, bK2, bK3, bK4, bK5, bK6, bK7, bK8]); simp (maxSteps := 10000000) (disch := omega) only [ir77, ld_id0, ld_id1, h1, e, go_sem, ↓reduceIte, Nat.reduceEqDiff, Nat.reduceSub, Nat.reduceLeDiff, Nat.reduceAdd, Int.reduceEq, Int.reduceLT, Int.reduceLE]
theorem fits_id (r : Int) (q : Nat) : fits [K1.int .i64, K1.int .u32] [.i .i64 r, .i .u32 q] = True := eq_true rfl
theorem fits_id0 : fits [K1.int .i64, K1.int .u32] [.i .i64 0, .i .u32 0] = True := eq_true rfl
theorem peq_zero (r : Int) (q : Nat) : peq [.i .i64 r, .i .u32 q] [.i .i64 0, .i .u32 0] = zeroB r q := by
 by_cases h : r = 0 ∧ q = 0
 · rw [show zeroB r q = true from decide_eq_true h]
   exact peqId_t (q' := 0) h
 · rw [show zeroB r q = false from decide_eq_false h]
   exact peqId_f (q' := 0) h
def placeB (e : Evt) : Bool := zeroB e.drep e.dseq || hasB e.dep e.drep e.dseq
theorem okPlace (e : Evt) {h d} : FunOk Try.prog 71 [.vec 21 (evE e)] h d (.pv (.b (placeB e))) [] := by
 refine fun_pure mixed fn71 (by simp) rfl rfl fun F => ?_
 have hl := evE_len e
 cases hz : zeroB e.drep e.dseq with
 | true =>
   have eb : placeB e = true := by simp [placeB, hz]
   (try simp only [bK1, bK2, bK3, bK4, bK5, bK6, bK7, bK8]); simp (maxSteps := 10000000) (disch := omega) only [ir71, ld_evDir, evE_len, fits_id, fits_id0, peq_zero, hz, eb, go_sem, ↓reduceIte, Nat.reduceEqDiff, Nat.reduceSub, Nat.reduceLeDiff, Nat.reduceAdd, Int.reduceEq, Int.reduceLT, Int.reduceLE]
 | false =>
   have eb : placeB e = hasB e.dep e.drep e.dseq := by simp [placeB, hz]
   (try simp only [bK1, bK2, bK3, bK4, bK5, bK6, bK7, bK8]); simp (maxSteps := 10000000) (disch := omega) only [ir71, ld_evDir, ld_evDep, evE_len, fits_id, fits_id0, peq_zero, hz, eb, go_sem, ↓reduceIte, Nat.reduceEqDiff, Nat.reduceSub, Nat.reduceLeDiff, Nat.reduceAdd, Int.reduceEq, Int.reduceLT, Int.reduceLE]
   refine call_with (okHasV _ _ _) ?_
   (try simp only [bK1, bK2, bK3, bK4, bK5, bK6, bK7, bK8]); simp (maxSteps := 10000000) (disch := omega) only [go_sem, ↓reduceIte, Nat.reduceEqDiff, Nat.reduceSub, Nat.reduceLeDiff, Nat.reduceAdd, Int.reduceEq, Int.reduceLT, Int.reduceLE]
def sizeB (n : Int) : Bool := decide (0 ≤ n ∧ n ≤ 200)
theorem okSize (n : Int) {h d} : FunOk Try.prog 70 [.pv (.i .i64 n)] h d (.pv (.b (sizeB n))) [] := by
 refine fun_pure mixed fn70 (by simp) rfl rfl fun F => ?_
 by_cases h1 : 0 ≤ n
 · have e : sizeB n = decide (n ≤ 200) := decide_eq_decide.2 (by omega)
   (try simp only [bK1, bK2, bK3, bK4, bK5, bK6, bK7, bK8]); simp (maxSteps := 10000000) (disch := omega) only [ir70, h1, e, go_sem, ↓reduceIte, Nat.reduceEqDiff, Nat.reduceSub, Nat.reduceLeDiff, Nat.reduceAdd, Int.reduceEq, Int.reduceLT, Int.reduceLE]
 · have e : sizeB n = false := decide_eq_false (by omega)
   (try simp only [bK1, bK2, bK3, bK4, bK5, bK6, bK7, bK8]); simp (maxSteps := 10000000) (disch := omega) only [ir70, h1, e, go_sem, ↓reduceIte, Nat.reduceEqDiff, Nat.reduceSub, Nat.reduceLeDiff, Nat.reduceAdd, Int.reduceEq, Int.reduceLT, Int.reduceLE]
def RiseP (a : Vc) (l : List Idn) : Prop := ∀ i, (h : i < l.length) → hasB a l[i].1 l[i].2 = true ∧ (0 < i → idLt l[i - 1].1 l[i - 1].2 l[i].1 l[i].2 = true)
open Classical in
noncomputable def riseB (a : Vc) (l : List Idn) : Bool := decide (RiseP a l)
theorem riseB_t {a : Vc} {l : List Idn} (h : RiseP a l) : riseB a l = true := by simp [riseB, h]
theorem riseB_f {a : Vc} {l : List Idn} (h : ¬ RiseP a l) : riseB a l = false := by simp [riseB, h]
theorem ld_idW (x : Idn) (K : KK) : LoadK (some (idE x)) 0 2 true K = K (.vec 2 [.i .i64 x.1, .i .u32 x.2]) [] := load_whole (by rfl) K
def stIds (f : Bool) (z : Nat) (l : List Idn) (a : Vc) (k : Nat) : FS := mk [(15, .pv (.i .i64 k)), (14, .pv (.i .i64 l.length)), (13, .pv (.sl f z (l.map idE))), (0, .pv (.sl f z (l.map idE))), (5, .p 5 0)] [(5, some (.var (.vec 8 (vE a))))]
noncomputable def idsB (l : List Idn) (most : Int) (a : Vc) : Bool := decide ((l.length : Int) ≤ most) && riseB a l
theorem rise_step {a : Vc} {l : List Idn} {k : Nat} (hk : ∀ i, (h : i < l.length) → i < k → hasB a l[i].1 l[i].2 = true ∧ (0 < i → idLt l[i - 1].1 l[i - 1].2 l[i].1 l[i].2 = true)) (hlt : k < l.length)
 (h1 : hasB a l[k].1 l[k].2 = true) (h2 : 0 < k → idLt l[k - 1].1 l[k - 1].2 l[k].1 l[k].2 = true) : ∀ i, (h : i < l.length) → i < k + 1 → hasB a l[i].1 l[i].2 = true ∧ (0 < i → idLt l[i - 1].1 l[i - 1].2 l[i].1 l[i].2 = true) := fun i h hi => by
 by_cases e : i = k
 · subst e; exact ⟨h1, h2⟩
 · exact hk i h (by omega)
set_option maxHeartbeats 2000000 in
theorem okIds {f : Bool} {z : Nat} {l : List Idn} {most : Int} {a : Vc} {h d} (hz : l = [] ∨ z = 2) (hn : l.length ≤ 1000) :
 FunOk Try.prog 74 [.pv (.sl f z (l.map idE)), .pv (.i .i64 most), .vec 8 (vE a)] h d (.pv (.b (idsB l most a))) [] := by
 refine fun_pure mixed fn74 (by simp) rfl rfl fun F => ?_
 by_cases hm : most < (l.length : Int)
 · have eb : idsB l most a = false := by
    have : ¬ (l.length : Int) ≤ most := by omega
    simp [idsB, this]
   (try simp only [bK1, bK2, bK3, bK4, bK5, bK6, bK7, bK8]); simp (maxSteps := 10000000) (disch := omega) only [ir74, List.length_map, hm, eb, go_sem, ↓reduceIte, Nat.reduceEqDiff, Nat.reduceSub, Nat.reduceLeDiff, Nat.reduceAdd, Int.reduceEq, Int.reduceLT, Int.reduceLE]
 have eb : idsB l most a = riseB a l := by
  have : (l.length : Int) ≤ most := by omega
  simp [idsB, this]
 rw [eb]
 (try simp only [bK1, bK2, bK3, bK4, bK5, bK6, bK7, bK8]); simp (maxSteps := 10000000) (disch := omega) only [ir74, List.length_map, hm, go_sem, ↓reduceIte, Nat.reduceEqDiff, Nat.reduceSub, Nat.reduceLeDiff, Nat.reduceAdd, Int.reduceEq, Int.reduceLT, Int.reduceLE]
 refine loop_ok mixed (stIds f z l a) (fun k => k ≤ l.length ∧ ∀ i, (h : i < l.length) → i < k → hasB a l[i].1 l[i].2 = true ∧ (0 < i → idLt l[i - 1].1 l[i - 1].2 l[i].1 l[i].2 = true)) (fun k => l.length - k) 0 (by simp) (weak_mk ?_ ?_) fun k hk => ?_
 · (try simp only [bK1, bK2, bK3, bK4, bK5, bK6, bK7, bK8]); simp (maxSteps := 10000000) (disch := omega) only [List.length_map, go_sem, ↓reduceIte, Nat.reduceEqDiff, Nat.reduceSub, Nat.reduceLeDiff, Nat.reduceAdd, Int.reduceEq, Int.reduceLT, Int.reduceLE]
 · (try simp only [bK1, bK2, bK3, bK4, bK5, bK6, bK7, bK8]); simp (maxSteps := 10000000) (disch := omega) only [go_sem, ↓reduceIte, Nat.reduceEqDiff, Nat.reduceSub, Nat.reduceLeDiff, Nat.reduceAdd, Int.reduceEq, Int.reduceLT, Int.reduceLE]
 obtain ⟨hk1, hk2⟩ := hk
 by_cases hlt : k < l.length
 · have hz2 : z = 2 := hz.resolve_left fun e => by subst e; simp at hlt
   subst hz2
   have he : (l.map idE)[k]? = some (idE l[k]) := by simp [hlt]
   have hst := rise_step hk2 hlt
   by_cases hh : hasB a l[k].1 l[k].2 = true
   · by_cases h0 : k = 0
     · subst h0
       have e0 : (l.map idE)[0]? = some (idE l[0]) := he
       (try simp only [bK1, bK2, bK3, bK4, bK5, bK6, bK7, bK8]); simp (maxSteps := 10000000) (disch := omega) only [stIds, List.length_map, he, e0, ld_idW, load_vE8, Int.natCast_zero, go_sem, ↓reduceIte, Nat.reduceEqDiff, Nat.reduceSub, Nat.reduceLeDiff, Nat.reduceAdd, Int.reduceEq, Int.reduceLT, Int.reduceLE]
       refine call_with (okHasV _ _ _) ?_
       (try simp only [bK1, bK2, bK3, bK4, bK5, bK6, bK7, bK8]); simp (maxSteps := 10000000) (disch := omega) only [hh, Int.natCast_zero, go_sem, ↓reduceIte, Nat.reduceEqDiff, Nat.reduceSub, Nat.reduceLeDiff, Nat.reduceAdd, Int.reduceEq, Int.reduceLT, Int.reduceLE]
       refine loop_next (x := (0 : Nat)) (1 : Nat) _ _ rfl ⟨by omega, hst hh (by omega)⟩ (by omega) ?_ ?_
       · (try simp only [bK1, bK2, bK3, bK4, bK5, bK6, bK7, bK8]); simp (maxSteps := 10000000) (disch := omega) only [go_sem, ↓reduceIte, Nat.reduceEqDiff, Nat.reduceSub, Nat.reduceLeDiff, Nat.reduceAdd, Int.reduceEq, Int.reduceLT, Int.reduceLE]
       · (try simp only [bK1, bK2, bK3, bK4, bK5, bK6, bK7, bK8]); simp (maxSteps := 10000000) (disch := omega) only [go_sem, ↓reduceIte, Nat.reduceEqDiff, Nat.reduceSub, Nat.reduceLeDiff, Nat.reduceAdd, Int.reduceEq, Int.reduceLT, Int.reduceLE]
     · have hk' : k - 1 < l.length := by omega
       have he' : (l.map idE)[k - 1]? = some (idE l[k - 1]) := by simp [hk']
       have ek : ((k : Int) - 1).toNat = k - 1 := by omega
       have hpos : (0 : Int) < k := by omega
       by_cases hlt2 : idLt l[k - 1].1 l[k - 1].2 l[k].1 l[k].2 = true
       · (try simp only [bK1, bK2, bK3, bK4, bK5, bK6, bK7, bK8]); simp (maxSteps := 10000000) (disch := omega) only [stIds, List.length_map, he, he', ek, hpos, ld_idW, load_vE8, go_sem, ↓reduceIte, Nat.reduceEqDiff, Nat.reduceSub, Nat.reduceLeDiff, Nat.reduceAdd, Int.reduceEq, Int.reduceLT, Int.reduceLE]
         refine call_with (okHasV _ _ _) ?_
         (try simp only [bK1, bK2, bK3, bK4, bK5, bK6, bK7, bK8]); simp (maxSteps := 10000000) (disch := omega) only [hh, he, he', ek, hpos, ld_idW, List.length_map, go_sem, ↓reduceIte, Nat.reduceEqDiff, Nat.reduceSub, Nat.reduceLeDiff, Nat.reduceAdd, Int.reduceEq, Int.reduceLT, Int.reduceLE]
         refine call_with (okLess _ _ _ _) ?_
         (try simp only [bK1, bK2, bK3, bK4, bK5, bK6, bK7, bK8]); simp (maxSteps := 10000000) (disch := omega) only [hlt2, go_sem, ↓reduceIte, Nat.reduceEqDiff, Nat.reduceSub, Nat.reduceLeDiff, Nat.reduceAdd, Int.reduceEq, Int.reduceLT, Int.reduceLE]
         refine loop_next (k + 1) _ _ rfl ⟨by omega, hst hh fun _ => hlt2⟩ (by omega) ?_ ?_
         · (try simp only [bK1, bK2, bK3, bK4, bK5, bK6, bK7, bK8]); simp (maxSteps := 10000000) (disch := omega) only [go_sem, ↓reduceIte, Nat.reduceEqDiff, Nat.reduceSub, Nat.reduceLeDiff, Nat.reduceAdd, Int.reduceEq, Int.reduceLT, Int.reduceLE]
         · (try simp only [bK1, bK2, bK3, bK4, bK5, bK6, bK7, bK8]); simp (maxSteps := 10000000) (disch := omega) only [go_sem, ↓reduceIte, Nat.reduceEqDiff, Nat.reduceSub, Nat.reduceLeDiff, Nat.reduceAdd, Int.reduceEq, Int.reduceLT, Int.reduceLE]
       · have hlt3 : idLt l[k - 1].1 l[k - 1].2 l[k].1 l[k].2 = false := by simpa using hlt2
         have er := riseB_f (a := a) (l := l) fun h => hlt2 ((h k hlt).2 (by omega))
         (try simp only [bK1, bK2, bK3, bK4, bK5, bK6, bK7, bK8]); simp (maxSteps := 10000000) (disch := omega) only [stIds, List.length_map, he, he', ek, hpos, ld_idW, load_vE8, go_sem, ↓reduceIte, Nat.reduceEqDiff, Nat.reduceSub, Nat.reduceLeDiff, Nat.reduceAdd, Int.reduceEq, Int.reduceLT, Int.reduceLE]
         refine call_with (okHasV _ _ _) ?_
         (try simp only [bK1, bK2, bK3, bK4, bK5, bK6, bK7, bK8]); simp (maxSteps := 10000000) (disch := omega) only [hh, he, he', ek, hpos, ld_idW, List.length_map, go_sem, ↓reduceIte, Nat.reduceEqDiff, Nat.reduceSub, Nat.reduceLeDiff, Nat.reduceAdd, Int.reduceEq, Int.reduceLT, Int.reduceLE]
         refine call_with (okLess _ _ _ _) ?_
         (try simp only [bK1, bK2, bK3, bK4, bK5, bK6, bK7, bK8]); simp (maxSteps := 10000000) (disch := omega) only [hlt3, er, stIds, go_sem, ↓reduceIte, Nat.reduceEqDiff, Nat.reduceSub, Nat.reduceLeDiff, Nat.reduceAdd, Int.reduceEq, Int.reduceLT, Int.reduceLE]
   · have hh' : hasB a l[k].1 l[k].2 = false := by simpa using hh
     have er := riseB_f (a := a) (l := l) fun h => hh (h k hlt).1
     (try simp only [bK1, bK2, bK3, bK4, bK5, bK6, bK7, bK8]); simp (maxSteps := 10000000) (disch := omega) only [stIds, List.length_map, he, ld_idW, load_vE8, go_sem, ↓reduceIte, Nat.reduceEqDiff, Nat.reduceSub, Nat.reduceLeDiff, Nat.reduceAdd, Int.reduceEq, Int.reduceLT, Int.reduceLE]
     refine call_with (okHasV _ _ _) ?_
     (try simp only [bK1, bK2, bK3, bK4, bK5, bK6, bK7, bK8]); simp (maxSteps := 10000000) (disch := omega) only [hh', er, stIds, go_sem, ↓reduceIte, Nat.reduceEqDiff, Nat.reduceSub, Nat.reduceLeDiff, Nat.reduceAdd, Int.reduceEq, Int.reduceLT, Int.reduceLE]
 · obtain rfl : k = l.length := by omega
   have er := riseB_t (a := a) (l := l) fun i h => hk2 i h h
   (try simp only [bK1, bK2, bK3, bK4, bK5, bK6, bK7, bK8]); simp (maxSteps := 10000000) (disch := omega) only [stIds, List.length_map, er, stIds, go_sem, ↓reduceIte, Nat.reduceEqDiff, Nat.reduceSub, Nat.reduceLeDiff, Nat.reduceAdd, Int.reduceEq, Int.reduceLT, Int.reduceLE]
def stRise (f : Bool) (z : Nat) (l : List Idn) (a : Vc) (k : Nat) : FS := mk [(5, .pv (.i .i64 k)), (0, .pv (.sl f z (l.map idE))), (3, .p 3 0)] [(3, some (.var (.vec 8 (vE a))))]
set_option maxHeartbeats 2000000 in
theorem okRise {f : Bool} {z : Nat} {l : List Idn} {a : Vc} {h d} (hz : l = [] ∨ z = 2) (hn : l.length ≤ 1000) :
 FunOk Try.prog 78 [.pv (.sl f z (l.map idE)), .vec 8 (vE a)] h d (.pv (.b (riseB a l))) [] := by
 refine fun_pure mixed fn78 (by simp) rfl rfl fun F => ?_
 (try simp only [bK1, bK2, bK3, bK4, bK5, bK6, bK7, bK8]); simp (maxSteps := 10000000) (disch := omega) only [ir78, List.length_map, go_sem, ↓reduceIte, Nat.reduceEqDiff, Nat.reduceSub, Nat.reduceLeDiff, Nat.reduceAdd, Int.reduceEq, Int.reduceLT, Int.reduceLE]
 refine loop_ok mixed (stRise f z l a) (fun k => k ≤ l.length ∧ ∀ i, (h : i < l.length) → i < k → hasB a l[i].1 l[i].2 = true ∧ (0 < i → idLt l[i - 1].1 l[i - 1].2 l[i].1 l[i].2 = true)) (fun k => l.length - k) 0 (by simp) (weak_mk ?_ ?_) fun k hk => ?_
 · (try simp only [bK1, bK2, bK3, bK4, bK5, bK6, bK7, bK8]); simp (maxSteps := 10000000) (disch := omega) only [go_sem, ↓reduceIte, Nat.reduceEqDiff, Nat.reduceSub, Nat.reduceLeDiff, Nat.reduceAdd, Int.reduceEq, Int.reduceLT, Int.reduceLE]
 · (try simp only [bK1, bK2, bK3, bK4, bK5, bK6, bK7, bK8]); simp (maxSteps := 10000000) (disch := omega) only [go_sem, ↓reduceIte, Nat.reduceEqDiff, Nat.reduceSub, Nat.reduceLeDiff, Nat.reduceAdd, Int.reduceEq, Int.reduceLT, Int.reduceLE]
 obtain ⟨hk1, hk2⟩ := hk
 by_cases hlt : k < l.length
 · have hz2 : z = 2 := hz.resolve_left fun e => by subst e; simp at hlt
   subst hz2
   have he : (l.map idE)[k]? = some (idE l[k]) := by simp [hlt]
   have hst := rise_step hk2 hlt
   by_cases hh : hasB a l[k].1 l[k].2 = true
   · by_cases h0 : k = 0
     · subst h0
       have e0 : (l.map idE)[0]? = some (idE l[0]) := he
       (try simp only [bK1, bK2, bK3, bK4, bK5, bK6, bK7, bK8]); simp (maxSteps := 10000000) (disch := omega) only [stRise, List.length_map, he, e0, ld_idW, load_vE8, Int.natCast_zero, go_sem, ↓reduceIte, Nat.reduceEqDiff, Nat.reduceSub, Nat.reduceLeDiff, Nat.reduceAdd, Int.reduceEq, Int.reduceLT, Int.reduceLE]
       refine call_with (okHasR _ _ _) ?_
       (try simp only [bK1, bK2, bK3, bK4, bK5, bK6, bK7, bK8]); simp (maxSteps := 10000000) (disch := omega) only [hh, Int.natCast_zero, go_sem, ↓reduceIte, Nat.reduceEqDiff, Nat.reduceSub, Nat.reduceLeDiff, Nat.reduceAdd, Int.reduceEq, Int.reduceLT, Int.reduceLE]
       refine loop_next (x := (0 : Nat)) (1 : Nat) _ _ rfl ⟨by omega, hst hh (by omega)⟩ (by omega) ?_ ?_
       · (try simp only [bK1, bK2, bK3, bK4, bK5, bK6, bK7, bK8]); simp (maxSteps := 10000000) (disch := omega) only [go_sem, ↓reduceIte, Nat.reduceEqDiff, Nat.reduceSub, Nat.reduceLeDiff, Nat.reduceAdd, Int.reduceEq, Int.reduceLT, Int.reduceLE]
       · (try simp only [bK1, bK2, bK3, bK4, bK5, bK6, bK7, bK8]); simp (maxSteps := 10000000) (disch := omega) only [go_sem, ↓reduceIte, Nat.reduceEqDiff, Nat.reduceSub, Nat.reduceLeDiff, Nat.reduceAdd, Int.reduceEq, Int.reduceLT, Int.reduceLE]
     · have hk' : k - 1 < l.length := by omega
       have he' : (l.map idE)[k - 1]? = some (idE l[k - 1]) := by simp [hk']
       have ek : ((k : Int) - 1).toNat = k - 1 := by omega
       have hpos : (0 : Int) < k := by omega
       by_cases hlt2 : idLt l[k - 1].1 l[k - 1].2 l[k].1 l[k].2 = true
       · (try simp only [bK1, bK2, bK3, bK4, bK5, bK6, bK7, bK8]); simp (maxSteps := 10000000) (disch := omega) only [stRise, List.length_map, he, he', ek, hpos, ld_idW, load_vE8, go_sem, ↓reduceIte, Nat.reduceEqDiff, Nat.reduceSub, Nat.reduceLeDiff, Nat.reduceAdd, Int.reduceEq, Int.reduceLT, Int.reduceLE]
         refine call_with (okHasR _ _ _) ?_
         (try simp only [bK1, bK2, bK3, bK4, bK5, bK6, bK7, bK8]); simp (maxSteps := 10000000) (disch := omega) only [hh, he, he', ek, hpos, ld_idW, List.length_map, go_sem, ↓reduceIte, Nat.reduceEqDiff, Nat.reduceSub, Nat.reduceLeDiff, Nat.reduceAdd, Int.reduceEq, Int.reduceLT, Int.reduceLE]
         refine call_with (okLessR _ _ _ _) ?_
         (try simp only [bK1, bK2, bK3, bK4, bK5, bK6, bK7, bK8]); simp (maxSteps := 10000000) (disch := omega) only [hlt2, go_sem, ↓reduceIte, Nat.reduceEqDiff, Nat.reduceSub, Nat.reduceLeDiff, Nat.reduceAdd, Int.reduceEq, Int.reduceLT, Int.reduceLE]
         refine loop_next (k + 1) _ _ rfl ⟨by omega, hst hh fun _ => hlt2⟩ (by omega) ?_ ?_
         · (try simp only [bK1, bK2, bK3, bK4, bK5, bK6, bK7, bK8]); simp (maxSteps := 10000000) (disch := omega) only [go_sem, ↓reduceIte, Nat.reduceEqDiff, Nat.reduceSub, Nat.reduceLeDiff, Nat.reduceAdd, Int.reduceEq, Int.reduceLT, Int.reduceLE]
         · (try simp only [bK1, bK2, bK3, bK4, bK5, bK6, bK7, bK8]); simp (maxSteps := 10000000) (disch := omega) only [go_sem, ↓reduceIte, Nat.reduceEqDiff, Nat.reduceSub, Nat.reduceLeDiff, Nat.reduceAdd, Int.reduceEq, Int.reduceLT, Int.reduceLE]
       · have hlt3 : idLt l[k - 1].1 l[k - 1].2 l[k].1 l[k].2 = false := by simpa using hlt2
         have er := riseB_f (a := a) (l := l) fun h => hlt2 ((h k hlt).2 (by omega))
         (try simp only [bK1, bK2, bK3, bK4, bK5, bK6, bK7, bK8]); simp (maxSteps := 10000000) (disch := omega) only [stRise, List.length_map, he, he', ek, hpos, ld_idW, load_vE8, go_sem, ↓reduceIte, Nat.reduceEqDiff, Nat.reduceSub, Nat.reduceLeDiff, Nat.reduceAdd, Int.reduceEq, Int.reduceLT, Int.reduceLE]
         refine call_with (okHasR _ _ _) ?_
         (try simp only [bK1, bK2, bK3, bK4, bK5, bK6, bK7, bK8]); simp (maxSteps := 10000000) (disch := omega) only [hh, he, he', ek, hpos, ld_idW, List.length_map, go_sem, ↓reduceIte, Nat.reduceEqDiff, Nat.reduceSub, Nat.reduceLeDiff, Nat.reduceAdd, Int.reduceEq, Int.reduceLT, Int.reduceLE]
         refine call_with (okLessR _ _ _ _) ?_
         (try simp only [bK1, bK2, bK3, bK4, bK5, bK6, bK7, bK8]); simp (maxSteps := 10000000) (disch := omega) only [hlt3, er, stRise, go_sem, ↓reduceIte, Nat.reduceEqDiff, Nat.reduceSub, Nat.reduceLeDiff, Nat.reduceAdd, Int.reduceEq, Int.reduceLT, Int.reduceLE]
   · have hh' : hasB a l[k].1 l[k].2 = false := by simpa using hh
     have er := riseB_f (a := a) (l := l) fun h => hh (h k hlt).1
     (try simp only [bK1, bK2, bK3, bK4, bK5, bK6, bK7, bK8]); simp (maxSteps := 10000000) (disch := omega) only [stRise, List.length_map, he, ld_idW, load_vE8, go_sem, ↓reduceIte, Nat.reduceEqDiff, Nat.reduceSub, Nat.reduceLeDiff, Nat.reduceAdd, Int.reduceEq, Int.reduceLT, Int.reduceLE]
     refine call_with (okHasR _ _ _) ?_
     (try simp only [bK1, bK2, bK3, bK4, bK5, bK6, bK7, bK8]); simp (maxSteps := 10000000) (disch := omega) only [hh', er, stRise, go_sem, ↓reduceIte, Nat.reduceEqDiff, Nat.reduceSub, Nat.reduceLeDiff, Nat.reduceAdd, Int.reduceEq, Int.reduceLT, Int.reduceLE]
 · obtain rfl : k = l.length := by omega
   have er := riseB_t (a := a) (l := l) fun i h => hk2 i h h
   (try simp only [bK1, bK2, bK3, bK4, bK5, bK6, bK7, bK8]); simp (maxSteps := 10000000) (disch := omega) only [stRise, List.length_map, er, stRise, go_sem, ↓reduceIte, Nat.reduceEqDiff, Nat.reduceSub, Nat.reduceLeDiff, Nat.reduceAdd, Int.reduceEq, Int.reduceLT, Int.reduceLE]
end Go.Proofs.Ytfkmlmckihmihaa.Fw
namespace Go.Proofs.Ytfkmlmckihmihaa.Fw
def numB (n : Nat) : List UInt8 := if h : n = 0 then [] else numB (n / 256) ++ [UInt8.ofNat (n % 256)]
decreasing_by omega
theorem numB_0 : numB 0 = [] := by unfold numB; simp
theorem numB_pos {n : Nat} (h : n ≠ 0) : numB n = numB (n / 256) ++ [UInt8.ofNat (n % 256)] := by conv => lhs; unfold numB; rw [dif_neg h]
theorem numB_len_pos {n : Nat} : 0 < (numB n).length ↔ n ≠ 0 := by
 constructor
 · intro h e; subst e; rw [numB_0] at h; simp at h
 · intro h; rw [numB_pos h]; simp
theorem numB_len : ∀ (k n : Nat), n < 256 ^ k → (numB n).length ≤ k
 | 0, n, h => by
   have : n = 0 := by simpa using h
   subst this; rw [numB_0]; simp
 | k + 1, n, h => by
   by_cases hn : n = 0
   · subst hn; rw [numB_0]; simp
   · rw [numB_pos hn, List.length_append]
     have := numB_len k (n / 256) (by
      rw [Nat.pow_succ] at h
      exact Nat.div_lt_of_lt_mul (by rw [Nat.mul_comm]; exact h))
     simp; exact this
def valB (l : List UInt8) : Nat := l.foldl (fun n c => n * 256 + c.toNat) 0
theorem valB_snoc (l : List UInt8) (c : UInt8) : valB (l ++ [c]) = valB l * 256 + c.toNat := by simp [valB]
theorem valB_numB (n : Nat) : valB (numB n) = n := by
 induction n using Nat.strongRecOn with
 | _ n ih =>
   by_cases hn : n = 0
   · subst hn; rw [numB_0]; rfl
   · rw [numB_pos hn, valB_snoc, ih _ (by omega), UInt8.toNat_ofNat']
     have : n % 256 % 2 ^ 8 = n % 256 := Nat.mod_eq_of_lt (by omega)
     rw [this]; omega
theorem snoc_ind {p : List UInt8 → Prop} (h0 : p []) (h1 : ∀ l c, p l → p (l ++ [c])) (l : List UInt8) : p l := by
 have key : ∀ l : List UInt8, p l.reverse := fun l => by
  induction l with
  | nil => exact h0
  | cons c l ih => rw [List.reverse_cons]; exact h1 _ _ ih
 have := key l.reverse
 rwa [List.reverse_reverse] at this
theorem valB_lt (l : List UInt8) : valB l < 256 ^ l.length := by
 refine snoc_ind (p := fun l => valB l < 256 ^ l.length) (by simp [valB]) (fun l c ih => ?_) l
 rw [valB_snoc, List.length_append, List.length_singleton, Nat.pow_succ]
 have := c.toNat_lt
 omega
theorem head_ne (l : List UInt8) (c : UInt8) (h : l ≠ []) : (l ++ [c]).head? = l.head? := by cases l <;> simp_all
theorem numB_valB (l : List UInt8) : numB (valB l) = l ↔ l.head? ≠ some 0 := by
 refine snoc_ind (p := fun l => numB (valB l) = l ↔ l.head? ≠ some 0) (by simp [valB, numB_0]) (fun l c ih => ?_) l
 rw [valB_snoc]
 have hc := c.toNat_lt
 have hcc : UInt8.ofNat c.toNat = c := UInt8.ofNat_toNat
 by_cases hl : l = []
 · subst hl
   have hv : valB [] = 0 := rfl
   rw [hv, Nat.zero_mul, Nat.zero_add, List.nil_append]
   simp only [List.head?_cons, ne_eq, Option.some.injEq]
   by_cases h0 : c.toNat = 0
   · have : c = 0 := UInt8.toNat_inj.1 (by simpa using h0)
     subst this
     simp [numB_0]
   · have hne : c ≠ 0 := fun e => h0 (by rw [e]; rfl)
     rw [numB_pos h0, show c.toNat / 256 = 0 from by omega, numB_0, show c.toNat % 256 = c.toNat from by omega, hcc]
     simp [hne]
 · rw [head_ne l c hl]
   have hlen : valB l ≠ 0 → numB (valB l * 256 + c.toNat) = numB (valB l) ++ [c] := fun hv => by
    rw [numB_pos (by omega), show (valB l * 256 + c.toNat) / 256 = valB l from by omega, show (valB l * 256 + c.toNat) % 256 = c.toNat from by omega, hcc]
   constructor
   · intro e
     by_cases hv : valB l = 0
     · intro hh
       rw [hv, Nat.zero_mul, Nat.zero_add] at e
       have h1 := congrArg List.length e
       have h2 := numB_len 1 c.toNat (by omega)
       have h3 : 0 < l.length := List.length_pos_iff.2 hl
       simp at h1; omega
     · rw [hlen hv] at e
       exact ih.1 (List.append_cancel_right e)
   · intro hh
     have e := ih.2 hh
     have hv : valB l ≠ 0 := fun hv => by rw [hv, numB_0] at e; exact hl e.symm
     rw [hlen hv, e]
theorem valB_lt8 {l : List UInt8} (h : l.length ≤ 8) : valB l < 18446744073709551616 := by
 have h1 := valB_lt l
 have h2 : 256 ^ l.length ≤ 256 ^ 8 := Nat.pow_le_pow_right (by omega) h
 omega
def asNum (l : List UInt8) : Nat × Int := if 8 < l.length then (0, 4) else if l.head? = some 0 then (0, 7) else (valB l, 0)
theorem asNum_lt (l : List UInt8) : (asNum l).1 < 18446744073709551616 := by
 unfold asNum
 split
 · simp
 · split
   · simp
   · exact valB_lt8 (by omega)
end Go.Proofs.Ytfkmlmckihmihaa.Fw
namespace Go.Proofs.Ytfkmlmckihmihaa.Fw
def fieldB (f : List UInt8) : List UInt8 := if f.length < 255 then UInt8.ofNat f.length :: f else 255 :: UInt8.ofNat (f.length / 256) :: UInt8.ofNat f.length :: f
def packB : List (List UInt8) → List UInt8
 | [] => []
 | f :: l => fieldB f ++ packB l
theorem packB_app : ∀ (a b : List (List UInt8)), packB (a ++ b) = packB a ++ packB b
 | [], b => rfl
 | f :: a, b => by simp only [List.cons_append, packB, packB_app a b, List.append_assoc]
theorem fieldB_short {f : List UInt8} (h : f.length < 255) : fieldB f = UInt8.ofNat f.length :: f := if_pos h
theorem fieldB_long {f : List UInt8} (h : ¬ f.length < 255) : fieldB f = 255 :: UInt8.ofNat (f.length / 256) :: UInt8.ofNat f.length :: f := if_neg h
theorem fieldB_len (f : List UInt8) : (fieldB f).length = f.length + if f.length < 255 then 1 else 3 := by
 unfold fieldB; split <;> simp
theorem fieldB_ne (f : List UInt8) : fieldB f ≠ [] := by unfold fieldB; split <;> simp
def headL (l : List UInt8) : Nat × Nat × Int :=
 if (l.getD 0 0).toNat < 255 then ((l.getD 0 0).toNat, 1, 0)
 else if l.length < 3 then (0, 0, 8)
 else if (l.getD 1 0).toNat * 256 + (l.getD 2 0).toNat < 255 then (0, 0, 7)
 else ((l.getD 1 0).toNat * 256 + (l.getD 2 0).toNat, 3, 0)
def errL (l : List UInt8) : Int := if (headL l).2.2 = 0 then if l.length < (headL l).2.1 + (headL l).1 then 8 else 0 else (headL l).2.2
def fldL (l : List UInt8) : List UInt8 := (l.drop (headL l).2.1).take (headL l).1
def rstL (l : List UInt8) : List UInt8 := l.drop ((headL l).2.1 + (headL l).1)
theorem headL_from {l : List UInt8} (h : (headL l).2.2 = 0) : 1 ≤ (headL l).2.1 := by
 unfold headL at *
 split
 · simp
 · rename_i h1
   rw [if_neg h1] at h
   split
   · rename_i h2; rw [if_pos h2] at h; simp at h
   · rename_i h2
     rw [if_neg h2] at h
     split
     · rename_i h3; rw [if_pos h3] at h; simp at h
     · simp
theorem errL_head {l : List UInt8} (h : errL l = 0) : (headL l).2.2 = 0 ∧ (headL l).2.1 + (headL l).1 ≤ l.length := by
 unfold errL at h
 split at h
 · rename_i h1
   split at h
   · cases h
   · exact ⟨h1, by omega⟩
 · rename_i h1; exact absurd h h1
theorem rstL_lt {l : List UInt8} (hl : l ≠ []) (h : errL l = 0) : (rstL l).length < l.length := by
 obtain ⟨h1, h2⟩ := errL_head h
 have := headL_from h1
 have := List.length_pos_iff.2 hl
 unfold rstL
 rw [List.length_drop]; omega
def unpackG (l : List UInt8) (out : List (List UInt8)) (most : Int) : List (List UInt8) × Int :=
 if hl : l = [] then (out, 0)
 else if h : errL l = 0 then
  if most ≤ out.length then ([], 4) else unpackG (rstL l) (out ++ [fldL l]) most
 else ([], errL l)
termination_by l.length
decreasing_by exact rstL_lt hl h
theorem unpackG_nil (out most) : unpackG [] out most = (out, 0) := by rw [unpackG]; simp
theorem unpackG_err {l out most} (hl : l ≠ []) (h : errL l ≠ 0) : unpackG l out most = ([], errL l) := by rw [unpackG, dif_neg hl, dif_neg h]
theorem unpackG_full {l out} {most : Int} (hl : l ≠ []) (h : errL l = 0) (hm : most ≤ out.length) : unpackG l out most = ([], 4) := by rw [unpackG, dif_neg hl, dif_pos h, if_pos hm]
theorem unpackG_go {l out} {most : Int} (hl : l ≠ []) (h : errL l = 0) (hm : ¬ most ≤ out.length) : unpackG l out most = unpackG (rstL l) (out ++ [fldL l]) most := by rw [unpackG, dif_neg hl, dif_pos h, if_neg hm]
theorem toNat_ofNat_lt {n : Nat} (h : n < 256) : (UInt8.ofNat n).toNat = n := by rw [UInt8.toNat_ofNat']; exact Nat.mod_eq_of_lt h
theorem head_field (f r : List UInt8) (hf : f.length ≤ 65535) : headL (fieldB f ++ r) = (f.length, (if f.length < 255 then 1 else 3), 0) := by
 unfold headL fieldB
 by_cases h : f.length < 255
 · simp only [if_pos h, List.cons_append, List.getD_cons_zero]
   rw [toNat_ofNat_lt (by omega), if_pos h]
 · simp only [if_neg h, List.cons_append, List.getD_cons_zero, List.getD_cons_succ, List.length_cons]
   rw [if_neg (by decide), if_neg (by omega), toNat_ofNat_lt (by omega), UInt8.toNat_ofNat']
   have : f.length / 256 * 256 + f.length % 2 ^ 8 = f.length := by omega
   rw [this, if_neg h]
theorem field_drop (f r : List UInt8) : (fieldB f ++ r).drop (if f.length < 255 then 1 else 3) = f ++ r := by
 unfold fieldB
 by_cases h : f.length < 255
 · simp [if_pos h]
 · simp [if_neg h]
theorem err_field (f r : List UInt8) (hf : f.length ≤ 65535) : errL (fieldB f ++ r) = 0 := by
 unfold errL
 rw [head_field f r hf]
 simp only [if_true]
 rw [if_neg]
 rw [List.length_append, fieldB_len]
 omega
theorem fld_field (f r : List UInt8) (hf : f.length ≤ 65535) : fldL (fieldB f ++ r) = f := by
 unfold fldL
 rw [head_field f r hf]
 simp only
 rw [field_drop, List.take_left]
theorem rst_field (f r : List UInt8) (hf : f.length ≤ 65535) : rstL (fieldB f ++ r) = r := by
 unfold rstL
 rw [head_field f r hf]
 simp only
 rw [← List.drop_drop, field_drop, List.drop_left]
theorem unpack_pack (r : List UInt8) : ∀ (l out : List (List UInt8)) (most : Int), (∀ f ∈ l, f.length ≤ 65535) → (out.length + l.length : Int) ≤ most → unpackG (packB l ++ r) out most = unpackG r (out ++ l) most
 | [], out, most, _, _ => by simp [packB]
 | f :: l, out, most, hl, hm => by
   simp only [packB, List.append_assoc]
   have hf := hl f List.mem_cons_self
   simp only [List.length_cons] at hm
   rw [unpackG_go (by simp [fieldB_ne]) (err_field f _ hf) (by omega), fld_field f _ hf, rst_field f _ hf]
   rw [unpack_pack r l (out ++ [f]) most (fun g hg => hl g (List.mem_cons_of_mem _ hg)) (by simp; omega)]
   simp
theorem unpack_all (l : List (List UInt8)) (most : Int) (hl : ∀ f ∈ l, f.length ≤ 65535) (hm : (l.length : Int) ≤ most) : unpackG (packB l) [] most = (l, 0) := by
 have := unpack_pack [] l [] most hl (by simpa using hm)
 rw [List.append_nil] at this
 rw [this, unpackG_nil]; simp
end Go.Proofs.Ytfkmlmckihmihaa.Fw
namespace Go.Proofs.Ytfkmlmckihmihaa.Fw
def amountB (n : Nat) : List UInt8 := UInt8.ofNat (numB n).length :: numB n
def maskTo (p : Nat → Bool) : Nat → Nat
 | 0 => 0
 | k + 1 => if p k = true then maskTo p k + 2 ^ k else maskTo p k
theorem maskTo_lt (p : Nat → Bool) : ∀ k, maskTo p k < 2 ^ k
 | 0 => by simp [maskTo]
 | k + 1 => by
   have := maskTo_lt p k
   simp only [maskTo]
   rw [Nat.pow_succ]
   split <;> omega
theorem maskTo_bit (p : Nat → Bool) (i : Nat) : ∀ k, maskTo p k / 2 ^ i % 2 = if i < k ∧ p i = true then 1 else 0
 | 0 => by simp [maskTo]
 | k + 1 => by
   have ih := maskTo_bit p i k
   have hlt := maskTo_lt p k
   simp only [maskTo]
   by_cases hk : p k = true
   · rw [if_pos hk]
     by_cases h1 : i < k
     · have e : 2 ^ k = 2 * (2 ^ (k - 1 - i)) * 2 ^ i := by
        rw [← Nat.pow_succ', ← Nat.pow_add]; congr 1; omega
       rw [e, Nat.add_mul_div_right _ _ (Nat.two_pow_pos i)]
       rw [Nat.add_mul_mod_self_left, ih]
       simp [h1, show i < k + 1 from by omega]
     · by_cases h2 : i = k
       · subst h2
         rw [Nat.add_div_right _ (Nat.two_pow_pos i), Nat.div_eq_of_lt hlt]
         simp [hk]
       · have h3 : maskTo p k + 2 ^ k < 2 ^ i := by
          have : 2 ^ (k + 1) ≤ 2 ^ i := Nat.pow_le_pow_right (by omega) (by omega)
          rw [Nat.pow_succ] at this; omega
         rw [Nat.div_eq_of_lt h3, if_neg (by omega)]
   · rw [if_neg hk, ih]
     by_cases h2 : i = k
     · subst h2; simp [hk]
     · have : (i < k) ↔ (i < k + 1) := by omega
       simp only [this]
theorem and_bit (m s i : Nat) : (m &&& s).testBit i = (decide (m / 2 ^ i % 2 = 1) && decide (s / 2 ^ i % 2 = 1)) := by
 rw [Nat.testBit_and, Nat.testBit_eq_decide_div_mod_eq, Nat.testBit_eq_decide_div_mod_eq]
theorem and_zero {m s : Nat} (hm : m < 256) : m &&& s = 0 ↔ ∀ i, i < 8 → ¬ (m / 2 ^ i % 2 = 1 ∧ s / 2 ^ i % 2 = 1) := by
 constructor
 · intro h i _ ⟨h1, h2⟩
   have := and_bit m s i
   rw [h, Nat.zero_testBit, decide_eq_true h1, decide_eq_true h2] at this
   cases this
 · intro h
   apply Nat.eq_of_testBit_eq
   intro i
   rw [and_bit, Nat.zero_testBit]
   by_cases hi : i < 8
   · have := h i hi
     by_cases h1 : m / 2 ^ i % 2 = 1
     · have h2 : ¬ s / 2 ^ i % 2 = 1 := fun h2 => this ⟨h1, h2⟩
       rw [decide_eq_false h2, Bool.and_false]
     · rw [decide_eq_false h1, Bool.false_and]
   · have h3 : m < 2 ^ i := Nat.lt_of_lt_of_le hm (by
      have : 2 ^ 8 ≤ 2 ^ i := Nat.pow_le_pow_right (by omega) (by omega)
      exact this)
     have h1 : ¬ m / 2 ^ i % 2 = 1 := by rw [Nat.div_eq_of_lt h3]; simp
     rw [decide_eq_false h1, Bool.false_and]
def dA (x y : Nat) : List UInt8 := if y < x then amountB (x - y) else if x < y then amountB (y - x) else []
def byTo (v base : Nat → Nat) : Nat → List UInt8
 | 0 => []
 | k + 1 => byTo v base k ++ dA (v k) (base k)
def byFrom (v base : Nat → Nat) : Nat → Nat → List UInt8
 | i, 0 => []
 | i, n + 1 => dA (v i) (base i) ++ byFrom v base (i + 1) n
theorem byFrom_snoc (v base : Nat → Nat) : ∀ n i, byFrom v base i (n + 1) = byFrom v base i n ++ dA (v (i + n)) (base (i + n))
 | 0, i => by simp [byFrom]
 | n + 1, i => by
   have := byFrom_snoc v base n (i + 1)
   rw [byFrom, this, byFrom, List.append_assoc, show i + 1 + n = i + (n + 1) from by omega]
theorem byTo_from (v base : Nat → Nat) : ∀ k, byTo v base k = byFrom v base 0 k
 | 0 => rfl
 | k + 1 => by rw [byTo, byTo_from v base k, byFrom_snoc, Nat.zero_add]
def moreP (v base : Nat → Nat) (i : Nat) : Bool := decide (base i < v i)
def lessP (v base : Nat → Nat) (i : Nat) : Bool := decide (v i < base i)
def shrinkB (v base : Nat → Nat) : List UInt8 := UInt8.ofNat (maskTo (moreP v base) 8) :: UInt8.ofNat (maskTo (lessP v base) 8) :: byTo v base 8
theorem amountB_len {n : Nat} (h : n < 4294967296) : (amountB n).length ≤ 5 := by
 have := numB_len 4 n h
 simp [amountB]; omega
theorem byTo_len (v base : Nat → Nat) (hv : ∀ i, i < 8 → v i < 4294967296) (hb : ∀ i, i < 8 → base i < 4294967296) : ∀ k, k ≤ 8 → (byTo v base k).length ≤ 5 * k
 | 0, _ => by simp [byTo]
 | k + 1, h => by
   have := byTo_len v base hv hb k (by omega)
   have h1 := hv k (by omega)
   have h2 := hb k (by omega)
   simp only [byTo, List.length_append]
   have : (dA (v k) (base k)).length ≤ 5 := by
    unfold dA
    split
    · exact amountB_len (by omega)
    · split
      · exact amountB_len (by omega)
      · simp
   omega
inductive RdR where
 | skip
 | err (e : Int)
 | val (x : Int) (rest : List UInt8)
def rdNum (sg : Int) (rest : List UInt8) : RdR :=
 if rest.length = 0 ∨ rest.length - 1 < (rest.getD 0 0).toNat then .err 8
 else if (asNum ((rest.take (1 + (rest.getD 0 0).toNat)).drop 1)).2 ≠ 0 ∨ (asNum ((rest.take (1 + (rest.getD 0 0).toNat)).drop 1)).1 = 0 ∨ 4294967295 < (asNum ((rest.take (1 + (rest.getD 0 0).toNat)).drop 1)).1 then .err 7
 else .val (sg * ((asNum ((rest.take (1 + (rest.getD 0 0).toNat)).drop 1)).1 : Int)) (rest.drop (1 + (rest.getD 0 0).toNat))
def rdOne (m s i : Nat) (rest : List UInt8) : RdR :=
 if s / 2 ^ i % 2 = 1 then rdNum (-1) rest else if m / 2 ^ i % 2 = 0 then .skip else rdNum 1 rest
def zI : Nat → Int := fun _ => 0
def setI (a : Nat → Int) (k : Nat) (x : Int) : Nat → Int := fun i => if i = k then x else a i
def rdFrom (m s : Nat) : Nat → Nat → (Nat → Int) → List UInt8 → (Nat → Int) × Int
 | 0, i, t, rest => if rest.length = 0 then (t, 0) else (zI, 4)
 | n + 1, i, t, rest => match rdOne m s i rest with
   | .skip => rdFrom m s n (i + 1) t rest
   | .err e => (zI, e)
   | .val x rest' => rdFrom m s n (i + 1) (setI t i x) rest'
def readB (l : List UInt8) : (Nat → Int) × Int :=
 if l.length < 2 then (zI, 8)
 else if (l.getD 0 0).toNat &&& (l.getD 1 0).toNat ≠ 0 then (zI, 7)
 else rdFrom (l.getD 0 0).toNat (l.getD 1 0).toNat 8 0 zI (l.drop 2)
theorem rdFrom_bound (m s : Nat) : ∀ n i t rest, (∀ j, -4294967296 < t j ∧ t j < 4294967296) → ∀ j, -4294967296 < (rdFrom m s n i t rest).1 j ∧ (rdFrom m s n i t rest).1 j < 4294967296
 | 0, i, t, rest, h, j => by
   simp only [rdFrom]
   split
   · exact h j
   · simp [zI]
 | n + 1, i, t, rest, h, j => by
   simp only [rdFrom]
   split
   · exact rdFrom_bound m s n _ _ _ h j
   · simp [zI]
   · rename_i x rest' hx
     refine rdFrom_bound m s n _ _ _ (fun k => ?_) j
     unfold setI
     split
     · have key : ∀ sg : Int, (sg = 1 ∨ sg = -1) → rdNum sg rest = .val x rest' → -4294967296 < x ∧ x < 4294967296 := fun sg hsg he => by
        unfold rdNum at he
        split at he
        · cases he
        · split at he
          · cases he
          · rename_i hn
            cases he
            generalize (asNum ((rest.take (1 + (rest.getD 0 0).toNat)).drop 1)).1 = q at hn
            rcases hsg with rfl | rfl <;> omega
       unfold rdOne at hx
       split at hx
       · exact key _ (.inr rfl) hx
       · split at hx
         · cases hx
         · exact key _ (.inl rfl) hx
     · exact h k
theorem readB_bound (l : List UInt8) (j : Nat) : -4294967296 < (readB l).1 j ∧ (readB l).1 j < 4294967296 := by
 unfold readB
 split
 · simp [zI]
 · split
   · simp [zI]
   · exact rdFrom_bound _ _ _ _ _ _ (fun j => by simp [zI]) j
theorem asNum_numB {n : Nat} (h : n < 18446744073709551616) : asNum (numB n) = (n, 0) := by
 have hl := numB_len 8 n h
 have hh := (numB_valB (numB n)).1 (by rw [valB_numB])
 unfold asNum
 rw [if_neg (by omega), if_neg hh, valB_numB]
theorem rdNum_amount (sg : Int) (n : Nat) (h0 : n ≠ 0) (h : n < 4294967296) (rest : List UInt8) : rdNum sg (amountB n ++ rest) = .val (sg * n) rest := by
 have hl := numB_len 4 n h
 have e0 : ((amountB n ++ rest).getD 0 0).toNat = (numB n).length := by
  simp only [amountB, List.cons_append, List.getD_cons_zero]
  rw [UInt8.toNat_ofNat']
  exact Nat.mod_eq_of_lt (by omega)
 have e1 : ((amountB n ++ rest).take (1 + (numB n).length)).drop 1 = numB n := by
  rw [Nat.add_comm]
  simp only [amountB, List.cons_append, List.take_succ_cons, List.drop_succ_cons, List.drop_zero]
  exact List.take_left' rfl
 have e2 : (amountB n ++ rest).drop (1 + (numB n).length) = rest := by
  rw [Nat.add_comm]
  simp only [amountB, List.cons_append, List.drop_succ_cons]
  exact List.drop_left' rfl
 unfold rdNum
 rw [e0, e1, e2, asNum_numB (by omega)]
 rw [if_neg (by simp [amountB]), if_neg (by simp; omega)]
theorem rdFrom_by (v base : Nat → Nat) (hv : ∀ i, i < 8 → v i < 4294967296) (hb : ∀ i, i < 8 → base i < 4294967296) : ∀ n i t, i + n = 8 →
 (rdFrom (maskTo (moreP v base) 8) (maskTo (lessP v base) 8) n i t (byFrom v base i n)).2 = 0 ∧ ∀ j, (rdFrom (maskTo (moreP v base) 8) (maskTo (lessP v base) 8) n i t (byFrom v base i n)).1 j = if i ≤ j ∧ j < 8 ∧ v j ≠ base j then (v j : Int) - base j else t j
 | 0, i, t, h => by
   simp only [rdFrom, byFrom, List.length_nil, if_true]
   refine ⟨trivial, fun j => ?_⟩
   rw [if_neg (by omega)]
 | n + 1, i, t, h => by
   have h1 := hv i (by omega)
   have h2 := hb i (by omega)
   have bm := maskTo_bit (moreP v base) i 8
   have bl := maskTo_bit (lessP v base) i 8
   simp only [rdFrom, byFrom]
   rcases Nat.lt_trichotomy (v i) (base i) with hc | hc | hc
   · have e1 : lessP v base i = true := by simp [lessP, hc]
     rw [e1, if_pos ⟨by omega, rfl⟩] at bl
     have e2 : rdOne (maskTo (moreP v base) 8) (maskTo (lessP v base) 8) i (dA (v i) (base i) ++ byFrom v base (i + 1) n) = .val (-1 * ((base i - v i : Nat) : Int)) (byFrom v base (i + 1) n) := by
      unfold rdOne dA
      rw [if_pos bl, if_neg (by omega), if_pos hc]
      exact rdNum_amount _ _ (by omega) (by omega) _
     rw [e2]
     obtain ⟨r1, r2⟩ := rdFrom_by v base hv hb n (i + 1) (setI t i (-1 * ((base i - v i : Nat) : Int))) (by omega)
     refine ⟨r1, fun j => ?_⟩
     simp only [r2]
     unfold setI
     by_cases hj : j = i
     · subst hj; rw [if_neg (by omega), if_pos rfl, if_pos ⟨by omega, by omega, by omega⟩]; omega
     · rw [if_neg hj]
       by_cases hj2 : i + 1 ≤ j ∧ j < 8 ∧ v j ≠ base j
       · rw [if_pos hj2, if_pos ⟨by omega, hj2.2⟩]
       · rw [if_neg hj2, if_neg (fun hx => hj2 ⟨by omega, hx.2⟩)]
   · have e1 : lessP v base i = false := by simp [lessP, hc]
     have e1' : moreP v base i = false := by simp [moreP, hc]
     rw [e1, if_neg (by simp)] at bl
     rw [e1', if_neg (by simp)] at bm
     have e2 : rdOne (maskTo (moreP v base) 8) (maskTo (lessP v base) 8) i (dA (v i) (base i) ++ byFrom v base (i + 1) n) = .skip := by
      unfold rdOne
      rw [if_neg (by omega), if_pos bm]
     have e3 : dA (v i) (base i) = [] := by unfold dA; rw [if_neg (by omega), if_neg (by omega)]
     rw [e2, e3, List.nil_append]
     obtain ⟨r1, r2⟩ := rdFrom_by v base hv hb n (i + 1) t (by omega)
     refine ⟨r1, fun j => ?_⟩
     simp only [r2]
     by_cases hj2 : i + 1 ≤ j ∧ j < 8 ∧ v j ≠ base j
     · rw [if_pos hj2, if_pos ⟨by omega, hj2.2⟩]
     · rw [if_neg hj2, if_neg (fun hx => hj2 ⟨by
        by_cases e : j = i
        · subst e; exact absurd hc hx.2.2
        · omega, hx.2⟩)]
   · have e1 : lessP v base i = false := by simp [lessP]; omega
     have e1' : moreP v base i = true := by simp [moreP, hc]
     rw [e1, if_neg (by simp)] at bl
     rw [e1', if_pos ⟨by omega, rfl⟩] at bm
     have e2 : rdOne (maskTo (moreP v base) 8) (maskTo (lessP v base) 8) i (dA (v i) (base i) ++ byFrom v base (i + 1) n) = .val (1 * ((v i - base i : Nat) : Int)) (byFrom v base (i + 1) n) := by
      unfold rdOne dA
      rw [if_neg (by omega), if_neg (by omega), if_pos hc]
      exact rdNum_amount _ _ (by omega) (by omega) _
     rw [e2]
     obtain ⟨r1, r2⟩ := rdFrom_by v base hv hb n (i + 1) (setI t i (1 * ((v i - base i : Nat) : Int))) (by omega)
     refine ⟨r1, fun j => ?_⟩
     simp only [r2]
     unfold setI
     by_cases hj : j = i
     · subst hj; rw [if_neg (by omega), if_pos rfl, if_pos ⟨by omega, by omega, by omega⟩]; omega
     · rw [if_neg hj]
       by_cases hj2 : i + 1 ≤ j ∧ j < 8 ∧ v j ≠ base j
       · rw [if_pos hj2, if_pos ⟨by omega, hj2.2⟩]
       · rw [if_neg hj2, if_neg (fun hx => hj2 ⟨by omega, hx.2⟩)]
theorem mask8 (p : Nat → Bool) : (UInt8.ofNat (maskTo p 8)).toNat = maskTo p 8 := by
 rw [UInt8.toNat_ofNat']
 exact Nat.mod_eq_of_lt (maskTo_lt p 8)
theorem readB_shrink (v base : Nat → Nat) (hv : ∀ i, i < 8 → v i < 4294967296) (hb : ∀ i, i < 8 → base i < 4294967296) :
 (readB (shrinkB v base)).2 = 0 ∧ ∀ j, j < 8 → (readB (shrinkB v base)).1 j = (v j : Int) - base j := by
 have hz : maskTo (moreP v base) 8 &&& maskTo (lessP v base) 8 = 0 := (and_zero (maskTo_lt _ 8)).2 fun i hi ⟨h1, h2⟩ => by
  rw [maskTo_bit] at h1 h2
  simp only [moreP, lessP, decide_eq_true_eq] at h1 h2
  split at h1 <;> split at h2 <;> omega
 have e : readB (shrinkB v base) = rdFrom (maskTo (moreP v base) 8) (maskTo (lessP v base) 8) 8 0 zI (byFrom v base 0 8) := by
  unfold readB
  rw [if_neg (by simp [shrinkB])]
  simp only [shrinkB, List.getD_cons_zero, List.getD_cons_succ, mask8, List.drop_succ_cons, List.drop_zero]
  rw [if_neg (by rw [hz]; simp), byTo_from]
 rw [e]
 obtain ⟨r1, r2⟩ := rdFrom_by v base hv hb 8 0 zI (by omega)
 refine ⟨r1, fun j hj => ?_⟩
 rw [r2]
 by_cases h : v j = base j
 · rw [if_neg (fun hx => hx.2.2 h), h]; simp [zI]
 · rw [if_pos ⟨by omega, hj, h⟩]
def growOk (l : List UInt8) (base : Nat → Nat) : Prop := ∀ i, i < 8 → 0 ≤ (base i : Int) + (readB l).1 i ∧ (base i : Int) + (readB l).1 i ≤ 4294967295
instance (l : List UInt8) (base : Nat → Nat) : Decidable (growOk l base) := inferInstanceAs (Decidable (∀ i, i < 8 → 0 ≤ (base i : Int) + (readB l).1 i ∧ (base i : Int) + (readB l).1 i ≤ 4294967295))
def growB (l : List UInt8) (base : Nat → Nat) : (Nat → Nat) × Int :=
 if (readB l).2 ≠ 0 then (fun _ => 0, (readB l).2)
 else if growOk l base then (fun i => ((base i : Int) + (readB l).1 i).toNat, 0) else (fun _ => 0, 7)
theorem growB_shrink (v base : Nat → Nat) (hv : ∀ i, i < 8 → v i < 4294967296) (hb : ∀ i, i < 8 → base i < 4294967296) :
 (growB (shrinkB v base) base).2 = 0 ∧ ∀ i, i < 8 → (growB (shrinkB v base) base).1 i = v i := by
 obtain ⟨r1, r2⟩ := readB_shrink v base hv hb
 have hok : growOk (shrinkB v base) base := fun i hi => by rw [r2 i hi]; have := hv i hi; omega
 unfold growB
 rw [if_neg (by rw [r1]; simp), if_pos hok]
 refine ⟨rfl, fun i hi => ?_⟩
 show ((base i : Int) + (readB (shrinkB v base)).1 i).toNat = v i
 rw [r2 i hi]; omega
end Go.Proofs.Ytfkmlmckihmihaa.Fw
namespace Go.Proofs.Ytfkmlmckihmihaa.Fw
open Go.RowKit Go.Proofs
theorem wrap_u8_nat (n : Nat) : IntKind.u8.wrap (n : Int) = ((UInt8.ofNat n).toNat : Int) := by
 rw [UInt8.toNat_ofNat']
 simp [IntKind.wrap, IntKind.signed, IntKind.bits]
theorem wrap_u8_nat' (n : Nat) : IntKind.u8.wrap (n : Int) = ((n % 256 : Nat) : Int) := by simp [IntKind.wrap, IntKind.signed, IntKind.bits]
theorem ofInt64 (a : Nat) (h : a < 18446744073709551616) : (BitVec.ofInt 64 (a : Int)).toNat = a := by
 rw [BitVec.ofInt_natCast, BitVec.toNat_ofNat]; exact Nat.mod_eq_of_lt (by omega)
theorem bits_or_u64 (a b : Nat) (ha : a < 18446744073709551616) (hb : b < 18446744073709551616) : bits .or .u64 a b = ((a ||| b : Nat) : Int) := by
 have h : a ||| b < 2 ^ 64 := Nat.or_lt_two_pow ha hb
 show IntKind.u64.wrap ((BitVec.ofInt 64 (a : Int) ||| BitVec.ofInt 64 (b : Int)).toNat : Int) = _
 rw [BitVec.toNat_or, ofInt64 a ha, ofInt64 b hb]
 exact wrap_u64 ⟨by omega, by omega⟩
theorem shl8_or (n c : Nat) (hn : n < 72057594037927936) (hc : c < 256) : bits .or .u64 ((n : Int) * 256) (c : Int) = ((n * 256 + c : Nat) : Int) := by
 rw [show (n : Int) * 256 = ((256 * n : Nat) : Int) from by omega, bits_or_u64 _ _ (by omega) (by omega)]
 have := Nat.two_pow_add_eq_or_of_lt (i := 8) (b := c) (by omega) n
 rw [show (2 : Nat) ^ 8 = 256 from rfl] at this
 rw [← this]; omega
theorem bytesE_all (l : List UInt8) : ∀ c ∈ bytesE l, c.all PV.flat = true := by
 intro c hc
 obtain ⟨x, _, rfl⟩ := List.mem_map.1 hc
 rfl
theorem bytesE_take' (l : List UInt8) (n : Nat) : (bytesE l).take n = bytesE (l.take n) := by simp [bytesE]
theorem bytesE_drop' (l : List UInt8) (n : Nat) : (bytesE l).drop n = bytesE (l.drop n) := by simp [bytesE]
theorem bytesE_app (a b : List UInt8) : bytesE a ++ bytesE b = bytesE (a ++ b) := by simp [bytesE]
theorem shr_u64 (n k : Nat) (hk : k ≤ 7) : ((n : Nat) : Int).fdiv (2 ^ min (8 * k) 64) = ((n / 256 ^ k : Nat) : Int) := by
 rw [show min (8 * k) 64 = 8 * k from by omega]
 rw [Int.fdiv_eq_ediv_of_nonneg _ (by exact Int.le_of_lt (Int.pow_pos (by omega)))]
 rw [show (256 : Nat) ^ k = 2 ^ (8 * k) from by rw [Nat.pow_mul]]
 rw [Int.natCast_ediv, Int.natCast_pow]; rfl
def stNum (n j : Nat) : FS := mk [(4, .pv (.i .i64 (8 * (j : Int) - 8))), (3, .os 25), (0, .pv (.i .u64 n))] [(25, some (.row 1 (bytesE (numB (n / 256 ^ j)))))]
set_option maxHeartbeats 2000000 in
theorem okNum (n : Nat) (hn : n < 18446744073709551616) {h d} : FunOk Try.prog 59 [.pv (.i .u64 n)] h d (.os d) [.new d (.row 1 (bytesE (numB n)))] := by
 refine fun_row mixed fn59 (by simp) rfl (.inl rfl) fun F => ?_
 (try simp only [bK1, bK2, bK3, bK4, bK5, bK6, bK7, bK8]); simp (maxSteps := 10000000) (disch := omega) only [ir59, go_sem, ↓reduceIte, Nat.reduceEqDiff, Nat.reduceSub, Nat.reduceLeDiff, Nat.reduceAdd, Int.reduceEq, Int.reduceLT, Int.reduceLE]
 refine loop_ok mixed (stNum n) (fun j => j ≤ 8) (fun j => j) 8 (by omega) (wk_ren 6 25 (by decide) rfl (weak_mk ?_ ?_)) fun j hj => ?_
 · (try simp only [bK1, bK2, bK3, bK4, bK5, bK6, bK7, bK8]); simp (maxSteps := 10000000) (disch := omega) only [go_sem, ↓reduceIte, Nat.reduceEqDiff, Nat.reduceSub, Nat.reduceLeDiff, Nat.reduceAdd, Int.reduceEq, Int.reduceLT, Int.reduceLE]
 · have e : numB (n / 256 ^ 8) = [] := by rw [Nat.div_eq_of_lt (by omega), numB_0]
   (try simp only [bK1, bK2, bK3, bK4, bK5, bK6, bK7, bK8]); simp (maxSteps := 10000000) (disch := omega) only [e, go_sem, ↓reduceIte, Nat.reduceEqDiff, Nat.reduceSub, Nat.reduceLeDiff, Nat.reduceAdd, Int.reduceEq, Int.reduceLT, Int.reduceLE]
   rfl
 by_cases hlt : 1 ≤ j
 · obtain ⟨k, rfl⟩ : ∃ k, j = k + 1 := ⟨j - 1, by omega⟩
   have es : (8 * ((k + 1 : Nat) : Int) - 8) = ((8 * k : Nat) : Int) := by omega
   have ed := shr_u64 n k (by omega)
   have em : (n / 256 ^ (k + 1)) = n / 256 ^ k / 256 := by rw [Nat.pow_succ, Nat.div_div_eq_div_mul]
   obtain ⟨q, hq⟩ : ∃ q, q = n / 256 ^ k := ⟨_, rfl⟩
   rw [← hq] at ed em
   have hc : IntKind.u8.wrap (q : Int) = ((UInt8.ofNat (q % 256)).toNat : Int) := by
    rw [wrap_u8_nat', UInt8.toNat_ofNat', show q % 256 % 2 ^ 8 = q % 256 from Nat.mod_eq_of_lt (by omega)]
   have hct : (UInt8.ofNat (q % 256)).toNat = q % 256 := by rw [UInt8.toNat_ofNat']; exact Nat.mod_eq_of_lt (by omega)
   have hlen := numB_len_pos (n := q / 256)
   have hl8 := numB_len 8 (q / 256) (by
    have h1 : q ≤ n := by rw [hq]; exact Nat.div_le_self _ _
    omega)
   by_cases hq0 : q = 0
   · have e0 : (numB (q / 256)) = [] := by rw [hq0]; exact numB_0
     have e1 : IntKind.u8.wrap (q : Int) = 0 := by rw [hq0]; rfl
     (try simp only [bK1, bK2, bK3, bK4, bK5, bK6, bK7, bK8]); simp (maxSteps := 10000000) (disch := omega) only [stNum, es, ed, em, e0, e1, List.length_nil, bytesE_length, go_sem, ↓reduceIte, Nat.reduceEqDiff, Nat.reduceSub, Nat.reduceLeDiff, Nat.reduceAdd, Int.reduceEq, Int.reduceLT, Int.reduceLE]
     refine loop_next k _ _ rfl (by omega) (by omega) ?_ ?_
     · (try simp only [bK1, bK2, bK3, bK4, bK5, bK6, bK7, bK8]); simp (maxSteps := 10000000) (disch := omega) only [go_sem, ↓reduceIte, Nat.reduceEqDiff, Nat.reduceSub, Nat.reduceLeDiff, Nat.reduceAdd, Int.reduceEq, Int.reduceLT, Int.reduceLE]
     · (try simp only [bK1, bK2, bK3, bK4, bK5, bK6, bK7, bK8]); simp (maxSteps := 10000000) (disch := omega) only [go_sem, ↓reduceIte, Nat.reduceEqDiff, Nat.reduceSub, Nat.reduceLeDiff, Nat.reduceAdd, Int.reduceEq, Int.reduceLT, Int.reduceLE]
       rw [← hq, hq0, numB_0]; try rfl
   · have hnb : numB q = numB (q / 256) ++ [UInt8.ofNat (q % 256)] := numB_pos hq0
     by_cases hc0 : q % 256 = 0
     · have h256 : q / 256 ≠ 0 := by omega
       have hlp := hlen.2 h256
       have hz : IntKind.u8.wrap (q : Int) = 0 := by rw [wrap_u8_nat', hc0]; rfl
       (try simp only [bK1, bK2, bK3, bK4, bK5, bK6, bK7, bK8]); simp (maxSteps := 10000000) (disch := omega) only [stNum, es, ed, em, hz, bytesE_length, go_sem, ↓reduceIte, Nat.reduceEqDiff, Nat.reduceSub, Nat.reduceLeDiff, Nat.reduceAdd, Int.reduceEq, Int.reduceLT, Int.reduceLE]
       refine loop_next k _ _ rfl (by omega) (by omega) ?_ ?_
       · (try simp only [bK1, bK2, bK3, bK4, bK5, bK6, bK7, bK8]); simp (maxSteps := 10000000) (disch := omega) only [go_sem, ↓reduceIte, Nat.reduceEqDiff, Nat.reduceSub, Nat.reduceLeDiff, Nat.reduceAdd, Int.reduceEq, Int.reduceLT, Int.reduceLE]
       · (try simp only [bK1, bK2, bK3, bK4, bK5, bK6, bK7, bK8]); simp (maxSteps := 10000000) (disch := omega) only [go_sem, ↓reduceIte, Nat.reduceEqDiff, Nat.reduceSub, Nat.reduceLeDiff, Nat.reduceAdd, Int.reduceEq, Int.reduceLT, Int.reduceLE]
         rw [← hq, hnb, hc0]; simp [bytesE]
     · (try simp only [bK1, bK2, bK3, bK4, bK5, bK6, bK7, bK8]); simp (maxSteps := 10000000) (disch := omega) only [stNum, es, ed, em, hc, hct, bytesE_length, go_sem, ↓reduceIte, Nat.reduceEqDiff, Nat.reduceSub, Nat.reduceLeDiff, Nat.reduceAdd, Int.reduceEq, Int.reduceLT, Int.reduceLE]
       refine loop_next k _ _ rfl (by omega) (by omega) ?_ ?_
       · (try simp only [bK1, bK2, bK3, bK4, bK5, bK6, bK7, bK8]); simp (maxSteps := 10000000) (disch := omega) only [go_sem, ↓reduceIte, Nat.reduceEqDiff, Nat.reduceSub, Nat.reduceLeDiff, Nat.reduceAdd, Int.reduceEq, Int.reduceLT, Int.reduceLE]
       · (try simp only [bK1, bK2, bK3, bK4, bK5, bK6, bK7, bK8]); simp (maxSteps := 10000000) (disch := omega) only [go_sem, ↓reduceIte, Nat.reduceEqDiff, Nat.reduceSub, Nat.reduceLeDiff, Nat.reduceAdd, Int.reduceEq, Int.reduceLT, Int.reduceLE]
         rw [← hq, hnb]; simp [bytesE, hct]
 · obtain rfl : j = 0 := by omega
   (try simp only [bK1, bK2, bK3, bK4, bK5, bK6, bK7, bK8]); simp (maxSteps := 10000000) (disch := omega) only [stNum, Nat.pow_zero, Nat.div_one, go_sem, ↓reduceIte, Nat.reduceEqDiff, Nat.reduceSub, Nat.reduceLeDiff, Nat.reduceAdd, Int.reduceEq, Int.reduceLT, Int.reduceLE]
theorem valB_take (l : List UInt8) (i : Nat) (h : i < l.length) : valB (l.take (i + 1)) = valB (l.take i) * 256 + (l.getD i 0).toNat := by
 rw [List.take_add_one, List.getElem?_eq_getElem h, Option.toList_some, valB_snoc, List.getD_eq_getElem?_getD, List.getElem?_eq_getElem h]; rfl
theorem valB_take_lt (l : List UInt8) (i : Nat) (h : i < 8) : valB (l.take i) < 72057594037927936 := by
 have h1 := valB_lt (l.take i)
 have h2 : 256 ^ (l.take i).length ≤ 256 ^ 7 := Nat.pow_le_pow_right (by omega) (by simp; omega)
 omega
theorem head_getD {l : List UInt8} (h : 0 < l.length) : (l.getD 0 0).toNat = 0 ↔ l.head? = some 0 := by
 cases l with
 | nil => simp at h
 | cons c l =>
   simp only [List.getD_cons_zero, List.head?_cons, Option.some.injEq]
   exact ⟨fun e => UInt8.toNat_inj.1 (by simpa using e), fun e => by rw [e]; rfl⟩
def stAsNum (full : Bool) (z : Nat) (l : List UInt8) (i : Nat) : FS := mk [(23, .pv (.i .i64 i)), (22, .pv (.i .i64 l.length)), (21, .pv (.sl full z (bytesE l))), (4, .pv (.i .u64 (valB (l.take i))))] []
set_option maxHeartbeats 1000000 in
theorem okAsNum {a : SV} {l : List UInt8} {full : Bool} {z : Nat} (hl : l.length < 4611686018427387904) {h} {d} (ha : lendable [a] = true) (he : lent h a = .pv (.sl full z (bytesE l))) (hz : l = [] ∨ z = 1) :
 FunOk Try.prog 81 [a] h d (.tup [.pv (.i .u64 (asNum l).1), .pv (.i .i64 (asNum l).2)]) [] := by
 refine fun_scalar mixed fn81 (by simp) ha rfl fun F => ?_
 by_cases h8 : 8 < l.length
 · have e : asNum l = (0, 4) := by unfold asNum; rw [if_pos h8]
   (try simp only [bK1, bK2, bK3, bK4, bK5, bK6, bK7, bK8]); simp (maxSteps := 10000000) (disch := omega) only [ir81, he, e, go_sem, ↓reduceIte, Nat.reduceEqDiff, Nat.reduceSub, Nat.reduceLeDiff, Nat.reduceAdd, Int.reduceEq, Int.reduceLT, Int.reduceLE]
 by_cases h0 : l.length = 0
 · obtain rfl : l = [] := List.eq_nil_of_length_eq_zero h0
   have e : asNum [] = (0, 0) := rfl
   (try simp only [bK1, bK2, bK3, bK4, bK5, bK6, bK7, bK8]); simp (maxSteps := 10000000) (disch := omega) only [ir81, he, e, List.length_nil, go_sem, ↓reduceIte, Nat.reduceEqDiff, Nat.reduceSub, Nat.reduceLeDiff, Nat.reduceAdd, Int.reduceEq, Int.reduceLT, Int.reduceLE]
   refine loop_ok mixed (stAsNum full z []) (fun j => j ≤ 0) (fun j => 0 - j) 0 (by omega) (weak_mk ?_ ?_) fun j hj => ?_
   · (try simp only [bK1, bK2, bK3, bK4, bK5, bK6, bK7, bK8]); simp (maxSteps := 10000000) (disch := omega) only [List.take_nil, valB, List.foldl_nil, List.length_nil, go_sem, ↓reduceIte, Nat.reduceEqDiff, Nat.reduceSub, Nat.reduceLeDiff, Nat.reduceAdd, Int.reduceEq, Int.reduceLT, Int.reduceLE]
   · (try simp only [bK1, bK2, bK3, bK4, bK5, bK6, bK7, bK8]); simp (maxSteps := 10000000) (disch := omega) only [go_sem, ↓reduceIte, Nat.reduceEqDiff, Nat.reduceSub, Nat.reduceLeDiff, Nat.reduceAdd, Int.reduceEq, Int.reduceLT, Int.reduceLE]
   obtain rfl : j = 0 := by omega
   (try simp only [bK1, bK2, bK3, bK4, bK5, bK6, bK7, bK8]); simp (maxSteps := 10000000) (disch := omega) only [stAsNum, List.take_nil, valB, List.foldl_nil, List.length_nil, go_sem, ↓reduceIte, Nat.reduceEqDiff, Nat.reduceSub, Nat.reduceLeDiff, Nat.reduceAdd, Int.reduceEq, Int.reduceLT, Int.reduceLE]
 have hz1 : z = 1 := hz.resolve_left (fun e => by subst e; simp at h0)
 subst hz1
 have hd := head_getD (l := l) (by omega)
 by_cases hh : l.head? = some 0
 · have e : asNum l = (0, 7) := by unfold asNum; rw [if_neg h8, if_pos hh]
   have e1 := hd.2 hh
   (try simp only [bK1, bK2, bK3, bK4, bK5, bK6, bK7, bK8]); simp (maxSteps := 10000000) (disch := omega) only [ir81, he, e, load_byte_e, e1, go_sem, ↓reduceIte, Nat.reduceEqDiff, Nat.reduceSub, Nat.reduceLeDiff, Nat.reduceAdd, Int.reduceEq, Int.reduceLT, Int.reduceLE]
 · have e : asNum l = (valB l, 0) := by unfold asNum; rw [if_neg h8, if_neg hh]
   have e1 : ¬ (((l.getD 0 0).toNat : Nat) : Int) = 0 := fun e => hh (hd.1 (by omega))
   (try simp only [bK1, bK2, bK3, bK4, bK5, bK6, bK7, bK8]); simp (maxSteps := 10000000) (disch := omega) only [ir81, he, e, load_byte_e, e1, go_sem, ↓reduceIte, Nat.reduceEqDiff, Nat.reduceSub, Nat.reduceLeDiff, Nat.reduceAdd, Int.reduceEq, Int.reduceLT, Int.reduceLE]
   refine loop_ok mixed (stAsNum full 1 l) (fun j => j ≤ l.length) (fun j => l.length - j) 0 (by omega) (weak_mk ?_ ?_) fun j hj => ?_
   · (try simp only [bK1, bK2, bK3, bK4, bK5, bK6, bK7, bK8]); simp (maxSteps := 10000000) (disch := omega) only [List.take_zero, valB, List.foldl_nil, go_sem, ↓reduceIte, Nat.reduceEqDiff, Nat.reduceSub, Nat.reduceLeDiff, Nat.reduceAdd, Int.reduceEq, Int.reduceLT, Int.reduceLE]
   · (try simp only [bK1, bK2, bK3, bK4, bK5, bK6, bK7, bK8]); simp (maxSteps := 10000000) (disch := omega) only [go_sem, ↓reduceIte, Nat.reduceEqDiff, Nat.reduceSub, Nat.reduceLeDiff, Nat.reduceAdd, Int.reduceEq, Int.reduceLT, Int.reduceLE]
   by_cases hlt : j < l.length
   · have e2 := valB_take l j hlt
     have e3 := valB_take_lt l j (by omega)
     have e4 := (l.getD j 0).toNat_lt
     have e5 := shl8_or _ _ e3 (by omega : (l.getD j 0).toNat < 256)
     have e6 : ((2 : Int) ^ min (Int.toNat 8) 64) = 256 := rfl
     have e7 : IntKind.u64.wrap (((l.getD j 0).toNat : Nat) : Int) = ((l.getD j 0).toNat : Int) := wrap_u64 (by omega)
     rw [← e2] at e5
     (try simp only [bK1, bK2, bK3, bK4, bK5, bK6, bK7, bK8]); simp (maxSteps := 10000000) (disch := omega) only [stAsNum, load_byte_e, e6, e7, e5, go_sem, ↓reduceIte, Nat.reduceEqDiff, Nat.reduceSub, Nat.reduceLeDiff, Nat.reduceAdd, Int.reduceEq, Int.reduceLT, Int.reduceLE]
     refine loop_next (j + 1) _ _ rfl (by omega) (by omega) ?_ ?_
     · (try simp only [bK1, bK2, bK3, bK4, bK5, bK6, bK7, bK8]); simp (maxSteps := 10000000) (disch := omega) only [go_sem, ↓reduceIte, Nat.reduceEqDiff, Nat.reduceSub, Nat.reduceLeDiff, Nat.reduceAdd, Int.reduceEq, Int.reduceLT, Int.reduceLE]
     · (try simp only [bK1, bK2, bK3, bK4, bK5, bK6, bK7, bK8]); simp (maxSteps := 10000000) (disch := omega) only [go_sem, ↓reduceIte, Nat.reduceEqDiff, Nat.reduceSub, Nat.reduceLeDiff, Nat.reduceAdd, Int.reduceEq, Int.reduceLT, Int.reduceLE]
   · obtain rfl : j = l.length := by omega
     (try simp only [bK1, bK2, bK3, bK4, bK5, bK6, bK7, bK8]); simp (maxSteps := 10000000) (disch := omega) only [stAsNum, List.take_length, go_sem, ↓reduceIte, Nat.reduceEqDiff, Nat.reduceSub, Nat.reduceLeDiff, Nat.reduceAdd, Int.reduceEq, Int.reduceLT, Int.reduceLE]
theorem okAmount (n : Nat) (hn : n < 4294967296) {h d} : FunOk Try.prog 58 [.pv (.i .u32 n)] h d (.os d) [.new d (.row 1 (bytesE (amountB n)))] := by
 refine fun_row mixed fn58 (by simp) rfl (.inl rfl) fun F => ?_
 have e5 := numB_len 8 n (by omega)
 have e6 : IntKind.u8.wrap (((numB n).length : Nat) : Int) = ((UInt8.ofNat (numB n).length).toNat : Int) := wrap_u8_nat _
 have e7 : [[PV.i .u8 ((UInt8.ofNat (numB n).length).toNat : Int)]] ++ bytesE (numB n) = bytesE (amountB n) := rfl
 (try simp only [bK1, bK2, bK3, bK4, bK5, bK6, bK7, bK8]); simp (maxSteps := 10000000) (disch := omega) only [ir58, go_sem, ↓reduceIte, Nat.reduceEqDiff, Nat.reduceSub, Nat.reduceLeDiff, Nat.reduceAdd, Int.reduceEq, Int.reduceLT, Int.reduceLE]
 refine call_with (okNum n (by omega)) ?_
 (try simp only [bK1, bK2, bK3, bK4, bK5, bK6, bK7, bK8]); simp (maxSteps := 10000000) (disch := omega) only [bytesE_length, e6, go_sem, ↓reduceIte, Nat.reduceEqDiff, Nat.reduceSub, Nat.reduceLeDiff, Nat.reduceAdd, Int.reduceEq, Int.reduceLT, Int.reduceLE]
 rfl
end Go.Proofs.Ytfkmlmckihmihaa.Fw
namespace Go.Proofs.Ytfkmlmckihmihaa.Fw
open Go.RowKit Go.Proofs
def BsEq (es : List (List PV)) (L : List (List UInt8)) : Prop := es.length = L.length ∧ ∀ k, k < L.length → ∃ f z, es[k]? = some [.sl f z (bytesE (L.getD k []))] ∧ (L.getD k [] = [] ∨ z = 1)
def bE (b : List UInt8) : List PV := [.sl false 1 (bytesE b)]
theorem bsEq_map (L : List (List UInt8)) : BsEq (L.map bE) L := ⟨by simp, fun k hk => ⟨false, 1, by simp [bE, hk], .inr rfl⟩⟩
theorem ld_sl {f z es} (K : KK) : LoadK (some [.sl f z es]) 0 1 false K = K (.pv (.sl f z es)) [] := by
 simp only [LoadK, ldX, eq_iff_iff]
 exact ⟨fun h => h.2.2, fun h => ⟨by simp, .inr trivial, h⟩⟩
theorem nilOr {b : List UInt8} {z : Nat} (h : b = [] ∨ z = 1) : (bytesE b = [] ∨ z = 1) = True := eq_true (h.imp (fun e => by rw [e]; rfl) id)
theorem packB_take {L : List (List UInt8)} {k : Nat} (h : k < L.length) : packB (L.take (k + 1)) = packB (L.take k) ++ fieldB (L.getD k []) := by
 rw [List.take_add_one, List.getElem?_eq_getElem h, Option.toList_some, packB_app, List.getD_eq_getElem?_getD, List.getElem?_eq_getElem h]
 simp [packB]
theorem shl8_orI (n c : Nat) (hn : n < 65536) (hc : c < 256) : bits .or .i64 ((n : Int) * 256) (c : Int) = ((n * 256 + c : Nat) : Int) := by
 have h : n * 256 ||| c < 2 ^ 32 := Nat.or_lt_two_pow (by omega) (by omega)
 rw [show (n : Int) * 256 = ((256 * n : Nat) : Int) from by omega]
 show IntKind.i64.wrap ((BitVec.ofInt 64 ((256 * n : Nat) : Int) ||| BitVec.ofInt 64 (c : Int)).toNat : Int) = _
 rw [BitVec.toNat_or, ofInt64 _ (by omega), ofInt64 c (by omega)]
 have := Nat.two_pow_add_eq_or_of_lt (i := 8) (b := c) (by omega) n
 rw [show (2 : Nat) ^ 8 = 256 from rfl] at this
 rw [← this, wrap_i64 (by omega)]; omega
theorem okCHead {x : SV} {f : Bool} {l : List UInt8} {h d} (hx : lents h [x] = [.pv (.sl f 1 (bytesE l))]) (hl : lendable [x] = true) (hne : l ≠ []) (hn : l.length ≤ 400000) :
 FunOk Try.prog 53 [x] h d (.tup [.pv (.i .i64 (headL l).1), .pv (.i .i64 (headL l).2.1), .pv (.i .i64 (headL l).2.2)]) [] := by
 refine fun_scalar mixed fn53 (by simp) hl rfl fun F => ?_
 rw [hx]
 have hpos : 0 < l.length := List.length_pos_iff.2 hne
 by_cases h1 : (l.getD 0 0).toNat < 255
 · have e : headL l = ((l.getD 0 0).toNat, 1, 0) := by unfold headL; rw [if_pos h1]
   have h1' : (((l.getD 0 0).toNat : Nat) : Int) < 255 := by omega
   have e2 : IntKind.i64.wrap (((l.getD 0 0).toNat : Nat) : Int) = ((l.getD 0 0).toNat : Int) := wrap_i64 (by omega)
   (try simp only [bK1, bK2, bK3, bK4, bK5, bK6, bK7, bK8]); simp (maxSteps := 10000000) (disch := omega) only [ir53, load_byte_e, h1', e, e2, go_sem, ↓reduceIte, Nat.reduceEqDiff, Nat.reduceSub, Nat.reduceLeDiff, Nat.reduceAdd, Int.reduceEq, Int.reduceLT, Int.reduceLE]
   rfl
 · have h1' : ¬ (((l.getD 0 0).toNat : Nat) : Int) < 255 := by omega
   by_cases h2 : l.length < 3
   · have e : headL l = (0, 0, 8) := by unfold headL; rw [if_neg h1, if_pos h2]
     (try simp only [bK1, bK2, bK3, bK4, bK5, bK6, bK7, bK8]); simp (maxSteps := 10000000) (disch := omega) only [ir53, load_byte_e, h1', e, go_sem, ↓reduceIte, Nat.reduceEqDiff, Nat.reduceSub, Nat.reduceLeDiff, Nat.reduceAdd, Int.reduceEq, Int.reduceLT, Int.reduceLE]
   · have t1 : Int.toNat 1 = 1 := rfl
     have t2 : Int.toNat 2 = 2 := rfl
     have b1 := (l.getD 1 0).toNat_lt
     have b2 := (l.getD 2 0).toNat_lt
     have w1 : IntKind.i64.wrap (((l.getD 1 0).toNat : Nat) : Int) = ((l.getD 1 0).toNat : Int) := wrap_i64 (by omega)
     have w2 : IntKind.i64.wrap (((l.getD 2 0).toNat : Nat) : Int) = ((l.getD 2 0).toNat : Int) := wrap_i64 (by omega)
     have e6 : ((2 : Int) ^ min (Int.toNat 8) 64) = 256 := rfl
     have w3 : IntKind.i64.wrap (((l.getD 1 0).toNat : Int) * 256) = ((l.getD 1 0).toNat : Int) * 256 := wrap_i64 (by omega)
     have hor : bits .or .i64 (((l.getD 1 0).toNat : Int) * 256) ((l.getD 2 0).toNat : Int) = (((l.getD 1 0).toNat * 256 + (l.getD 2 0).toNat : Nat) : Int) := shl8_orI _ _ (by omega) (by omega)
     by_cases h3 : (l.getD 1 0).toNat * 256 + (l.getD 2 0).toNat < 255
     · have e : headL l = (0, 0, 7) := by unfold headL; rw [if_neg h1, if_neg h2, if_pos h3]
       have h3' : (((l.getD 1 0).toNat * 256 + (l.getD 2 0).toNat : Nat) : Int) < 255 := by omega
       (try simp only [bK1, bK2, bK3, bK4, bK5, bK6, bK7, bK8]); simp (maxSteps := 10000000) (disch := omega) only [ir53, load_byte_e, h1', e, t1, t2, w1, w2, e6, w3, hor, h3', go_sem, ↓reduceIte, Nat.reduceEqDiff, Nat.reduceSub, Nat.reduceLeDiff, Nat.reduceAdd, Int.reduceEq, Int.reduceLT, Int.reduceLE]
     · have e : headL l = ((l.getD 1 0).toNat * 256 + (l.getD 2 0).toNat, 3, 0) := by unfold headL; rw [if_neg h1, if_neg h2, if_neg h3]
       have h3' : ¬ (((l.getD 1 0).toNat * 256 + (l.getD 2 0).toNat : Nat) : Int) < 255 := by omega
       (try simp only [bK1, bK2, bK3, bK4, bK5, bK6, bK7, bK8]); simp (maxSteps := 10000000) (disch := omega) only [ir53, load_byte_e, h1', e, t1, t2, w1, w2, e6, w3, hor, h3', go_sem, ↓reduceIte, Nat.reduceEqDiff, Nat.reduceSub, Nat.reduceLeDiff, Nat.reduceAdd, Int.reduceEq, Int.reduceLT, Int.reduceLE]
       rfl
theorem okFields {f : Bool} {z : Nat} {l : List UInt8} {h d} (hz : l = [] ∨ z = 1) (hn : l.length ≤ 400000) :
 FunOk Try.prog 43 [.pv (.sl f z (bytesE l))] h d (.fn (.func 52) [.pi 1 [[.sl false 1 (bytesE l)]] 0 0]) [] := by
 refine fun_pureW mixed fn43 (by simp) rfl rfl fun F => ?_
 have hz' := nilOr hz
 (try simp only [bK1, bK2, bK3, bK4, bK5, bK6, bK7, bK8]); simp (maxSteps := 10000000) (disch := omega) only [ir43, hz', bytesE_length, go_sem, ↓reduceIte, Nat.reduceEqDiff, Nat.reduceSub, Nat.reduceLeDiff, Nat.reduceAdd, Int.reduceEq, Int.reduceLT, Int.reduceLE]
 refine ⟨_, wk_frz 6 rfl (wk_frzv 3 (x := .pv (.sl false 1 (bytesE l))) (cs := [.sl false 1 (bytesE l)]) rfl rfl (.same _)), ?_⟩
 (try simp only [bK1, bK2, bK3, bK4, bK5, bK6, bK7, bK8]); simp (maxSteps := 10000000) (disch := omega) only [go_sem, ↓reduceIte, Nat.reduceEqDiff, Nat.reduceSub, Nat.reduceLeDiff, Nat.reduceAdd, Int.reduceEq, Int.reduceLT, Int.reduceLE]
end Go.Proofs.Ytfkmlmckihmihaa.Fw
namespace Go.Proofs.Ytfkmlmckihmihaa.Fw
open Go.RowKit Go.Proofs
def stFl (l : Nat) (most : Int) (r : List UInt8) (o : List (List UInt8)) : FS := mk [(3, .pv (.sl false 1 (bytesE r))), (0, .fn (.yield l) []), (1000000, .pv (.i .i64 0)), (1000004, .p 3 0), (1000005, .p 4 0), (1000006, .p 5 0), (1000007, .p 6 0)]
 [(3, some (.var (.pv (.i .i64 most)))), (4, some (.var (.pv (.sl true 0 [])))), (5, some (.var (.pv (.i .i64 0)))), (6, some (.var (.os 50))), (50, some (.row 1 (o.map bE)))]
theorem headL_le (l : List UInt8) : (headL l).1 < 65536 ∧ (headL l).2.1 ≤ 3 ∧ 0 ≤ (headL l).2.2 ∧ (headL l).2.2 ≤ 8 := by
 have b0 := (l.getD 0 0).toNat_lt
 have b1 := (l.getD 1 0).toNat_lt
 have b2 := (l.getD 2 0).toNat_lt
 unfold headL
 split
 · simp only; omega
 · split
   · simp
   · split
     · simp
     · simp only; omega
theorem ps_big : ∀ p ∈ [11, 12], p < big := by
 intro p hp
 have : big = 1000000 := rfl
 simp at hp; omega
set_option maxHeartbeats 4000000 in
theorem okUnpack {f : Bool} {z : Nat} {b : List UInt8} {most : Int} {h d} (hz : b = [] ∨ z = 1) (hn : b.length ≤ 300000) :
 FunOk Try.prog 27 [.pv (.sl f z (bytesE b)), .pv (.i .i64 most)] h d (.tup [.os d, .pv (.i .i64 (unpackG b [] most).2)]) [.new d (.row 1 ((unpackG b [] most).1.map bE))] := by
 refine fun_row2N mixed fn27 (by simp) rfl (.inl rfl) rfl fun F => ?_
 (try simp only [bK1, bK2, bK3, bK4, bK5, bK6, bK7, bK8]); simp (maxSteps := 10000000) (disch := omega) only [ir27, go_sem, ↓reduceIte, Nat.reduceEqDiff, Nat.reduceSub, Nat.reduceLeDiff, Nat.reduceAdd, Int.reduceEq, Int.reduceLT, Int.reduceLE]
 refine call_with (okFields hz (by omega)) ?_
 (try simp only [bK1, bK2, bK3, bK4, bK5, bK6, bK7, bK8]); simp (maxSteps := 10000000) (disch := omega) only [go_sem, ↓reduceIte, Nat.reduceEqDiff, Nat.reduceSub, Nat.reduceLeDiff, Nat.reduceAdd, Int.reduceEq, Int.reduceLT, Int.reduceLE]
 refine rng_ok mixed fn52 (by simp) fun l XI hc => ?_
 rw [enter_mk _ _ _ (by show 2 ≤ 1000000; omega)]
 (try simp only [bK1, bK2, bK3, bK4, bK5, bK6, bK7, bK8]); simp (maxSteps := 10000000) (disch := omega) only [ir52, ld_sl, List.getElem?_cons_zero, go_sem, ↓reduceIte, Nat.reduceEqDiff, Nat.reduceSub, Nat.reduceLeDiff, Nat.reduceAdd, Int.reduceEq, Int.reduceLT, Int.reduceLE]
 refine loop_ok mixed (fun x : List UInt8 × List (List UInt8) => stFl l most x.1 x.2) (fun x => unpackG b [] most = unpackG x.1 x.2 most ∧ x.2.length + x.1.length ≤ 300000) (fun x => x.1.length) (b, []) ⟨rfl, by simpa using hn⟩ (wk_nilv 6 50 1 rfl (by decide) (by decide) (weak_mk ?_ ?_)) fun x hx => ?_
 · (try simp only [bK1, bK2, bK3, bK4, bK5, bK6, bK7, bK8]); simp (maxSteps := 10000000) (disch := omega) only [go_sem, ↓reduceIte, Nat.reduceEqDiff, Nat.reduceSub, Nat.reduceLeDiff, Nat.reduceAdd, Int.reduceEq, Int.reduceLT, Int.reduceLE]
 · (try simp only [bK1, bK2, bK3, bK4, bK5, bK6, bK7, bK8]); simp (maxSteps := 10000000) (disch := omega) only [go_sem, ↓reduceIte, Nat.reduceEqDiff, Nat.reduceSub, Nat.reduceLeDiff, Nat.reduceAdd, Int.reduceEq, Int.reduceLT, Int.reduceLE]
   rfl
 obtain ⟨r, o⟩ := x
 obtain ⟨hu, hlen⟩ := hx
 dsimp only at hu hlen ⊢
 rw [hu]
 by_cases hr : r = []
 · subst hr
   rw [unpackG_nil]
   (try simp only [bK1, bK2, bK3, bK4, bK5, bK6, bK7, bK8]); simp (maxSteps := 10000000) (disch := omega) only [stFl, bytesE_length, List.length_nil, go_sem, ↓reduceIte, Nat.reduceEqDiff, Nat.reduceSub, Nat.reduceLeDiff, Nat.reduceAdd, Int.reduceEq, Int.reduceLT, Int.reduceLE]
 have hrp : 0 < r.length := List.length_pos_iff.2 hr
 have hle := headL_le r
 have her : errL r = if (headL r).2.2 = 0 then if r.length < (headL r).2.1 + (headL r).1 then 8 else 0 else (headL r).2.2 := rfl
 have hfl : fldL r = (r.drop (headL r).2.1).take (headL r).1 := rfl
 have hrs : rstL r = r.drop ((headL r).2.1 + (headL r).1) := rfl
 (try simp only [bK1, bK2, bK3, bK4, bK5, bK6, bK7, bK8]); simp (maxSteps := 10000000) (disch := omega) only [stFl, bytesE_length, go_sem, ↓reduceIte, Nat.reduceEqDiff, Nat.reduceSub, Nat.reduceLeDiff, Nat.reduceAdd, Int.reduceEq, Int.reduceLT, Int.reduceLE]
 refine call_with (okCHead (f := false) (l := r) rfl rfl hr (by omega)) ?_
 have hlt := fun h => rstL_lt hr h
 rcases hh : headL r with ⟨n, fr, e⟩
 rw [hh] at hle her hfl hrs
 simp only at hle her hfl hrs
 have bad : errL r ≠ 0 → unpackG r o most = ([], errL r) := fun h => unpackG_err hr h
 by_cases he0 : e = 0
 · subst he0
   rw [if_pos rfl] at her
   by_cases hcut : r.length < fr + n
   · rw [if_pos hcut] at her
     rw [bad (by rw [her]; decide), her]
     (try simp only [bK1, bK2, bK3, bK4, bK5, bK6, bK7, bK8]); simp (maxSteps := 10000000) (disch := omega) only [bytesE_length, go_sem, ↓reduceIte, Nat.reduceEqDiff, Nat.reduceSub, Nat.reduceLeDiff, Nat.reduceAdd, Int.reduceEq, Int.reduceLT, Int.reduceLE]
     refine yld_ok mixed hc ?_ rfl fun XA XB => ?_
     · (try simp only [bK1, bK2, bK3, bK4, bK5, bK6, bK7, bK8]); simp (maxSteps := 10000000) (disch := omega) only [go_sem, ↓reduceIte, Nat.reduceEqDiff, Nat.reduceSub, Nat.reduceLeDiff, Nat.reduceAdd, Int.reduceEq, Int.reduceLT, Int.reduceLE]
     rw [round_mk _ _ _ _ ps_big]
     (try simp only [bK1, bK2, bK3, bK4, bK5, bK6, bK7, bK8]); simp (maxSteps := 10000000) (disch := omega) only [go_sem, ↓reduceIte, Nat.reduceEqDiff, Nat.reduceSub, Nat.reduceLeDiff, Nat.reduceAdd, Int.reduceEq, Int.reduceLT, Int.reduceLE]
     exact .inr ⟨0, rfl, rfl, by decide⟩
   · rw [if_neg hcut] at her
     have hgo := hlt her
     have hfe : (r.take (fr + n)).drop fr = fldL r := by rw [hfl, List.drop_take]; congr 1; omega
     have e3 : ((fr : Int) + (n : Int)).toNat = fr + n := by omega
     have hfll : (fldL r).length ≤ 70000 := by rw [hfl, List.length_take]; omega
     (try simp only [bK1, bK2, bK3, bK4, bK5, bK6, bK7, bK8]); simp (maxSteps := 10000000) (disch := omega) only [bytesE_length, e3, hfe, go_sem, ↓reduceIte, Nat.reduceEqDiff, Nat.reduceSub, Nat.reduceLeDiff, Nat.reduceAdd, Int.reduceEq, Int.reduceLT, Int.reduceLE]
     refine yld_ok mixed hc ?_ rfl fun XA XB => ?_
     · (try simp only [bK1, bK2, bK3, bK4, bK5, bK6, bK7, bK8]); simp (maxSteps := 10000000) (disch := omega) only [go_sem, ↓reduceIte, Nat.reduceEqDiff, Nat.reduceSub, Nat.reduceLeDiff, Nat.reduceAdd, Int.reduceEq, Int.reduceLT, Int.reduceLE]
     rw [round_mk _ _ _ _ ps_big]
     by_cases hfull : most ≤ o.length
     · rw [unpackG_full hr her hfull]
       (try simp only [bK1, bK2, bK3, bK4, bK5, bK6, bK7, bK8]); simp (maxSteps := 10000000) (disch := omega) only [List.length_map, go_sem, ↓reduceIte, Nat.reduceEqDiff, Nat.reduceSub, Nat.reduceLeDiff, Nat.reduceAdd, Int.reduceEq, Int.reduceLT, Int.reduceLE]
       exact .inr ⟨0, rfl, rfl, by decide⟩
     · rw [unpackG_go hr her hfull]
       (try simp only [bK1, bK2, bK3, bK4, bK5, bK6, bK7, bK8]); simp (maxSteps := 10000000) (disch := omega) only [List.length_map, go_sem, ↓reduceIte, Nat.reduceEqDiff, Nat.reduceSub, Nat.reduceLeDiff, Nat.reduceAdd, Int.reduceEq, Int.reduceLT, Int.reduceLE]
       refine ⟨(rstL r, o ++ [fldL r]), ⟨rfl, by simp only [List.length_append, List.length_singleton]; omega⟩, hgo, wk_ren 23 50 (by decide) rfl (weak_mk ?_ ?_)⟩
       · (try simp only [bK1, bK2, bK3, bK4, bK5, bK6, bK7, bK8]); simp (maxSteps := 10000000) (disch := omega) only [e3, ← hrs, go_sem, ↓reduceIte, Nat.reduceEqDiff, Nat.reduceSub, Nat.reduceLeDiff, Nat.reduceAdd, Int.reduceEq, Int.reduceLT, Int.reduceLE]
       · (try simp only [bK1, bK2, bK3, bK4, bK5, bK6, bK7, bK8]); simp (maxSteps := 10000000) (disch := omega) only [List.map_append, List.map_cons, List.map_nil, bE, go_sem, ↓reduceIte, Nat.reduceEqDiff, Nat.reduceSub, Nat.reduceLeDiff, Nat.reduceAdd, Int.reduceEq, Int.reduceLT, Int.reduceLE]
 · rw [if_neg he0] at her
   rw [bad (by rw [her]; exact he0), her]
   (try simp only [bK1, bK2, bK3, bK4, bK5, bK6, bK7, bK8]); simp (maxSteps := 10000000) (disch := omega) only [bytesE_length, go_sem, ↓reduceIte, Nat.reduceEqDiff, Nat.reduceSub, Nat.reduceLeDiff, Nat.reduceAdd, Int.reduceEq, Int.reduceLT, Int.reduceLE]
   refine yld_ok mixed hc ?_ rfl fun XA XB => ?_
   · (try simp only [bK1, bK2, bK3, bK4, bK5, bK6, bK7, bK8]); simp (maxSteps := 10000000) (disch := omega) only [go_sem, ↓reduceIte, Nat.reduceEqDiff, Nat.reduceSub, Nat.reduceLeDiff, Nat.reduceAdd, Int.reduceEq, Int.reduceLT, Int.reduceLE]
   rw [round_mk _ _ _ _ ps_big]
   (try simp only [bK1, bK2, bK3, bK4, bK5, bK6, bK7, bK8]); simp (maxSteps := 10000000) (disch := omega) only [go_sem, ↓reduceIte, Nat.reduceEqDiff, Nat.reduceSub, Nat.reduceLeDiff, Nat.reduceAdd, Int.reduceEq, Int.reduceLT, Int.reduceLE]
   exact .inr ⟨0, rfl, rfl, by decide⟩
end Go.Proofs.Ytfkmlmckihmihaa.Fw
namespace Go.Proofs.Ytfkmlmckihmihaa.Fw
open Go.RowKit Go.Proofs
theorem wrap_u8_shr (n : Nat) : IntKind.u8.wrap (((n / 256 : Nat) : Int)) = (((UInt8.ofNat (n / 256)).toNat : Nat) : Int) := wrap_u8_nat _
def stPack (f : Bool) (z : Nat) (es : List (List PV)) (L : List (List UInt8)) (k : Nat) : FS := mk [(11, .pv (.i .i64 k)), (10, .pv (.i .i64 L.length)), (9, .pv (.sl f z es)), (4, .os 50)] [(50, some (.row 1 (bytesE (packB (L.take k)))))]
def packLen : List (List UInt8) → Nat
 | [] => 0
 | f :: l => f.length + 3 + packLen l
theorem packB_len : ∀ L : List (List UInt8), (packB L).length ≤ packLen L
 | [] => Nat.le_refl _
 | f :: l => by
   have := packB_len l
   simp only [packB, packLen, List.length_append, fieldB_len]
   split <;> omega
theorem packLen_take : ∀ (L : List (List UInt8)) (k : Nat), packLen (L.take k) ≤ packLen L
 | [], k => by simp [packLen]
 | f :: l, 0 => by simp [packLen]
 | f :: l, k + 1 => by
   have := packLen_take l k
   simp only [List.take_succ_cons, packLen]; omega
theorem packLen_mem : ∀ {L : List (List UInt8)} {k : Nat}, k < L.length → (L.getD k []).length + 3 ≤ packLen L
 | f :: l, 0, _ => by simp only [packLen, List.getD_cons_zero]; omega
 | f :: l, k + 1, h => by
   have := packLen_mem (L := l) (k := k) (by simpa using h)
   simp only [packLen, List.getD_cons_succ]; omega
 | [], k, h => by simp at h
set_option maxHeartbeats 4000000 in
theorem okPack {x : SV} {f : Bool} {z : Nat} {es : List (List PV)} {L : List (List UInt8)} {h d} (hx : lents h [x] = [.pv (.sl f z es)]) (hl : lendable [x] = true) (he : BsEq es L) (hz : L = [] ∨ z = 1) (hb : packLen L ≤ 300000) (hall : ∀ b ∈ L, b.length ≤ 65535) :
 FunOk Try.prog 24 [x] h d (.tup [.os d, .pv (.i .i64 0)]) [.new d (.row 1 (bytesE (packB L)))] := by
 refine fun_row2 mixed fn24 (by simp) hl (.inr (bytesE_all _)) rfl fun F => ?_
 rw [hx]
 have hel := he.1
 have hLn : L.length ≤ 300000 := by
  have : ∀ L : List (List UInt8), L.length ≤ packLen L := fun L => by
   induction L with
   | nil => simp
   | cons f l ih => simp only [packLen, List.length_cons]; omega
  exact Nat.le_trans (this L) hb
 (try simp only [bK1, bK2, bK3, bK4, bK5, bK6, bK7, bK8]); simp (maxSteps := 10000000) (disch := omega) only [ir24, hel, go_sem, ↓reduceIte, Nat.reduceEqDiff, Nat.reduceSub, Nat.reduceLeDiff, Nat.reduceAdd, Int.reduceEq, Int.reduceLT, Int.reduceLE]
 refine loop_ok mixed (stPack f z es L) (fun k => k ≤ L.length) (fun k => L.length - k) 0 (by simp) (wk_ren 8 50 (by decide) rfl (weak_mk ?_ ?_)) fun k hk => ?_
 · (try simp only [bK1, bK2, bK3, bK4, bK5, bK6, bK7, bK8]); simp (maxSteps := 10000000) (disch := omega) only [go_sem, ↓reduceIte, Nat.reduceEqDiff, Nat.reduceSub, Nat.reduceLeDiff, Nat.reduceAdd, Int.reduceEq, Int.reduceLT, Int.reduceLE]
 · (try simp only [bK1, bK2, bK3, bK4, bK5, bK6, bK7, bK8]); simp (maxSteps := 10000000) (disch := omega) only [go_sem, ↓reduceIte, Nat.reduceEqDiff, Nat.reduceSub, Nat.reduceLeDiff, Nat.reduceAdd, Int.reduceEq, Int.reduceLT, Int.reduceLE]
   rfl
 by_cases hlt : k < L.length
 · have hz1 : z = 1 := hz.resolve_left fun e => by subst e; simp at hlt
   subst hz1
   obtain ⟨f', z', hek, hz'⟩ := he.2 k hlt
   have hpt := packB_take hlt
   have hbk : (L.getD k []).length ≤ 65535 := by
    rw [List.getD_eq_getElem?_getD, List.getElem?_eq_getElem hlt]
    exact hall _ (List.getElem_mem hlt)
   have hpl := packLen_mem hlt
   have hpk := Nat.le_trans (packB_len (L.take k)) (packLen_take L k)
   generalize L.getD k [] = b at *
   have hzz := nilOr hz'
   have hwn : IntKind.u8.wrap (b.length : Int) = (((UInt8.ofNat b.length).toNat : Nat) : Int) := wrap_u8_nat _
   by_cases hs : b.length < 255
   · rw [fieldB_short hs] at hpt
     (try simp only [bK1, bK2, bK3, bK4, bK5, bK6, bK7, bK8]); simp (maxSteps := 10000000) (disch := omega) only [stPack, hel, hek, ld_sl, bytesE_length, hzz, hwn, List.length_append, go_sem, ↓reduceIte, Nat.reduceEqDiff, Nat.reduceSub, Nat.reduceLeDiff, Nat.reduceAdd, Int.reduceEq, Int.reduceLT, Int.reduceLE]
     refine ⟨k + 1, by omega, by omega, wk_ren 38 50 (by decide) rfl (weak_mk ?_ ?_)⟩
     · (try simp only [bK1, bK2, bK3, bK4, bK5, bK6, bK7, bK8]); simp (maxSteps := 10000000) (disch := omega) only [go_sem, ↓reduceIte, Nat.reduceEqDiff, Nat.reduceSub, Nat.reduceLeDiff, Nat.reduceAdd, Int.reduceEq, Int.reduceLT, Int.reduceLE]
     · (try simp only [bK1, bK2, bK3, bK4, bK5, bK6, bK7, bK8]); simp (maxSteps := 10000000) (disch := omega) only [hpt, bytesE, List.map_append, List.map_cons, List.map_nil, go_sem, ↓reduceIte, Nat.reduceEqDiff, Nat.reduceSub, Nat.reduceLeDiff, Nat.reduceAdd, Int.reduceEq, Int.reduceLT, Int.reduceLE]
       simp
   · rw [fieldB_long hs] at hpt
     have e8 : ((2 : Int) ^ min (Int.toNat 8) 64) = 256 := rfl
     have hsh : ((b.length : Int).fdiv 256) = ((b.length / 256 : Nat) : Int) := by
      rw [Int.fdiv_eq_ediv_of_nonneg _ (by omega)]; omega
     have hwh := wrap_u8_shr b.length
     (try simp only [bK1, bK2, bK3, bK4, bK5, bK6, bK7, bK8]); simp (maxSteps := 10000000) (disch := omega) only [stPack, hel, hek, ld_sl, bytesE_length, hzz, e8, hsh, hwn, hwh, List.length_append, go_sem, ↓reduceIte, Nat.reduceEqDiff, Nat.reduceSub, Nat.reduceLeDiff, Nat.reduceAdd, Int.reduceEq, Int.reduceLT, Int.reduceLE]
     refine ⟨k + 1, by omega, by omega, wk_ren 38 50 (by decide) rfl (weak_mk ?_ ?_)⟩
     · (try simp only [bK1, bK2, bK3, bK4, bK5, bK6, bK7, bK8]); simp (maxSteps := 10000000) (disch := omega) only [go_sem, ↓reduceIte, Nat.reduceEqDiff, Nat.reduceSub, Nat.reduceLeDiff, Nat.reduceAdd, Int.reduceEq, Int.reduceLT, Int.reduceLE]
     · (try simp only [bK1, bK2, bK3, bK4, bK5, bK6, bK7, bK8]); simp (maxSteps := 10000000) (disch := omega) only [hpt, bytesE, List.map_append, List.map_cons, List.map_nil, go_sem, ↓reduceIte, Nat.reduceEqDiff, Nat.reduceSub, Nat.reduceLeDiff, Nat.reduceAdd, Int.reduceEq, Int.reduceLT, Int.reduceLE]
       simp
 · obtain rfl : k = L.length := by omega
   have e := List.take_length (l := L)
   (try simp only [bK1, bK2, bK3, bK4, bK5, bK6, bK7, bK8]); simp (maxSteps := 10000000) (disch := omega) only [stPack, e, go_sem, ↓reduceIte, Nat.reduceEqDiff, Nat.reduceSub, Nat.reduceLeDiff, Nat.reduceAdd, Int.reduceEq, Int.reduceLT, Int.reduceLE]
end Go.Proofs.Ytfkmlmckihmihaa.Fw
namespace Go.Proofs.Ytfkmlmckihmihaa.Fw
open Go.RowKit Go.Proofs
theorem ofInt8' (a : Nat) (h : a < 256) : (BitVec.ofInt 8 (a : Int)).toNat = a := by
 rw [BitVec.ofInt_natCast, BitVec.toNat_ofNat]; exact Nat.mod_eq_of_lt (by omega)
theorem bits_or_u8 (a b : Nat) (ha : a < 256) (hb : b < 256) : bits .or .u8 a b = ((a ||| b : Nat) : Int) := by
 have h : a ||| b < 2 ^ 8 := Nat.or_lt_two_pow ha hb
 show IntKind.u8.wrap ((BitVec.ofInt 8 (a : Int) ||| BitVec.ofInt 8 (b : Int)).toNat : Int) = _
 rw [BitVec.toNat_or, ofInt8' a ha, ofInt8' b hb]
 exact wrap_u8 ⟨by omega, by omega⟩
theorem bits_and_u8 (a b : Nat) (ha : a < 256) (hb : b < 256) : bits .and .u8 a b = ((a &&& b : Nat) : Int) := by
 have h : a &&& b < 2 ^ 8 := Nat.and_lt_two_pow a hb
 show IntKind.u8.wrap ((BitVec.ofInt 8 (a : Int) &&& BitVec.ofInt 8 (b : Int)).toNat : Int) = _
 rw [BitVec.toNat_and, ofInt8' a ha, ofInt8' b hb]
 exact wrap_u8 ⟨by omega, by omega⟩
theorem pow_u8 {k : Nat} (hk : k < 8) : (1 : Int) * 2 ^ min k 8 = ((2 ^ k : Nat) : Int) := by
 rw [Nat.min_eq_left (by omega), Int.one_mul, Int.natCast_pow]; rfl
theorem pow_lt8 {k : Nat} (hk : k < 8) : 2 ^ k < 256 := by
 have : 2 ^ (k + 1) ≤ 2 ^ 8 := Nat.pow_le_pow_right (by omega) (by omega)
 rw [Nat.pow_succ] at this; omega
theorem or_pow {m k : Nat} (hk : k < 8) (hm : m < 2 ^ k) : bits .or .u8 (m : Int) (IntKind.u8.wrap (1 * 2 ^ min k 8)) = ((m + 2 ^ k : Nat) : Int) := by
 have h1 := pow_lt8 hk
 rw [pow_u8 hk, wrap_u8 (by omega), bits_or_u8 _ _ (by omega) (by omega)]
 have := Nat.two_pow_add_eq_or_of_lt hm 1
 rw [Nat.mul_one] at this
 rw [Nat.or_comm, ← this, Nat.add_comm]
theorem bit_and1 {m i : Nat} (hm : m < 256) (hi : i < 8) : bits .and .u8 (((m : Int)).fdiv (2 ^ min i 8)) 1 = ((m / 2 ^ i % 2 : Nat) : Int) := by
 rw [Nat.min_eq_left (by omega), Int.fdiv_eq_ediv_of_nonneg _ (by exact Int.le_of_lt (Int.pow_pos (by omega)))]
 have e : (m : Int) / 2 ^ i = ((m / 2 ^ i : Nat) : Int) := by rw [Int.natCast_ediv, Int.natCast_pow]; rfl
 have h2 : m / 2 ^ i < 256 := Nat.lt_of_le_of_lt (Nat.div_le_self _ _) hm
 rw [e, show (1 : Int) = ((1 : Nat) : Int) from rfl, bits_and_u8 _ _ h2 (by omega), show (1 : Nat) = 2 ^ 1 - 1 from rfl, Nat.and_two_pow_sub_one_eq_mod]
theorem dA_len {x y : Nat} (hx : x < 4294967296) (hy : y < 4294967296) : (dA x y).length ≤ 5 := by
 unfold dA
 split
 · exact amountB_len (by omega)
 · split
   · exact amountB_len (by omega)
   · simp
def stShrink (v base : Vc) (k : Nat) : FS := mk [(11, .pv (.i .i64 k)), (10, .vec 8 (vE v)), (7, .os 32), (6, .pv (.i .u8 (maskTo (lessP v base) k))), (5, .pv (.i .u8 (maskTo (moreP v base) k))), (3, .p 3 0)] [(3, some (.var (.vec 8 (vE base)))), (32, some (.row 1 (bytesE (byTo v base k))))]
set_option maxHeartbeats 4000000 in
theorem okShrink (v base : Vc) (hv : ∀ i, i < 8 → v i < 4294967296) (hb : ∀ i, i < 8 → base i < 4294967296) {h d} : FunOk Try.prog 45 [.vec 8 (vE v), .vec 8 (vE base)] h d (.os d) [.new d (.row 1 (bytesE (shrinkB v base)))] := by
 refine fun_row mixed fn45 (by simp) rfl (.inl rfl) fun F => ?_
 (try simp only [bK1, bK2, bK3, bK4, bK5, bK6, bK7, bK8]); simp (maxSteps := 10000000) (disch := omega) only [ir45, go_sem, ↓reduceIte, Nat.reduceEqDiff, Nat.reduceSub, Nat.reduceLeDiff, Nat.reduceAdd, Int.reduceEq, Int.reduceLT, Int.reduceLE]
 refine loop_ok mixed (stShrink v base) (fun k => k ≤ 8) (fun k => 8 - k) 0 (by simp) (wk_nil 7 32 1 rfl (by omega) (weak_mk ?_ ?_)) fun k hk => ?_
 · (try simp only [bK1, bK2, bK3, bK4, bK5, bK6, bK7, bK8]); simp (maxSteps := 10000000) (disch := omega) only [maskTo, go_sem, ↓reduceIte, Nat.reduceEqDiff, Nat.reduceSub, Nat.reduceLeDiff, Nat.reduceAdd, Int.reduceEq, Int.reduceLT, Int.reduceLE]
 · (try simp only [bK1, bK2, bK3, bK4, bK5, bK6, bK7, bK8]); simp (maxSteps := 10000000) (disch := omega) only [byTo, go_sem, ↓reduceIte, Nat.reduceEqDiff, Nat.reduceSub, Nat.reduceLeDiff, Nat.reduceAdd, Int.reduceEq, Int.reduceLT, Int.reduceLE]
   rfl
 have hl := byTo_len v base hv hb k hk
 by_cases hlt : k < 8
 · have h1 := hv k hlt
   have h2 := hb k hlt
   have hd := dA_len h1 h2
   have m1 := maskTo_lt (moreP v base) k
   have m2 := maskTo_lt (lessP v base) k
   have o1 := or_pow hlt m1
   have o2 := or_pow hlt m2
   have hby : byTo v base (k + 1) = byTo v base k ++ dA (v k) (base k) := rfl
   have hm1 : maskTo (moreP v base) (k + 1) = if moreP v base k = true then maskTo (moreP v base) k + 2 ^ k else maskTo (moreP v base) k := rfl
   have hm2 : maskTo (lessP v base) (k + 1) = if lessP v base k = true then maskTo (lessP v base) k + 2 ^ k else maskTo (lessP v base) k := rfl
   rcases Nat.lt_trichotomy (v k) (base k) with hc | hc | hc
   · have p1 : moreP v base k = false := by simp [moreP]; omega
     have p2 : lessP v base k = true := by simp [lessP, hc]
     have p3 : dA (v k) (base k) = amountB (base k - v k) := by unfold dA; rw [if_neg (by omega), if_pos hc]
     have e : ((base k : Int) - (v k : Int)) = ((base k - v k : Nat) : Int) := by omega
     rw [p1] at hm1; rw [p2] at hm2; rw [p3] at hby hd
     simp only [Bool.false_eq_true, if_false] at hm1
     simp only [if_true] at hm2
     (try simp only [bK1, bK2, bK3, bK4, bK5, bK6, bK7, bK8]); simp (maxSteps := 10000000) (disch := omega) only [stShrink, o2, e, go_sem, ↓reduceIte, Nat.reduceEqDiff, Nat.reduceSub, Nat.reduceLeDiff, Nat.reduceAdd, Int.reduceEq, Int.reduceLT, Int.reduceLE]
     refine call_with (okAmount _ (by omega)) ?_
     (try simp only [bK1, bK2, bK3, bK4, bK5, bK6, bK7, bK8]); simp (maxSteps := 10000000) (disch := omega) only [bytesE_length, bytesE_app, go_sem, ↓reduceIte, Nat.reduceEqDiff, Nat.reduceSub, Nat.reduceLeDiff, Nat.reduceAdd, Int.reduceEq, Int.reduceLT, Int.reduceLE]
     refine ⟨k + 1, by omega, by omega, wk_ren 50 32 (by decide) rfl (weak_mk ?_ ?_)⟩
     · (try simp only [bK1, bK2, bK3, bK4, bK5, bK6, bK7, bK8]); simp (maxSteps := 10000000) (disch := omega) only [hm1, hm2, go_sem, ↓reduceIte, Nat.reduceEqDiff, Nat.reduceSub, Nat.reduceLeDiff, Nat.reduceAdd, Int.reduceEq, Int.reduceLT, Int.reduceLE]
     · (try simp only [bK1, bK2, bK3, bK4, bK5, bK6, bK7, bK8]); simp (maxSteps := 10000000) (disch := omega) only [hby, go_sem, ↓reduceIte, Nat.reduceEqDiff, Nat.reduceSub, Nat.reduceLeDiff, Nat.reduceAdd, Int.reduceEq, Int.reduceLT, Int.reduceLE]
   · have p1 : moreP v base k = false := by simp [moreP]; omega
     have p2 : lessP v base k = false := by simp [lessP]; omega
     have p3 : dA (v k) (base k) = [] := by unfold dA; rw [if_neg (by omega), if_neg (by omega)]
     rw [p1] at hm1; rw [p2] at hm2; rw [p3, List.append_nil] at hby
     simp only [Bool.false_eq_true, if_false] at hm1 hm2
     (try simp only [bK1, bK2, bK3, bK4, bK5, bK6, bK7, bK8]); simp (maxSteps := 10000000) (disch := omega) only [stShrink, go_sem, ↓reduceIte, Nat.reduceEqDiff, Nat.reduceSub, Nat.reduceLeDiff, Nat.reduceAdd, Int.reduceEq, Int.reduceLT, Int.reduceLE]
     refine loop_next (k + 1) _ _ rfl (by omega) (by omega) ?_ ?_
     · (try simp only [bK1, bK2, bK3, bK4, bK5, bK6, bK7, bK8]); simp (maxSteps := 10000000) (disch := omega) only [hm1, hm2, go_sem, ↓reduceIte, Nat.reduceEqDiff, Nat.reduceSub, Nat.reduceLeDiff, Nat.reduceAdd, Int.reduceEq, Int.reduceLT, Int.reduceLE]
     · (try simp only [bK1, bK2, bK3, bK4, bK5, bK6, bK7, bK8]); simp (maxSteps := 10000000) (disch := omega) only [hby, go_sem, ↓reduceIte, Nat.reduceEqDiff, Nat.reduceSub, Nat.reduceLeDiff, Nat.reduceAdd, Int.reduceEq, Int.reduceLT, Int.reduceLE]
   · have p1 : moreP v base k = true := by simp [moreP, hc]
     have p2 : lessP v base k = false := by simp [lessP]; omega
     have p3 : dA (v k) (base k) = amountB (v k - base k) := by unfold dA; rw [if_pos hc]
     have e : ((v k : Int) - (base k : Int)) = ((v k - base k : Nat) : Int) := by omega
     rw [p1] at hm1; rw [p2] at hm2; rw [p3] at hby hd
     simp only [Bool.false_eq_true, if_false] at hm2
     simp only [if_true] at hm1
     (try simp only [bK1, bK2, bK3, bK4, bK5, bK6, bK7, bK8]); simp (maxSteps := 10000000) (disch := omega) only [stShrink, o1, e, go_sem, ↓reduceIte, Nat.reduceEqDiff, Nat.reduceSub, Nat.reduceLeDiff, Nat.reduceAdd, Int.reduceEq, Int.reduceLT, Int.reduceLE]
     refine call_with (okAmount _ (by omega)) ?_
     (try simp only [bK1, bK2, bK3, bK4, bK5, bK6, bK7, bK8]); simp (maxSteps := 10000000) (disch := omega) only [bytesE_length, bytesE_app, go_sem, ↓reduceIte, Nat.reduceEqDiff, Nat.reduceSub, Nat.reduceLeDiff, Nat.reduceAdd, Int.reduceEq, Int.reduceLT, Int.reduceLE]
     refine loop_next (k + 1) _ _ rfl (by omega) (by omega) ?_ ?_
     · (try simp only [bK1, bK2, bK3, bK4, bK5, bK6, bK7, bK8]); simp (maxSteps := 10000000) (disch := omega) only [hm1, hm2, go_sem, ↓reduceIte, Nat.reduceEqDiff, Nat.reduceSub, Nat.reduceLeDiff, Nat.reduceAdd, Int.reduceEq, Int.reduceLT, Int.reduceLE]
     · (try simp only [bK1, bK2, bK3, bK4, bK5, bK6, bK7, bK8]); simp (maxSteps := 10000000) (disch := omega) only [hby, go_sem, ↓reduceIte, Nat.reduceEqDiff, Nat.reduceSub, Nat.reduceLeDiff, Nat.reduceAdd, Int.reduceEq, Int.reduceLT, Int.reduceLE]
 · obtain rfl : k = 8 := by omega
   (try simp only [bK1, bK2, bK3, bK4, bK5, bK6, bK7, bK8]); simp (maxSteps := 10000000) (disch := omega) only [stShrink, go_sem, ↓reduceIte, Nat.reduceEqDiff, Nat.reduceSub, Nat.reduceLeDiff, Nat.reduceAdd, Int.reduceEq, Int.reduceLT, Int.reduceLE]
   rw [← mask8 (moreP v base), ← mask8 (lessP v base)]
   rfl
end Go.Proofs.Ytfkmlmckihmihaa.Fw
namespace Go.Proofs.Ytfkmlmckihmihaa.Fw
open Go.RowKit Go.Proofs
theorem setI_e (a : Nat → Int) (k : Nat) (x : Int) : setI a k x = setV a k x := rfl
theorem zI_e : (fun _ => 0 : Nat → Int) = zI := rfl
theorem rdFrom_s (m s n i : Nat) (t : Nat → Int) (rest : List UInt8) (h : n < 8) : rdFrom m s (8 - n) i t rest = match rdOne m s i rest with
 | .skip => rdFrom m s (8 - (n + 1)) (i + 1) t rest
 | .err e => (zI, e)
 | .val x rest' => rdFrom m s (8 - (n + 1)) (i + 1) (setI t i x) rest' := by
 rw [show 8 - n = (8 - (n + 1)) + 1 from by omega]; rfl
def stRead (full : Bool) (m s : Nat) (x : Nat × (Nat → Int) × List UInt8) : FS := mk [(29, .pv (.i .i64 x.1)), (7, .pv (.sl full 1 (bytesE x.2.2))), (6, .pv (.i .u8 s)), (5, .pv (.i .u8 m)), (4, .p 4 0), (2, .p 2 0)] [(4, some (.var (.vec 8 (iE x.2.1)))), (2, some (.var (.vec 8 (iE zI))))]
set_option maxHeartbeats 8000000 in
theorem okRead {a : SV} {l : List UInt8} {full : Bool} {z : Nat} (hl : l.length < 4611686018427387904) {h} {d} (ha : lendable [a] = true) (he : lent h a = .pv (.sl full z (bytesE l))) (hz : l = [] ∨ z = 1) :
 FunOk Try.prog 64 [a] h d (.tup [.vec 8 (iE (readB l).1), .pv (.i .i64 (readB l).2)]) [] := by
 refine fun_scalar mixed fn64 (by simp) ha rfl fun F => ?_
 by_cases h2 : l.length < 2
 · have e : readB l = (zI, 8) := by unfold readB; rw [if_pos h2]
   (try simp only [bK1, bK2, bK3, bK4, bK5, bK6, bK7, bK8]); simp (maxSteps := 10000000) (disch := omega) only [ir64, he, e, zI_e, go_sem, ↓reduceIte, Nat.reduceEqDiff, Nat.reduceSub, Nat.reduceLeDiff, Nat.reduceAdd, Int.reduceEq, Int.reduceLT, Int.reduceLE]
 have hz1 : z = 1 := hz.resolve_left (fun e => by subst e; simp at h2)
 subst hz1
 obtain ⟨m, hm⟩ : ∃ m, m = (l.getD 0 0).toNat := ⟨_, rfl⟩
 obtain ⟨s, hs⟩ : ∃ s, s = (l.getD 1 0).toNat := ⟨_, rfl⟩
 have hmb : m < 256 := by rw [hm]; exact UInt8.toNat_lt _
 have hsb : s < 256 := by rw [hs]; exact UInt8.toNat_lt _
 have hand := bits_and_u8 m s hmb hsb
 have h0 : (l.getD 0 0).toNat = m := hm.symm
 have h1 : (l.getD 1 0).toNat = s := hs.symm
 have t2 : (2 : Int).toNat = 2 := rfl
 have t1 : (1 : Int).toNat = 1 := rfl
 by_cases hms : m &&& s = 0
 · have e : readB l = rdFrom m s (8 - 0) 0 zI (l.drop 2) := by unfold readB; rw [if_neg h2, h0, h1, if_neg (by simp [hms])]
   have ez : ((m &&& s : Nat) : Int) = 0 := by rw [hms]; rfl
   (try simp only [bK1, bK2, bK3, bK4, bK5, bK6, bK7, bK8]); simp (maxSteps := 10000000) (disch := omega) only [ir64, he, go_sem, ↓reduceIte, Nat.reduceEqDiff, Nat.reduceSub, Nat.reduceLeDiff, Nat.reduceAdd, Int.reduceEq, Int.reduceLT, Int.reduceLE]
   refine any_now ?_
   (try simp only [bK1, bK2, bK3, bK4, bK5, bK6, bK7, bK8]); simp (maxSteps := 10000000) (disch := omega) only [load_byte_e, h0, h1, t1, t2, hand, ez, go_sem, ↓reduceIte, Nat.reduceEqDiff, Nat.reduceSub, Nat.reduceLeDiff, Nat.reduceAdd, Int.reduceEq, Int.reduceLT, Int.reduceLE]
   refine loop_ok mixed (stRead full m s) (fun x => x.1 ≤ 8 ∧ readB l = rdFrom m s (8 - x.1) x.1 x.2.1 x.2.2 ∧ x.2.2.length ≤ l.length) (fun x => 8 - x.1) (0, zI, l.drop 2) ⟨by omega, e, by simp⟩ (weak_mk ?_ ?_) fun x hx => ?_
   · (try simp only [bK1, bK2, bK3, bK4, bK5, bK6, bK7, bK8]); simp (maxSteps := 10000000) (disch := omega) only [bytesE_drop', go_sem, ↓reduceIte, Nat.reduceEqDiff, Nat.reduceSub, Nat.reduceLeDiff, Nat.reduceAdd, Int.reduceEq, Int.reduceLT, Int.reduceLE]
   · (try simp only [bK1, bK2, bK3, bK4, bK5, bK6, bK7, bK8]); simp (maxSteps := 10000000) (disch := omega) only [zI_e, go_sem, ↓reduceIte, Nat.reduceEqDiff, Nat.reduceSub, Nat.reduceLeDiff, Nat.reduceAdd, Int.reduceEq, Int.reduceLT, Int.reduceLE]
   obtain ⟨i, t, rest⟩ := x
   obtain ⟨hi, hr, hrl⟩ := hx
   simp only at hi hr hrl
   by_cases hlt : i < 8
   · rw [rdFrom_s m s i i t rest hlt] at hr
     have b1 := bit_and1 hsb hlt
     have b2 := bit_and1 hmb hlt
     by_cases k1 : s / 2 ^ i % 2 = 1
     · have k1' : ((s / 2 ^ i % 2 : Nat) : Int) = 1 := by omega
       have ho : rdOne m s i rest = rdNum (-1) rest := by unfold rdOne; rw [if_pos k1]
       rw [ho] at hr
       obtain ⟨r0, hr0⟩ : ∃ r0, r0 = (rest.getD 0 0).toNat := ⟨_, rfl⟩
       have hr0b : r0 < 256 := by rw [hr0]; exact UInt8.toNat_lt _
       have hr0' : (rest.getD 0 0).toNat = r0 := hr0.symm
       have w8 : IntKind.i64.wrap (r0 : Int) = (r0 : Int) := wrap_i64 (by omega)
       by_cases c1 : rest.length = 0 ∨ rest.length - 1 < r0
       · have hn : rdNum (-1) rest = .err 8 := by unfold rdNum; rw [hr0', if_pos c1]
         rw [hn] at hr
         by_cases c0 : rest.length = 0
         · (try simp only [bK1, bK2, bK3, bK4, bK5, bK6, bK7, bK8]); simp (maxSteps := 10000000) (disch := omega) only [stRead, b1, k1', hr, zI_e, go_sem, ↓reduceIte, Nat.reduceEqDiff, Nat.reduceSub, Nat.reduceLeDiff, Nat.reduceAdd, Int.reduceEq, Int.reduceLT, Int.reduceLE]
         · have c2 : (rest.length : Int) - 1 < (r0 : Int) := by omega
           (try simp only [bK1, bK2, bK3, bK4, bK5, bK6, bK7, bK8]); simp (maxSteps := 10000000) (disch := omega) only [stRead, b1, k1', load_byte_e, hr0', w8, hr, zI_e, go_sem, ↓reduceIte, Nat.reduceEqDiff, Nat.reduceSub, Nat.reduceLeDiff, Nat.reduceAdd, Int.reduceEq, Int.reduceLT, Int.reduceLE]
       · have c0 : ¬ rest.length = 0 := fun h => c1 (.inl h)
         have c2 : ¬ (rest.length : Int) - 1 < (r0 : Int) := by omega
         have e1 : (1 + (r0 : Int)) = ((1 + r0 : Nat) : Int) := by omega
         have hlen3 : (((rest.take (1 + r0)).drop 1)).length < 4611686018427387904 := by simp; omega
         obtain ⟨q, hq⟩ : ∃ q, q = asNum ((rest.take (1 + r0)).drop 1) := ⟨_, rfl⟩
         have hqlt : q.1 < 18446744073709551616 := by rw [hq]; exact asNum_lt _
         have hn : rdNum (-1) rest = if q.2 ≠ 0 ∨ q.1 = 0 ∨ 4294967295 < q.1 then .err 7 else .val ((-1) * (q.1 : Int)) (rest.drop (1 + r0)) := by unfold rdNum; rw [hr0', if_neg c1, ← hq]
         rw [hn] at hr
         (try simp only [bK1, bK2, bK3, bK4, bK5, bK6, bK7, bK8]); simp (maxSteps := 10000000) (disch := omega) only [stRead, b1, k1', load_byte_e, hr0', w8, e1, t1, bytesE_take', bytesE_drop', go_sem, ↓reduceIte, Nat.reduceEqDiff, Nat.reduceSub, Nat.reduceLeDiff, Nat.reduceAdd, Int.reduceEq, Int.reduceLT, Int.reduceLE]
         refine call_with (okAsNum (l := (rest.take (1 + r0)).drop 1) (full := false) (z := 1) hlen3 rfl rfl (.inr rfl)) ?_
         rw [← hq]
         by_cases d1 : q.2 = 0
         · by_cases d2 : q.1 = 0
           · rw [if_pos (.inr (.inl d2))] at hr
             have d2' : ((q.1 : Nat) : Int) = 0 := by omega
             (try simp only [bK1, bK2, bK3, bK4, bK5, bK6, bK7, bK8]); simp (maxSteps := 10000000) (disch := omega) only [d1, d2', hr, zI_e, go_sem, ↓reduceIte, Nat.reduceEqDiff, Nat.reduceSub, Nat.reduceLeDiff, Nat.reduceAdd, Int.reduceEq, Int.reduceLT, Int.reduceLE]
           · by_cases d3 : 4294967295 < q.1
             · rw [if_pos (.inr (.inr d3))] at hr
               (try simp only [bK1, bK2, bK3, bK4, bK5, bK6, bK7, bK8]); simp (maxSteps := 10000000) (disch := omega) only [d1, hr, zI_e, go_sem, ↓reduceIte, Nat.reduceEqDiff, Nat.reduceSub, Nat.reduceLeDiff, Nat.reduceAdd, Int.reduceEq, Int.reduceLT, Int.reduceLE]
             · rw [if_neg (by omega)] at hr
               (try simp only [bK1, bK2, bK3, bK4, bK5, bK6, bK7, bK8]); simp (maxSteps := 10000000) (disch := omega) only [d1, load_byte_e, hr0', w8, e1, t1, bytesE_drop', go_sem, ↓reduceIte, Nat.reduceEqDiff, Nat.reduceSub, Nat.reduceLeDiff, Nat.reduceAdd, Int.reduceEq, Int.reduceLT, Int.reduceLE]
               refine ⟨(i + 1, setI t i ((-1) * (q.1 : Int)), rest.drop (1 + r0)), ⟨by simp; omega, hr, by simp; omega⟩, by simp; omega, weak_mk ?_ ?_⟩
               · (try simp only [bK1, bK2, bK3, bK4, bK5, bK6, bK7, bK8]); simp (maxSteps := 10000000) (disch := omega) only [go_sem, ↓reduceIte, Nat.reduceEqDiff, Nat.reduceSub, Nat.reduceLeDiff, Nat.reduceAdd, Int.reduceEq, Int.reduceLT, Int.reduceLE]
               · (try simp only [bK1, bK2, bK3, bK4, bK5, bK6, bK7, bK8]); simp (maxSteps := 10000000) (disch := omega) only [setI_e, go_sem, ↓reduceIte, Nat.reduceEqDiff, Nat.reduceSub, Nat.reduceLeDiff, Nat.reduceAdd, Int.reduceEq, Int.reduceLT, Int.reduceLE]
         · rw [if_pos (.inl d1)] at hr
           (try simp only [bK1, bK2, bK3, bK4, bK5, bK6, bK7, bK8]); simp (maxSteps := 10000000) (disch := omega) only [d1, hr, zI_e, go_sem, ↓reduceIte, Nat.reduceEqDiff, Nat.reduceSub, Nat.reduceLeDiff, Nat.reduceAdd, Int.reduceEq, Int.reduceLT, Int.reduceLE]
     · have k1' : ¬ ((s / 2 ^ i % 2 : Nat) : Int) = 1 := by omega
       by_cases k2 : m / 2 ^ i % 2 = 0
       · have k2' : ((m / 2 ^ i % 2 : Nat) : Int) = 0 := by omega
         have ho : rdOne m s i rest = .skip := by unfold rdOne; rw [if_neg k1, if_pos k2]
         rw [ho] at hr
         (try simp only [bK1, bK2, bK3, bK4, bK5, bK6, bK7, bK8]); simp (maxSteps := 10000000) (disch := omega) only [stRead, b1, b2, k1', k2', go_sem, ↓reduceIte, Nat.reduceEqDiff, Nat.reduceSub, Nat.reduceLeDiff, Nat.reduceAdd, Int.reduceEq, Int.reduceLT, Int.reduceLE]
         refine ⟨(i + 1, t, rest), ⟨by simp; omega, hr, hrl⟩, by simp; omega, weak_mk ?_ ?_⟩
         · (try simp only [bK1, bK2, bK3, bK4, bK5, bK6, bK7, bK8]); simp (maxSteps := 10000000) (disch := omega) only [go_sem, ↓reduceIte, Nat.reduceEqDiff, Nat.reduceSub, Nat.reduceLeDiff, Nat.reduceAdd, Int.reduceEq, Int.reduceLT, Int.reduceLE]
         · (try simp only [bK1, bK2, bK3, bK4, bK5, bK6, bK7, bK8]); simp (maxSteps := 10000000) (disch := omega) only [go_sem, ↓reduceIte, Nat.reduceEqDiff, Nat.reduceSub, Nat.reduceLeDiff, Nat.reduceAdd, Int.reduceEq, Int.reduceLT, Int.reduceLE]
       · have k2' : ¬ ((m / 2 ^ i % 2 : Nat) : Int) = 0 := by omega
         have ho : rdOne m s i rest = rdNum 1 rest := by unfold rdOne; rw [if_neg k1, if_neg k2]
         rw [ho] at hr
         obtain ⟨r0, hr0⟩ : ∃ r0, r0 = (rest.getD 0 0).toNat := ⟨_, rfl⟩
         have hr0b : r0 < 256 := by rw [hr0]; exact UInt8.toNat_lt _
         have hr0' : (rest.getD 0 0).toNat = r0 := hr0.symm
         have w8 : IntKind.i64.wrap (r0 : Int) = (r0 : Int) := wrap_i64 (by omega)
         by_cases c1 : rest.length = 0 ∨ rest.length - 1 < r0
         · have hn : rdNum 1 rest = .err 8 := by unfold rdNum; rw [hr0', if_pos c1]
           rw [hn] at hr
           by_cases c0 : rest.length = 0
           · (try simp only [bK1, bK2, bK3, bK4, bK5, bK6, bK7, bK8]); simp (maxSteps := 10000000) (disch := omega) only [stRead, b1, b2, k1', k2', hr, zI_e, go_sem, ↓reduceIte, Nat.reduceEqDiff, Nat.reduceSub, Nat.reduceLeDiff, Nat.reduceAdd, Int.reduceEq, Int.reduceLT, Int.reduceLE]
           · have c2 : (rest.length : Int) - 1 < (r0 : Int) := by omega
             (try simp only [bK1, bK2, bK3, bK4, bK5, bK6, bK7, bK8]); simp (maxSteps := 10000000) (disch := omega) only [stRead, b1, b2, k1', k2', load_byte_e, hr0', w8, hr, zI_e, go_sem, ↓reduceIte, Nat.reduceEqDiff, Nat.reduceSub, Nat.reduceLeDiff, Nat.reduceAdd, Int.reduceEq, Int.reduceLT, Int.reduceLE]
         · have c0 : ¬ rest.length = 0 := fun h => c1 (.inl h)
           have c2 : ¬ (rest.length : Int) - 1 < (r0 : Int) := by omega
           have e1 : (1 + (r0 : Int)) = ((1 + r0 : Nat) : Int) := by omega
           have hlen3 : (((rest.take (1 + r0)).drop 1)).length < 4611686018427387904 := by simp; omega
           obtain ⟨q, hq⟩ : ∃ q, q = asNum ((rest.take (1 + r0)).drop 1) := ⟨_, rfl⟩
           have hqlt : q.1 < 18446744073709551616 := by rw [hq]; exact asNum_lt _
           have hn : rdNum 1 rest = if q.2 ≠ 0 ∨ q.1 = 0 ∨ 4294967295 < q.1 then .err 7 else .val (1 * (q.1 : Int)) (rest.drop (1 + r0)) := by unfold rdNum; rw [hr0', if_neg c1, ← hq]
           rw [hn] at hr
           (try simp only [bK1, bK2, bK3, bK4, bK5, bK6, bK7, bK8]); simp (maxSteps := 10000000) (disch := omega) only [stRead, b1, b2, k1', k2', load_byte_e, hr0', w8, e1, t1, bytesE_take', bytesE_drop', go_sem, ↓reduceIte, Nat.reduceEqDiff, Nat.reduceSub, Nat.reduceLeDiff, Nat.reduceAdd, Int.reduceEq, Int.reduceLT, Int.reduceLE]
           refine call_with (okAsNum (l := (rest.take (1 + r0)).drop 1) (full := false) (z := 1) hlen3 rfl rfl (.inr rfl)) ?_
           rw [← hq]
           by_cases d1 : q.2 = 0
           · by_cases d2 : q.1 = 0
             · rw [if_pos (.inr (.inl d2))] at hr
               have d2' : ((q.1 : Nat) : Int) = 0 := by omega
               (try simp only [bK1, bK2, bK3, bK4, bK5, bK6, bK7, bK8]); simp (maxSteps := 10000000) (disch := omega) only [d1, d2', hr, zI_e, go_sem, ↓reduceIte, Nat.reduceEqDiff, Nat.reduceSub, Nat.reduceLeDiff, Nat.reduceAdd, Int.reduceEq, Int.reduceLT, Int.reduceLE]
             · by_cases d3 : 4294967295 < q.1
               · rw [if_pos (.inr (.inr d3))] at hr
                 (try simp only [bK1, bK2, bK3, bK4, bK5, bK6, bK7, bK8]); simp (maxSteps := 10000000) (disch := omega) only [d1, hr, zI_e, go_sem, ↓reduceIte, Nat.reduceEqDiff, Nat.reduceSub, Nat.reduceLeDiff, Nat.reduceAdd, Int.reduceEq, Int.reduceLT, Int.reduceLE]
               · rw [if_neg (by omega)] at hr
                 (try simp only [bK1, bK2, bK3, bK4, bK5, bK6, bK7, bK8]); simp (maxSteps := 10000000) (disch := omega) only [d1, load_byte_e, hr0', w8, e1, t1, bytesE_drop', go_sem, ↓reduceIte, Nat.reduceEqDiff, Nat.reduceSub, Nat.reduceLeDiff, Nat.reduceAdd, Int.reduceEq, Int.reduceLT, Int.reduceLE]
                 refine ⟨(i + 1, setI t i (1 * (q.1 : Int)), rest.drop (1 + r0)), ⟨by simp; omega, hr, by simp; omega⟩, by simp; omega, weak_mk ?_ ?_⟩
                 · (try simp only [bK1, bK2, bK3, bK4, bK5, bK6, bK7, bK8]); simp (maxSteps := 10000000) (disch := omega) only [go_sem, ↓reduceIte, Nat.reduceEqDiff, Nat.reduceSub, Nat.reduceLeDiff, Nat.reduceAdd, Int.reduceEq, Int.reduceLT, Int.reduceLE]
                 · (try simp only [bK1, bK2, bK3, bK4, bK5, bK6, bK7, bK8]); simp (maxSteps := 10000000) (disch := omega) only [setI_e, go_sem, ↓reduceIte, Nat.reduceEqDiff, Nat.reduceSub, Nat.reduceLeDiff, Nat.reduceAdd, Int.reduceEq, Int.reduceLT, Int.reduceLE]
           · rw [if_pos (.inl d1)] at hr
             (try simp only [bK1, bK2, bK3, bK4, bK5, bK6, bK7, bK8]); simp (maxSteps := 10000000) (disch := omega) only [d1, hr, zI_e, go_sem, ↓reduceIte, Nat.reduceEqDiff, Nat.reduceSub, Nat.reduceLeDiff, Nat.reduceAdd, Int.reduceEq, Int.reduceLT, Int.reduceLE]
   · obtain rfl : i = 8 := by omega
     have hr' : readB l = if rest.length = 0 then (t, 0) else (zI, 4) := hr
     by_cases c0 : rest.length = 0
     · rw [if_pos c0] at hr'
       (try simp only [bK1, bK2, bK3, bK4, bK5, bK6, bK7, bK8]); simp (maxSteps := 10000000) (disch := omega) only [stRead, hr', go_sem, ↓reduceIte, Nat.reduceEqDiff, Nat.reduceSub, Nat.reduceLeDiff, Nat.reduceAdd, Int.reduceEq, Int.reduceLT, Int.reduceLE]
     · rw [if_neg c0] at hr'
       (try simp only [bK1, bK2, bK3, bK4, bK5, bK6, bK7, bK8]); simp (maxSteps := 10000000) (disch := omega) only [stRead, hr', zI_e, go_sem, ↓reduceIte, Nat.reduceEqDiff, Nat.reduceSub, Nat.reduceLeDiff, Nat.reduceAdd, Int.reduceEq, Int.reduceLT, Int.reduceLE]
 · have e : readB l = (zI, 7) := by unfold readB; rw [if_neg h2, h0, h1, if_pos hms]
   have ez : ¬ ((m &&& s : Nat) : Int) = 0 := by omega
   (try simp only [bK1, bK2, bK3, bK4, bK5, bK6, bK7, bK8]); simp (maxSteps := 10000000) (disch := omega) only [ir64, he, go_sem, ↓reduceIte, Nat.reduceEqDiff, Nat.reduceSub, Nat.reduceLeDiff, Nat.reduceAdd, Int.reduceEq, Int.reduceLT, Int.reduceLE]
   refine any_now ?_
   (try simp only [bK1, bK2, bK3, bK4, bK5, bK6, bK7, bK8]); simp (maxSteps := 10000000) (disch := omega) only [load_byte_e, h0, h1, t1, t2, hand, ez, e, zI_e, go_sem, ↓reduceIte, Nat.reduceEqDiff, Nat.reduceSub, Nat.reduceLeDiff, Nat.reduceAdd, Int.reduceEq, Int.reduceLT, Int.reduceLE]
end Go.Proofs.Ytfkmlmckihmihaa.Fw
namespace Go.Proofs.Ytfkmlmckihmihaa.Fw
open Go.RowKit Go.Proofs
def growF (l : List UInt8) (base : Vc) : Vc := fun i => ((base i : Int) + (readB l).1 i).toNat
theorem growB_ok {l : List UInt8} {base : Vc} (h0 : (readB l).2 = 0) (hok : growOk l base) : growB l base = (growF l base, 0) := by
 unfold growB
 rw [if_neg (by rw [h0]; simp), if_pos hok]; rfl
def stGrow (l : List UInt8) (base : Vc) (k : Nat) : FS := mk [(22, .pv (.i .i64 k)), (21, .vec 8 (iE (readB l).1)), (8, .p 8 0), (4, .p 4 0), (3, .p 3 0)] [(3, some (.var (.vec 8 (vE base)))), (8, some (.var (.vec 8 (vE fun i => if i < k then growF l base i else 0)))), (4, some (.var (.vec 8 (vE fun _ => 0))))]
set_option maxHeartbeats 4000000 in
theorem okGrow {a : SV} {l : List UInt8} {full : Bool} {z : Nat} (base : Vc) (hb : ∀ i, i < 8 → base i < 4294967296) (hl : l.length < 4611686018427387904) {h} {d} (ha : lendable [a] = true) (he : lent h a = .pv (.sl full z (bytesE l))) (hz : l = [] ∨ z = 1) :
 FunOk Try.prog 49 [a, .vec 8 (vE base)] h d (.tup [.vec 8 (vE (growB l base).1), .pv (.i .i64 (growB l base).2)]) [] := by
 have ha2 : lendable [a, .vec 8 (vE base)] = true := by
  cases a <;> simp only [lendable, SV.closed, Bool.and_true, Bool.true_and, Bool.and_eq_true] at ha ⊢ <;> first | exact ha | trivial
 refine fun_scalar mixed fn49 (by simp) ha2 rfl fun F => ?_
 by_cases h0 : (readB l).2 = 0
 · (try simp only [bK1, bK2, bK3, bK4, bK5, bK6, bK7, bK8]); simp (maxSteps := 10000000) (disch := omega) only [ir49, he, go_sem, ↓reduceIte, Nat.reduceEqDiff, Nat.reduceSub, Nat.reduceLeDiff, Nat.reduceAdd, Int.reduceEq, Int.reduceLT, Int.reduceLE]
   refine call_with (okRead hl rfl rfl hz) ?_
   (try simp only [bK1, bK2, bK3, bK4, bK5, bK6, bK7, bK8]); simp (maxSteps := 10000000) (disch := omega) only [h0, go_sem, ↓reduceIte, Nat.reduceEqDiff, Nat.reduceSub, Nat.reduceLeDiff, Nat.reduceAdd, Int.reduceEq, Int.reduceLT, Int.reduceLE]
   refine loop_ok mixed (stGrow l base) (fun k => k ≤ 8 ∧ ∀ i, i < k → 0 ≤ (base i : Int) + (readB l).1 i ∧ (base i : Int) + (readB l).1 i ≤ 4294967295) (fun k => 8 - k) 0 ⟨by omega, fun i hi => by omega⟩ (weak_mk ?_ ?_) fun k hk => ?_
   · (try simp only [bK1, bK2, bK3, bK4, bK5, bK6, bK7, bK8]); simp (maxSteps := 10000000) (disch := omega) only [go_sem, ↓reduceIte, Nat.reduceEqDiff, Nat.reduceSub, Nat.reduceLeDiff, Nat.reduceAdd, Int.reduceEq, Int.reduceLT, Int.reduceLE]
   · (try simp only [bK1, bK2, bK3, bK4, bK5, bK6, bK7, bK8]); simp (maxSteps := 10000000) (disch := omega) only [vE_none, go_sem, ↓reduceIte, Nat.reduceEqDiff, Nat.reduceSub, Nat.reduceLeDiff, Nat.reduceAdd, Int.reduceEq, Int.reduceLT, Int.reduceLE]
   obtain ⟨hk, hok⟩ := hk
   by_cases hlt : k < 8
   · have b1 := hb k hlt
     have b2 := readB_bound l k
     have w1 : IntKind.i64.wrap ((base k : Nat) : Int) = (base k : Int) := wrap_i64 (by omega)
     by_cases c1 : (base k : Int) + (readB l).1 k < 0
     · have hn : ¬ growOk l base := fun h => by have := h k hlt; omega
       have e : growB l base = (fun _ => 0, 7) := by unfold growB; rw [if_neg (by rw [h0]; simp), if_neg hn]
       (try simp only [bK1, bK2, bK3, bK4, bK5, bK6, bK7, bK8]); simp (maxSteps := 10000000) (disch := omega) only [stGrow, w1, e, go_sem, ↓reduceIte, Nat.reduceEqDiff, Nat.reduceSub, Nat.reduceLeDiff, Nat.reduceAdd, Int.reduceEq, Int.reduceLT, Int.reduceLE]
     · by_cases c2 : 4294967295 < (base k : Int) + (readB l).1 k
       · have hn : ¬ growOk l base := fun h => by have := h k hlt; omega
         have e : growB l base = (fun _ => 0, 7) := by unfold growB; rw [if_neg (by rw [h0]; simp), if_neg hn]
         (try simp only [bK1, bK2, bK3, bK4, bK5, bK6, bK7, bK8]); simp (maxSteps := 10000000) (disch := omega) only [stGrow, w1, e, go_sem, ↓reduceIte, Nat.reduceEqDiff, Nat.reduceSub, Nat.reduceLeDiff, Nat.reduceAdd, Int.reduceEq, Int.reduceLT, Int.reduceLE]
       · obtain ⟨x, hx⟩ : ∃ x : Nat, (base k : Int) + (readB l).1 k = (x : Int) := ⟨((base k : Int) + (readB l).1 k).toNat, by omega⟩
         rw [hx] at c1 c2
         have w2 : IntKind.u32.wrap ((x : Nat) : Int) = (x : Int) := wrap_u32 (by omega)
         have w3 : IntKind.i64.wrap ((x : Nat) : Int) = (x : Int) := wrap_i64 (by omega)
         have hxe : x = growF l base k := by unfold growF; omega
         (try simp only [bK1, bK2, bK3, bK4, bK5, bK6, bK7, bK8]); simp (maxSteps := 10000000) (disch := omega) only [stGrow, w1, hx, w2, w3, go_sem, ↓reduceIte, Nat.reduceEqDiff, Nat.reduceSub, Nat.reduceLeDiff, Nat.reduceAdd, Int.reduceEq, Int.reduceLT, Int.reduceLE]
         refine loop_next (k + 1) _ _ rfl ⟨by omega, fun i hi => ?_⟩ (by omega) ?_ ?_
         · by_cases e : i = k
           · subst e; omega
           · exact hok i (by omega)
         · (try simp only [bK1, bK2, bK3, bK4, bK5, bK6, bK7, bK8]); simp (maxSteps := 10000000) (disch := omega) only [go_sem, ↓reduceIte, Nat.reduceEqDiff, Nat.reduceSub, Nat.reduceLeDiff, Nat.reduceAdd, Int.reduceEq, Int.reduceLT, Int.reduceLE]
         · (try simp only [bK1, bK2, bK3, bK4, bK5, bK6, bK7, bK8]); simp (maxSteps := 10000000) (disch := omega) only [vE_setV_lt, hxe, go_sem, ↓reduceIte, Nat.reduceEqDiff, Nat.reduceSub, Nat.reduceLeDiff, Nat.reduceAdd, Int.reduceEq, Int.reduceLT, Int.reduceLE]
   · have hall : growOk l base := fun i hi => hok i (by omega)
     have e := growB_ok h0 hall
     (try simp only [bK1, bK2, bK3, bK4, bK5, bK6, bK7, bK8]); simp (maxSteps := 10000000) (disch := omega) only [stGrow, vE_all, e, go_sem, ↓reduceIte, Nat.reduceEqDiff, Nat.reduceSub, Nat.reduceLeDiff, Nat.reduceAdd, Int.reduceEq, Int.reduceLT, Int.reduceLE]
 · have e : growB l base = (fun _ => 0, (readB l).2) := by unfold growB; rw [if_pos h0]
   (try simp only [bK1, bK2, bK3, bK4, bK5, bK6, bK7, bK8]); simp (maxSteps := 10000000) (disch := omega) only [ir49, he, go_sem, ↓reduceIte, Nat.reduceEqDiff, Nat.reduceSub, Nat.reduceLeDiff, Nat.reduceAdd, Int.reduceEq, Int.reduceLT, Int.reduceLE]
   refine call_with (okRead hl rfl rfl hz) ?_
   (try simp only [bK1, bK2, bK3, bK4, bK5, bK6, bK7, bK8]); simp (maxSteps := 10000000) (disch := omega) only [h0, e, go_sem, ↓reduceIte, Nat.reduceEqDiff, Nat.reduceSub, Nat.reduceLeDiff, Nat.reduceAdd, Int.reduceEq, Int.reduceLT, Int.reduceLE]
end Go.Proofs.Ytfkmlmckihmihaa.Fw
namespace Go.Proofs.Ytfkmlmckihmihaa.Fw
open Go.RowKit Go.Proofs
def idB (x : Idn) : List UInt8 := if x.1 = 0 ∧ x.2 = 0 then [] else UInt8.ofNat x.1.toNat :: numB x.2
def idOk (x : Idn) : Prop := 0 ≤ x.1 ∧ x.1 ≤ 255 ∧ x.2 ≤ 1048576
theorem idB_len (x : Idn) (h : idOk x) : (idB x).length ≤ 9 := by
 unfold idB
 split
 · simp
 · have := numB_len 8 x.2 (by have := h.2.2; omega)
   simp; omega
theorem okWriteID (x : Idn) (hx : idOk x) {h d} : FunOk Try.prog 60 [.vec 2 [.i .i64 x.1, .i .u32 x.2]] h d (.os d) [.new d (.row 1 (bytesE (idB x)))] := by
 refine fun_rowN mixed fn60 (by simp) rfl (.inl rfl) fun F => ?_
 obtain ⟨h1, h2, h3⟩ := hx
 by_cases hz : x.1 = 0 ∧ x.2 = 0
 · have e : idB x = [] := if_pos hz
   have ez : zeroB x.1 x.2 = true := decide_eq_true hz
   (try simp only [bK1, bK2, bK3, bK4, bK5, bK6, bK7, bK8]); simp (maxSteps := 10000000) (disch := omega) only [ir60, fits_id, fits_id0, peq_zero, ez, e, go_sem, ↓reduceIte, Nat.reduceEqDiff, Nat.reduceSub, Nat.reduceLeDiff, Nat.reduceAdd, Int.reduceEq, Int.reduceLT, Int.reduceLE]
   exact ⟨rfl, by omega⟩
 · have e : idB x = UInt8.ofNat x.1.toNat :: numB x.2 := if_neg hz
   have ez : zeroB x.1 x.2 = false := decide_eq_false hz
   have ew : IntKind.u8.wrap x.1 = ((UInt8.ofNat x.1.toNat).toNat : Int) := by
    obtain ⟨n, hn⟩ : ∃ n : Nat, x.1 = n := ⟨x.1.toNat, by omega⟩
    rw [hn, Int.toNat_natCast]; exact wrap_u8_nat n
   have e5 := numB_len 8 x.2 (by omega)
   (try simp only [bK1, bK2, bK3, bK4, bK5, bK6, bK7, bK8]); simp (maxSteps := 10000000) (disch := omega) only [ir60, fits_id, fits_id0, peq_zero, ez, ld_id0, ld_id1, ew, go_sem, ↓reduceIte, Nat.reduceEqDiff, Nat.reduceSub, Nat.reduceLeDiff, Nat.reduceAdd, Int.reduceEq, Int.reduceLT, Int.reduceLE]
   refine call_with (okNum x.2 (by omega)) ?_
   (try simp only [bK1, bK2, bK3, bK4, bK5, bK6, bK7, bK8]); simp (maxSteps := 10000000) (disch := omega) only [bytesE_length, go_sem, ↓reduceIte, Nat.reduceEqDiff, Nat.reduceSub, Nat.reduceLeDiff, Nat.reduceAdd, Int.reduceEq, Int.reduceLT, Int.reduceLE]
   rw [e]; rfl
end Go.Proofs.Ytfkmlmckihmihaa.Fw
namespace Go.Proofs.Ytfkmlmckihmihaa.Fw
open Go.RowKit Go.Proofs
def idsW (l : List Idn) : List UInt8 := packB (l.map idB)
theorem packLen_ids : ∀ {l : List Idn}, (∀ x ∈ l, idOk x) → packLen (l.map idB) ≤ 12 * l.length
 | [], _ => by simp [packLen]
 | x :: l, h => by
   have h1 := idB_len x (h x List.mem_cons_self)
   have h2 := packLen_ids (l := l) fun y hy => h y (List.mem_cons_of_mem _ hy)
   simp only [List.map_cons, packLen, List.length_cons]; omega
theorem idsW_len {l : List Idn} (h : ∀ x ∈ l, idOk x) : (idsW l).length ≤ 12 * l.length := Nat.le_trans (packB_len _) (packLen_ids h)
def stWIDs (f : Bool) (z : Nat) (l : List Idn) (k : Nat) : FS := mk [(10, .pv (.i .i64 k)), (9, .pv (.i .i64 l.length)), (8, .pv (.sl f z (l.map idE))), (3, .os 40)] [(40, some (.row 1 (((l.take k).map idB).map bE)))]
set_option maxHeartbeats 1000000 in
theorem okWriteIDs {x : SV} {f : Bool} {z : Nat} {l : List Idn} {h d} (hx : lents h [x] = [.pv (.sl f z (l.map idE))]) (hl : lendable [x] = true) (hz : l = [] ∨ z = 2) (hn : l.length ≤ 1000) (hok : ∀ y ∈ l, idOk y) :
 FunOk Try.prog 61 [x] h d (.os d) [.new d (.row 1 (bytesE (idsW l)))] := by
 refine fun_row mixed fn61 (by simp) hl (.inr (bytesE_all _)) fun F => ?_
 rw [hx]
 (try simp only [bK1, bK2, bK3, bK4, bK5, bK6, bK7, bK8]); simp (maxSteps := 10000000) (disch := omega) only [ir61, go_sem, ↓reduceIte, Nat.reduceEqDiff, Nat.reduceSub, Nat.reduceLeDiff, Nat.reduceAdd, Int.reduceEq, Int.reduceLT, Int.reduceLE]
 refine loop_ok mixed (stWIDs f z l) (fun k => k ≤ l.length) (fun k => l.length - k) 0 (by simp) (wk_nil 3 40 1 rfl (by omega) (weak_mk ?_ ?_)) fun k hk => ?_
 · (try simp only [bK1, bK2, bK3, bK4, bK5, bK6, bK7, bK8]); simp (maxSteps := 10000000) (disch := omega) only [go_sem, ↓reduceIte, Nat.reduceEqDiff, Nat.reduceSub, Nat.reduceLeDiff, Nat.reduceAdd, Int.reduceEq, Int.reduceLT, Int.reduceLE]
 · (try simp only [bK1, bK2, bK3, bK4, bK5, bK6, bK7, bK8]); simp (maxSteps := 10000000) (disch := omega) only [go_sem, ↓reduceIte, Nat.reduceEqDiff, Nat.reduceSub, Nat.reduceLeDiff, Nat.reduceAdd, Int.reduceEq, Int.reduceLT, Int.reduceLE]
   rfl
 by_cases hlt : k < l.length
 · have hz2 : z = 2 := hz.resolve_left fun e => by subst e; simp at hlt
   subst hz2
   have he : (l.map idE)[k]? = some (idE l[k]) := by simp [hlt]
   have ht : l.take (k + 1) = l.take k ++ [l[k]] := by rw [List.take_add_one, List.getElem?_eq_getElem hlt]; rfl
   have hm := hok l[k] (List.getElem_mem hlt)
   generalize l[k] = y at *
   have hyl : (idE y).length = 2 := rfl
   have hkl : (l.take k).length ≤ 1000 := by simp; omega
   (try simp only [bK1, bK2, bK3, bK4, bK5, bK6, bK7, bK8]); simp (maxSteps := 10000000) (disch := omega) only [stWIDs, he, ld_idW, hyl, go_sem, ↓reduceIte, Nat.reduceEqDiff, Nat.reduceSub, Nat.reduceLeDiff, Nat.reduceAdd, Int.reduceEq, Int.reduceLT, Int.reduceLE]
   refine call_with (okWriteID y hm) ?_
   (try simp only [bK1, bK2, bK3, bK4, bK5, bK6, bK7, bK8]); simp (maxSteps := 10000000) (disch := omega) only [go_sem, ↓reduceIte, Nat.reduceEqDiff, Nat.reduceSub, Nat.reduceLeDiff, Nat.reduceAdd, Int.reduceEq, Int.reduceLT, Int.reduceLE]
   refine ⟨k + 1, by omega, by omega, wk_ren 18 40 (by decide) rfl (weak_mk ?_ ?_)⟩
   · (try simp only [bK1, bK2, bK3, bK4, bK5, bK6, bK7, bK8]); simp (maxSteps := 10000000) (disch := omega) only [go_sem, ↓reduceIte, Nat.reduceEqDiff, Nat.reduceSub, Nat.reduceLeDiff, Nat.reduceAdd, Int.reduceEq, Int.reduceLT, Int.reduceLE]
   · (try simp only [bK1, bK2, bK3, bK4, bK5, bK6, bK7, bK8]); simp (maxSteps := 10000000) (disch := omega) only [ht, List.map_append, List.map_cons, List.map_nil, bE, go_sem, ↓reduceIte, Nat.reduceEqDiff, Nat.reduceSub, Nat.reduceLeDiff, Nat.reduceAdd, Int.reduceEq, Int.reduceLT, Int.reduceLE]
 · obtain rfl : k = l.length := by omega
   have e := List.take_length (l := l)
   (try simp only [bK1, bK2, bK3, bK4, bK5, bK6, bK7, bK8]); simp (maxSteps := 10000000) (disch := omega) only [stWIDs, e, go_sem, ↓reduceIte, Nat.reduceEqDiff, Nat.reduceSub, Nat.reduceLeDiff, Nat.reduceAdd, Int.reduceEq, Int.reduceLT, Int.reduceLE]
   refine call_with (okPack (f := false) (z := 1) (L := l.map idB) rfl rfl (bsEq_map _) (.inr rfl) (by have := packLen_ids hok; omega) (fun b hb => by
    obtain ⟨y, hy, rfl⟩ := List.mem_map.1 hb
    have := idB_len y (hok y hy); omega)) ?_
   (try simp only [bK1, bK2, bK3, bK4, bK5, bK6, bK7, bK8]); simp (maxSteps := 10000000) (disch := omega) only [idsW, go_sem, ↓reduceIte, Nat.reduceEqDiff, Nat.reduceSub, Nat.reduceLeDiff, Nat.reduceAdd, Int.reduceEq, Int.reduceLT, Int.reduceLE]
def smallB (b : List UInt8) : Int := if (asNum b).2 = 0 ∧ (asNum b).1 ≤ 1073741824 then (asNum b).1 else -1
theorem okSmall {f : Bool} {z : Nat} {b : List UInt8} (hz : b = [] ∨ z = 1) (hb : b.length < 4611686018427387904) {h d} : FunOk Try.prog 65 [.pv (.sl f z (bytesE b))] h d (.pv (.i .i64 (smallB b))) [] := by
 refine fun_pure mixed fn65 (by simp) rfl rfl fun F => ?_
 (try simp only [bK1, bK2, bK3, bK4, bK5, bK6, bK7, bK8]); simp (maxSteps := 10000000) (disch := omega) only [ir65, go_sem, ↓reduceIte, Nat.reduceEqDiff, Nat.reduceSub, Nat.reduceLeDiff, Nat.reduceAdd, Int.reduceEq, Int.reduceLT, Int.reduceLE]
 refine call_with (okAsNum (l := b) hb rfl rfl hz) ?_
 by_cases h1 : (asNum b).2 = 0
 · by_cases h2 : 1073741824 < ((asNum b).1 : Int)
   · have e : smallB b = -1 := if_neg (by omega)
     (try simp only [bK1, bK2, bK3, bK4, bK5, bK6, bK7, bK8]); simp (maxSteps := 10000000) (disch := omega) only [h1, h2, e, go_sem, ↓reduceIte, Nat.reduceEqDiff, Nat.reduceSub, Nat.reduceLeDiff, Nat.reduceAdd, Int.reduceEq, Int.reduceLT, Int.reduceLE]
   · have e : smallB b = (asNum b).1 := if_pos ⟨h1, by omega⟩
     (try simp only [bK1, bK2, bK3, bK4, bK5, bK6, bK7, bK8]); simp (maxSteps := 10000000) (disch := omega) only [h1, h2, e, go_sem, ↓reduceIte, Nat.reduceEqDiff, Nat.reduceSub, Nat.reduceLeDiff, Nat.reduceAdd, Int.reduceEq, Int.reduceLT, Int.reduceLE]
 · have e : smallB b = -1 := if_neg (fun h => h1 h.1)
   (try simp only [bK1, bK2, bK3, bK4, bK5, bK6, bK7, bK8]); simp (maxSteps := 10000000) (disch := omega) only [h1, e, go_sem, ↓reduceIte, Nat.reduceEqDiff, Nat.reduceSub, Nat.reduceLeDiff, Nat.reduceAdd, Int.reduceEq, Int.reduceLT, Int.reduceLE]
def rdID (b : List UInt8) : Idn := if b ≠ [] ∧ (asNum (b.drop 1)).2 = 0 ∧ (asNum (b.drop 1)).1 ≤ 1048576 then (((b.getD 0 0).toNat : Int), (asNum (b.drop 1)).1) else (0, 0)
theorem okReadID {f : Bool} {z : Nat} {b : List UInt8} (hz : b = [] ∨ z = 1) (hb : b.length < 400000) {h d} : FunOk Try.prog 66 [.pv (.sl f z (bytesE b))] h d (.agg [.pv (.i .i64 (rdID b).1), .pv (.i .u32 (rdID b).2)]) [] := by
 refine fun_pure mixed fn66 (by simp) rfl rfl fun F => ?_
 by_cases h0 : b = []
 · subst h0
   have e : rdID [] = (0, 0) := by simp [rdID]
   have e0 : bytesE [] = [] := rfl
   (try simp only [bK1, bK2, bK3, bK4, bK5, bK6, bK7, bK8]); simp (maxSteps := 10000000) (disch := omega) only [ir66, e, e0, List.length_nil, Int.natCast_zero, go_sem, ↓reduceIte, Nat.reduceEqDiff, Nat.reduceSub, Nat.reduceLeDiff, Nat.reduceAdd, Int.reduceEq, Int.reduceLT, Int.reduceLE]
 · have hz1 : z = 1 := hz.resolve_left h0
   subst hz1
   have hpos := List.length_pos_iff.2 h0
   have hn0 : ¬ (b.length : Int) = 0 := by omega
   have hdr : List.drop (Int.toNat 1) (List.take b.length (bytesE b)) = bytesE (b.drop 1) := by
    rw [List.take_of_length_le (by rw [bytesE_length]; omega)]; simp [bytesE]
   have h1' : Int.toNat 1 = 1 := rfl
   (try simp only [bK1, bK2, bK3, bK4, bK5, bK6, bK7, bK8]); simp (maxSteps := 10000000) (disch := omega) only [ir66, bytesE_length, hn0, hdr, h1', go_sem, ↓reduceIte, Nat.reduceEqDiff, Nat.reduceSub, Nat.reduceLeDiff, Nat.reduceAdd, Int.reduceEq, Int.reduceLT, Int.reduceLE]
   refine call_with (okAsNum (l := b.drop 1) (by simp; omega) rfl rfl (.inr rfl)) ?_
   by_cases h1 : (asNum (b.drop 1)).2 = 0
   · by_cases h2 : 1048576 < ((asNum (b.drop 1)).1 : Int)
     · have e : rdID b = (0, 0) := if_neg (fun h => by have := h.2.2; omega)
       (try simp only [bK1, bK2, bK3, bK4, bK5, bK6, bK7, bK8]); simp (maxSteps := 10000000) (disch := omega) only [h1, h2, e, Int.natCast_zero, go_sem, ↓reduceIte, Nat.reduceEqDiff, Nat.reduceSub, Nat.reduceLeDiff, Nat.reduceAdd, Int.reduceEq, Int.reduceLT, Int.reduceLE]
     · have e : rdID b = (((b.getD 0 0).toNat : Int), (asNum (b.drop 1)).1) := if_pos ⟨h0, h1, by omega⟩
       have hb0 : (bytesE b)[0]? = some [.i .u8 ((b.getD 0 0).toNat)] := by
        simp [bytesE, List.getD_eq_getElem?_getD, List.getElem?_eq_getElem hpos]
       have hby := (b.getD 0 0).toNat_lt
       have hw1 : IntKind.i64.wrap ((b.getD 0 0).toNat : Int) = ((b.getD 0 0).toNat : Int) := wrap_i64 (by omega)
       have hw2 : IntKind.u32.wrap ((asNum (b.drop 1)).1 : Int) = ((asNum (b.drop 1)).1 : Int) := wrap_u32 (by omega)
       have h00 : Int.toNat 0 = 0 := rfl
       generalize b.getD 0 0 = c at *
       (try simp only [bK1, bK2, bK3, bK4, bK5, bK6, bK7, bK8]); simp (maxSteps := 10000000) (disch := omega) only [h1, h2, e, bytesE_length, hb0, load_c0, hw1, hw2, h00, go_sem, ↓reduceIte, Nat.reduceEqDiff, Nat.reduceSub, Nat.reduceLeDiff, Nat.reduceAdd, Int.reduceEq, Int.reduceLT, Int.reduceLE]
   · have e : rdID b = (0, 0) := if_neg (fun h => h1 h.2.1)
     (try simp only [bK1, bK2, bK3, bK4, bK5, bK6, bK7, bK8]); simp (maxSteps := 10000000) (disch := omega) only [h1, e, Int.natCast_zero, go_sem, ↓reduceIte, Nat.reduceEqDiff, Nat.reduceSub, Nat.reduceLeDiff, Nat.reduceAdd, Int.reduceEq, Int.reduceLT, Int.reduceLE]
end Go.Proofs.Ytfkmlmckihmihaa.Fw
namespace Go.Proofs.Ytfkmlmckihmihaa.Fw
open Go.RowKit Go.Proofs
def stEqB (f g : Bool) (y z : Nat) (a b : List UInt8) (k : Nat) : FS := mk [(13, .pv (.i .i64 k)), (12, .pv (.i .i64 a.length)), (0, .pv (.sl f y (bytesE a))), (1, .pv (.sl g z (bytesE b)))] []
theorem byte_at {a : List UInt8} {k : Nat} (h : k < a.length) : (bytesE a)[k]? = some [.i .u8 ((a.getD k 0).toNat)] := by
 simp [bytesE, List.getD_eq_getElem?_getD, List.getElem?_eq_getElem h]
theorem take_eq_of {a b : List UInt8} (hl : a.length = b.length) (h : ∀ j, j < a.length → a.getD j 0 = b.getD j 0) : a = b := by
 apply List.ext_getElem hl
 intro j h1 h2
 have := h j h1
 rwa [List.getD_eq_getElem?_getD, List.getD_eq_getElem?_getD, List.getElem?_eq_getElem h1, List.getElem?_eq_getElem h2] at this
set_option maxHeartbeats 1000000 in
theorem okEqB {p q : SV} {f g : Bool} {y z : Nat} {a b : List UInt8} {h d} (hx : lents h [p, q] = [.pv (.sl f y (bytesE a)), .pv (.sl g z (bytesE b))]) (hl : lendable [p, q] = true) (hy : a = [] ∨ y = 1) (hz : b = [] ∨ z = 1) (hn : a.length ≤ 400000) (hn' : b.length ≤ 400000) :
 FunOk Try.prog 51 [p, q] h d (.pv (.b (decide (a = b)))) [] := by
 refine fun_scalar mixed fn51 (by simp) hl rfl fun F => ?_
 rw [hx]
 by_cases hlen : a.length = b.length
 · have hle : (a.length : Int) = (b.length : Int) := by omega
   (try simp only [bK1, bK2, bK3, bK4, bK5, bK6, bK7, bK8]); simp (maxSteps := 10000000) (disch := omega) only [ir51, bytesE_length, hle, go_sem, ↓reduceIte, Nat.reduceEqDiff, Nat.reduceSub, Nat.reduceLeDiff, Nat.reduceAdd, Int.reduceEq, Int.reduceLT, Int.reduceLE]
   refine loop_ok mixed (stEqB f g y z a b) (fun k => k ≤ a.length ∧ ∀ j, j < k → a.getD j 0 = b.getD j 0) (fun k => a.length - k) 0 (by simp) (weak_mk ?_ ?_) fun k hk => ?_
   · (try simp only [bK1, bK2, bK3, bK4, bK5, bK6, bK7, bK8]); simp (maxSteps := 10000000) (disch := omega) only [bytesE_length, hle, go_sem, ↓reduceIte, Nat.reduceEqDiff, Nat.reduceSub, Nat.reduceLeDiff, Nat.reduceAdd, Int.reduceEq, Int.reduceLT, Int.reduceLE]
   · (try simp only [bK1, bK2, bK3, bK4, bK5, bK6, bK7, bK8]); simp (maxSteps := 10000000) (disch := omega) only [go_sem, ↓reduceIte, Nat.reduceEqDiff, Nat.reduceSub, Nat.reduceLeDiff, Nat.reduceAdd, Int.reduceEq, Int.reduceLT, Int.reduceLE]
   obtain ⟨hk1, hk2⟩ := hk
   by_cases hlt : k < a.length
   · have hy1 : y = 1 := hy.resolve_left fun e => by subst e; simp at hlt
     have hz1 : z = 1 := hz.resolve_left fun e => by subst e; rw [List.length_nil] at hlen; omega
     subst hy1; subst hz1
     have h1 := byte_at hlt
     have h2 := byte_at (a := b) (k := k) (by omega)
     have hb : k < b.length := by omega
     by_cases hd : a.getD k 0 = b.getD k 0
     · rw [← hd] at h2
       (try simp only [bK1, bK2, bK3, bK4, bK5, bK6, bK7, bK8]); simp (maxSteps := 10000000) (disch := omega) only [stEqB, bytesE_length, hlen, h1, h2, load_c0, go_sem, ↓reduceIte, Nat.reduceEqDiff, Nat.reduceSub, Nat.reduceLeDiff, Nat.reduceAdd, Int.reduceEq, Int.reduceLT, Int.reduceLE]
       refine loop_next (k + 1) _ _ rfl ⟨by omega, fun j hj => ?_⟩ (by omega) ?_ ?_
       · by_cases e : j = k
         · subst e; exact hd
         · exact hk2 j (by omega)
       · (try simp only [bK1, bK2, bK3, bK4, bK5, bK6, bK7, bK8]); simp (maxSteps := 10000000) (disch := omega) only [go_sem, ↓reduceIte, Nat.reduceEqDiff, Nat.reduceSub, Nat.reduceLeDiff, Nat.reduceAdd, Int.reduceEq, Int.reduceLT, Int.reduceLE]
       · (try simp only [bK1, bK2, bK3, bK4, bK5, bK6, bK7, bK8]); simp (maxSteps := 10000000) (disch := omega) only [go_sem, ↓reduceIte, Nat.reduceEqDiff, Nat.reduceSub, Nat.reduceLeDiff, Nat.reduceAdd, Int.reduceEq, Int.reduceLT, Int.reduceLE]
     · have hne : ¬ a = b := fun e => hd (by rw [e])
       have hdn : ¬ (((a.getD k 0).toNat : Int) = ((b.getD k 0).toNat : Int)) := fun e => hd (UInt8.toNat_inj.1 (by omega))
       (try simp only [bK1, bK2, bK3, bK4, bK5, bK6, bK7, bK8]); simp (maxSteps := 10000000) (disch := omega) only [stEqB, bytesE_length, hlen, h1, h2, load_c0, hdn, hne, go_sem, ↓reduceIte, Nat.reduceEqDiff, Nat.reduceSub, Nat.reduceLeDiff, Nat.reduceAdd, Int.reduceEq, Int.reduceLT, Int.reduceLE]
   · obtain rfl : k = a.length := by omega
     have he := take_eq_of hlen hk2
     subst he
     (try simp only [bK1, bK2, bK3, bK4, bK5, bK6, bK7, bK8]); simp (maxSteps := 10000000) (disch := omega) only [stEqB, bytesE_length, go_sem, ↓reduceIte, Nat.reduceEqDiff, Nat.reduceSub, Nat.reduceLeDiff, Nat.reduceAdd, Int.reduceEq, Int.reduceLT, Int.reduceLE]
 · have hle : ¬ (a.length : Int) = (b.length : Int) := by omega
   have hne : ¬ a = b := fun e => hlen (by rw [e])
   (try simp only [bK1, bK2, bK3, bK4, bK5, bK6, bK7, bK8]); simp (maxSteps := 10000000) (disch := omega) only [ir51, bytesE_length, hle, hne, go_sem, ↓reduceIte, Nat.reduceEqDiff, Nat.reduceSub, Nat.reduceLeDiff, Nat.reduceAdd, Int.reduceEq, Int.reduceLT, Int.reduceLE]
theorem ids_eq_of {a b : List Idn} (hl : a.length = b.length) (h : ∀ j, j < a.length → a.getD j (0, 0) = b.getD j (0, 0)) : a = b := by
 apply List.ext_getElem hl
 intro j h1 h2
 have := h j h1
 rwa [List.getD_eq_getElem?_getD, List.getD_eq_getElem?_getD, List.getElem?_eq_getElem h1, List.getElem?_eq_getElem h2] at this
theorem idE_at {a : List Idn} {k : Nat} (h : k < a.length) : (a.map idE)[k]? = some (idE (a.getD k (0, 0))) := by
 simp [List.getD_eq_getElem?_getD, List.getElem?_eq_getElem h]
def stSmI (f g : Bool) (y z : Nat) (a b : List Idn) (k : Nat) : FS := mk [(5, .pv (.i .i64 k)), (0, .pv (.sl f y (a.map idE))), (1, .pv (.sl g z (b.map idE)))] []
set_option maxHeartbeats 1000000 in
theorem okSmI {f g : Bool} {y z : Nat} {a b : List Idn} {h d} (hy : a = [] ∨ y = 2) (hz : b = [] ∨ z = 2) (hn : a.length ≤ 1000) (hn' : b.length ≤ 1000) :
 FunOk Try.prog 62 [.pv (.sl f y (a.map idE)), .pv (.sl g z (b.map idE))] h d (.pv (.b (decide (a = b)))) [] := by
 refine fun_scalar mixed fn62 (by simp) rfl rfl fun F => ?_
 (try simp only [bK1, bK2, bK3, bK4, bK5, bK6, bK7, bK8]); simp (maxSteps := 10000000) (disch := omega) only [go_sem, ↓reduceIte, Nat.reduceEqDiff, Nat.reduceSub, Nat.reduceLeDiff, Nat.reduceAdd, Int.reduceEq, Int.reduceLT, Int.reduceLE]
 by_cases hlen : a.length = b.length
 · have hle : (a.length : Int) = (b.length : Int) := by omega
   (try simp only [bK1, bK2, bK3, bK4, bK5, bK6, bK7, bK8]); simp (maxSteps := 10000000) (disch := omega) only [ir62, List.length_map, hle, go_sem, ↓reduceIte, Nat.reduceEqDiff, Nat.reduceSub, Nat.reduceLeDiff, Nat.reduceAdd, Int.reduceEq, Int.reduceLT, Int.reduceLE]
   refine loop_ok mixed (stSmI f g y z a b) (fun k => k ≤ a.length ∧ ∀ j, j < k → a.getD j (0, 0) = b.getD j (0, 0)) (fun k => a.length - k) 0 (by simp) (weak_mk ?_ ?_) fun k hk => ?_
   · (try simp only [bK1, bK2, bK3, bK4, bK5, bK6, bK7, bK8]); simp (maxSteps := 10000000) (disch := omega) only [List.length_map, hle, go_sem, ↓reduceIte, Nat.reduceEqDiff, Nat.reduceSub, Nat.reduceLeDiff, Nat.reduceAdd, Int.reduceEq, Int.reduceLT, Int.reduceLE]
   · (try simp only [bK1, bK2, bK3, bK4, bK5, bK6, bK7, bK8]); simp (maxSteps := 10000000) (disch := omega) only [go_sem, ↓reduceIte, Nat.reduceEqDiff, Nat.reduceSub, Nat.reduceLeDiff, Nat.reduceAdd, Int.reduceEq, Int.reduceLT, Int.reduceLE]
   obtain ⟨hk1, hk2⟩ := hk
   by_cases hlt : k < a.length
   · have hy1 : y = 2 := hy.resolve_left fun e => by subst e; simp at hlt
     have hz1 : z = 2 := hz.resolve_left fun e => by subst e; rw [List.length_nil] at hlen; omega
     subst hy1; subst hz1
     have h1 := idE_at hlt
     have h2 := idE_at (a := b) (k := k) (by omega)
     have hb : k < b.length := by omega
     by_cases hd : a.getD k (0, 0) = b.getD k (0, 0)
     · rw [← hd] at h2
       have hd0 := hd
       generalize a.getD k (0, 0) = u at h1 h2
       have hp := peqId_t (r := u.1) (r' := u.1) (q := u.2) (q' := u.2) ⟨rfl, rfl⟩
       (try simp only [bK1, bK2, bK3, bK4, bK5, bK6, bK7, bK8]); simp (maxSteps := 10000000) (disch := omega) only [stSmI, List.length_map, hlen, h1, h2, ld_idW, fits_id, hp, go_sem, ↓reduceIte, Nat.reduceEqDiff, Nat.reduceSub, Nat.reduceLeDiff, Nat.reduceAdd, Int.reduceEq, Int.reduceLT, Int.reduceLE]
       refine loop_next (k + 1) _ _ rfl ⟨by omega, fun j hj => ?_⟩ (by omega) ?_ ?_
       · by_cases e : j = k
         · subst e; exact hd
         · exact hk2 j (by omega)
       · (try simp only [bK1, bK2, bK3, bK4, bK5, bK6, bK7, bK8]); simp (maxSteps := 10000000) (disch := omega) only [go_sem, ↓reduceIte, Nat.reduceEqDiff, Nat.reduceSub, Nat.reduceLeDiff, Nat.reduceAdd, Int.reduceEq, Int.reduceLT, Int.reduceLE]
       · (try simp only [bK1, bK2, bK3, bK4, bK5, bK6, bK7, bK8]); simp (maxSteps := 10000000) (disch := omega) only [go_sem, ↓reduceIte, Nat.reduceEqDiff, Nat.reduceSub, Nat.reduceLeDiff, Nat.reduceAdd, Int.reduceEq, Int.reduceLT, Int.reduceLE]
     · have hne : ¬ a = b := fun e => hd (by rw [e])
       generalize a.getD k (0, 0) = u at *
       generalize b.getD k (0, 0) = v at *
       have hp := peqId_f (r := u.1) (r' := v.1) (q := u.2) (q' := v.2) fun e => hd (Prod.ext e.1 e.2)
       (try simp only [bK1, bK2, bK3, bK4, bK5, bK6, bK7, bK8]); simp (maxSteps := 10000000) (disch := omega) only [stSmI, List.length_map, hlen, h1, h2, ld_idW, fits_id, hp, hne, go_sem, ↓reduceIte, Nat.reduceEqDiff, Nat.reduceSub, Nat.reduceLeDiff, Nat.reduceAdd, Int.reduceEq, Int.reduceLT, Int.reduceLE]
   · obtain rfl : k = a.length := by omega
     have he := ids_eq_of hlen hk2
     subst he
     (try simp only [bK1, bK2, bK3, bK4, bK5, bK6, bK7, bK8]); simp (maxSteps := 10000000) (disch := omega) only [stSmI, List.length_map, go_sem, ↓reduceIte, Nat.reduceEqDiff, Nat.reduceSub, Nat.reduceLeDiff, Nat.reduceAdd, Int.reduceEq, Int.reduceLT, Int.reduceLE]
 · have hle : ¬ (a.length : Int) = (b.length : Int) := by omega
   have hne : ¬ a = b := fun e => hlen (by rw [e])
   (try simp only [bK1, bK2, bK3, bK4, bK5, bK6, bK7, bK8]); simp (maxSteps := 10000000) (disch := omega) only [ir62, List.length_map, hle, hne, go_sem, ↓reduceIte, Nat.reduceEqDiff, Nat.reduceSub, Nat.reduceLeDiff, Nat.reduceAdd, Int.reduceEq, Int.reduceLT, Int.reduceLE]
end Go.Proofs.Ytfkmlmckihmihaa.Fw
namespace Go.Proofs.Ytfkmlmckihmihaa.Fw
open Go.RowKit Go.Proofs
def sameB (a b : Evt) : Bool := decide (a.rep = b.rep ∧ a.seq = b.seq) && (decide (vEq a.dep b.dep) && (decide (a.kind = b.kind) && (decide (a.orep = b.orep ∧ a.oseq = b.oseq) && (decide (a.drep = b.drep ∧ a.dseq = b.dseq) && (decide (a.name = b.name) && (decide (a.gone.l = b.gone.l) && (decide (a.base.l = b.base.l) && (decide (a.off = b.off) && (decide (a.data = b.data) && decide (a.ward = b.ward))))))))))
set_option maxHeartbeats 4000000 in
theorem okSameR8 (a b : Evt) (ha : a.gone.ok ∧ a.base.ok ∧ a.gone.l.length ≤ 1000 ∧ a.base.l.length ≤ 1000) (hb : b.gone.ok ∧ b.base.ok ∧ b.gone.l.length ≤ 1000 ∧ b.base.l.length ≤ 1000) {h d} : FunOk Try.prog 47 [.vec 21 (evE a), .vec 21 (evE b)] h d (.pv (.b (sameB a b))) [] := by
 refine fun_pure mixed fn47 (by simp) rfl rfl fun F => ?_
 obtain ⟨a1, a2, a3, a4⟩ := ha
 obtain ⟨b1, b2, b3, b4⟩ := hb
 by_cases c0 : a.rep = b.rep ∧ a.seq = b.seq
 rotate_left
 · have c0f := eq_false c0
   have c0p : peq [PV.i .i64 a.rep, PV.i .u32 a.seq] [PV.i .i64 b.rep, PV.i .u32 b.seq] = false := peqId_f c0
   have eb : sameB a b = false := by simp only [sameB, c0f, decide_true, decide_false, Bool.true_and, Bool.false_and, Bool.and_true, Bool.and_false, Bool.and_self]
   (try simp only [bK1, bK2, bK3, bK4, bK5, bK6, bK7, bK8]); simp (maxSteps := 10000000) (disch := omega) only [ir47, ld_evId, fits_id, fits_vE, peq_vE, c0p, eb, go_sem, ↓reduceIte, Nat.reduceEqDiff, Nat.reduceSub, Nat.reduceLeDiff, Nat.reduceAdd, Int.reduceEq, Int.reduceLT, Int.reduceLE]
 have c0t := eq_true c0
 have c0p : peq [PV.i .i64 a.rep, PV.i .u32 a.seq] [PV.i .i64 b.rep, PV.i .u32 b.seq] = true := peqId_t c0
 by_cases c1 : vEq a.dep b.dep
 rotate_left
 · have c1f := eq_false c1
   have eb : sameB a b = false := by simp only [sameB, c0t, c1f, decide_true, decide_false, Bool.true_and, Bool.false_and, Bool.and_true, Bool.and_false, Bool.and_self]
   (try simp only [bK1, bK2, bK3, bK4, bK5, bK6, bK7, bK8]); simp (maxSteps := 10000000) (disch := omega) only [ir47, ld_evId, fits_id, fits_vE, peq_vE, c0p, c1f, eb, go_sem, ↓reduceIte, Nat.reduceEqDiff, Nat.reduceSub, Nat.reduceLeDiff, Nat.reduceAdd, Int.reduceEq, Int.reduceLT, Int.reduceLE]
 have c1t := eq_true c1
 by_cases c2 : a.kind = b.kind
 rotate_left
 · have c2f := eq_false c2
   have eb : sameB a b = false := by simp only [sameB, c0t, c1t, c2f, decide_true, decide_false, Bool.true_and, Bool.false_and, Bool.and_true, Bool.and_false, Bool.and_self]
   (try simp only [bK1, bK2, bK3, bK4, bK5, bK6, bK7, bK8]); simp (maxSteps := 10000000) (disch := omega) only [ir47, ld_evId, fits_id, fits_vE, peq_vE, c0p, c1t, c2f, eb, go_sem, ↓reduceIte, Nat.reduceEqDiff, Nat.reduceSub, Nat.reduceLeDiff, Nat.reduceAdd, Int.reduceEq, Int.reduceLT, Int.reduceLE]
 have c2t := eq_true c2
 by_cases c3 : a.orep = b.orep ∧ a.oseq = b.oseq
 rotate_left
 · have c3f := eq_false c3
   have c3p : peq [PV.i .i64 a.orep, PV.i .u32 a.oseq] [PV.i .i64 b.orep, PV.i .u32 b.oseq] = false := peqId_f c3
   have eb : sameB a b = false := by simp only [sameB, c0t, c1t, c2t, c3f, decide_true, decide_false, Bool.true_and, Bool.false_and, Bool.and_true, Bool.and_false, Bool.and_self]
   (try simp only [bK1, bK2, bK3, bK4, bK5, bK6, bK7, bK8]); simp (maxSteps := 10000000) (disch := omega) only [ir47, ld_evId, fits_id, fits_vE, peq_vE, c0p, c1t, c2t, c3p, eb, go_sem, ↓reduceIte, Nat.reduceEqDiff, Nat.reduceSub, Nat.reduceLeDiff, Nat.reduceAdd, Int.reduceEq, Int.reduceLT, Int.reduceLE]
 have c3t := eq_true c3
 have c3p : peq [PV.i .i64 a.orep, PV.i .u32 a.oseq] [PV.i .i64 b.orep, PV.i .u32 b.oseq] = true := peqId_t c3
 by_cases c4 : a.drep = b.drep ∧ a.dseq = b.dseq
 rotate_left
 · have c4f := eq_false c4
   have c4p : peq [PV.i .i64 a.drep, PV.i .u32 a.dseq] [PV.i .i64 b.drep, PV.i .u32 b.dseq] = false := peqId_f c4
   have eb : sameB a b = false := by simp only [sameB, c0t, c1t, c2t, c3t, c4f, decide_true, decide_false, Bool.true_and, Bool.false_and, Bool.and_true, Bool.and_false, Bool.and_self]
   (try simp only [bK1, bK2, bK3, bK4, bK5, bK6, bK7, bK8]); simp (maxSteps := 10000000) (disch := omega) only [ir47, ld_evId, fits_id, fits_vE, peq_vE, c0p, c1t, c2t, c3p, c4p, eb, go_sem, ↓reduceIte, Nat.reduceEqDiff, Nat.reduceSub, Nat.reduceLeDiff, Nat.reduceAdd, Int.reduceEq, Int.reduceLT, Int.reduceLE]
 have c4t := eq_true c4
 have c4p : peq [PV.i .i64 a.drep, PV.i .u32 a.dseq] [PV.i .i64 b.drep, PV.i .u32 b.dseq] = true := peqId_t c4
 by_cases c5 : a.name = b.name
 rotate_left
 · have c5f := eq_false c5
   have eb : sameB a b = false := by simp only [sameB, c0t, c1t, c2t, c3t, c4t, c5f, decide_true, decide_false, Bool.true_and, Bool.false_and, Bool.and_true, Bool.and_false, Bool.and_self]
   (try simp only [bK1, bK2, bK3, bK4, bK5, bK6, bK7, bK8]); simp (maxSteps := 10000000) (disch := omega) only [ir47, ld_evId, fits_id, fits_vE, peq_vE, c0p, c1t, c2t, c3p, c4p, c5f, eb, go_sem, ↓reduceIte, Nat.reduceEqDiff, Nat.reduceSub, Nat.reduceLeDiff, Nat.reduceAdd, Int.reduceEq, Int.reduceLT, Int.reduceLE]
 have c5t := eq_true c5
 by_cases c6 : a.gone.l = b.gone.l
 rotate_left
 · have c6f := eq_false c6
   have eb : sameB a b = false := by simp only [sameB, c0t, c1t, c2t, c3t, c4t, c5t, c6f, decide_true, decide_false, Bool.true_and, Bool.false_and, Bool.and_true, Bool.and_false, Bool.and_self]
   (try simp only [bK1, bK2, bK3, bK4, bK5, bK6, bK7, bK8]); simp (maxSteps := 10000000) (disch := omega) only [ir47, ld_evId, fits_id, fits_vE, peq_vE, c0p, c1t, c2t, c3p, c4p, c5t, c6f, go_sem, ↓reduceIte, Nat.reduceEqDiff, Nat.reduceSub, Nat.reduceLeDiff, Nat.reduceAdd, Int.reduceEq, Int.reduceLT, Int.reduceLE]
   refine call_with (okSmI (a := a.gone.l) (b := b.gone.l) a1 b1 a3 b3) ?_
   (try simp only [bK1, bK2, bK3, bK4, bK5, bK6, bK7, bK8]); simp (maxSteps := 10000000) (disch := omega) only [ld_evId, fits_id, fits_vE, peq_vE, c0p, c1t, c2t, c3p, c4p, c5t, c6f, eb, go_sem, ↓reduceIte, Nat.reduceEqDiff, Nat.reduceSub, Nat.reduceLeDiff, Nat.reduceAdd, Int.reduceEq, Int.reduceLT, Int.reduceLE]
 have c6t := eq_true c6
 by_cases c7 : a.base.l = b.base.l
 rotate_left
 · have c7f := eq_false c7
   have eb : sameB a b = false := by simp only [sameB, c0t, c1t, c2t, c3t, c4t, c5t, c6t, c7f, decide_true, decide_false, Bool.true_and, Bool.false_and, Bool.and_true, Bool.and_false, Bool.and_self]
   (try simp only [bK1, bK2, bK3, bK4, bK5, bK6, bK7, bK8]); simp (maxSteps := 10000000) (disch := omega) only [ir47, ld_evId, fits_id, fits_vE, peq_vE, c0p, c1t, c2t, c3p, c4p, c5t, c6t, c7f, go_sem, ↓reduceIte, Nat.reduceEqDiff, Nat.reduceSub, Nat.reduceLeDiff, Nat.reduceAdd, Int.reduceEq, Int.reduceLT, Int.reduceLE]
   refine call_with (okSmI (a := a.gone.l) (b := b.gone.l) a1 b1 a3 b3) ?_
   (try simp only [bK1, bK2, bK3, bK4, bK5, bK6, bK7, bK8]); simp (maxSteps := 10000000) (disch := omega) only [ld_evId, fits_id, fits_vE, peq_vE, c0p, c1t, c2t, c3p, c4p, c5t, c6t, c7f, go_sem, ↓reduceIte, Nat.reduceEqDiff, Nat.reduceSub, Nat.reduceLeDiff, Nat.reduceAdd, Int.reduceEq, Int.reduceLT, Int.reduceLE]
   refine call_with (okSmI (a := a.base.l) (b := b.base.l) a2 b2 a4 b4) ?_
   (try simp only [bK1, bK2, bK3, bK4, bK5, bK6, bK7, bK8]); simp (maxSteps := 10000000) (disch := omega) only [ld_evId, fits_id, fits_vE, peq_vE, c0p, c1t, c2t, c3p, c4p, c5t, c6t, c7f, eb, go_sem, ↓reduceIte, Nat.reduceEqDiff, Nat.reduceSub, Nat.reduceLeDiff, Nat.reduceAdd, Int.reduceEq, Int.reduceLT, Int.reduceLE]
 have c7t := eq_true c7
 by_cases c8 : a.off = b.off
 rotate_left
 · have c8f := eq_false c8
   have eb : sameB a b = false := by simp only [sameB, c0t, c1t, c2t, c3t, c4t, c5t, c6t, c7t, c8f, decide_true, decide_false, Bool.true_and, Bool.false_and, Bool.and_true, Bool.and_false, Bool.and_self]
   (try simp only [bK1, bK2, bK3, bK4, bK5, bK6, bK7, bK8]); simp (maxSteps := 10000000) (disch := omega) only [ir47, ld_evId, fits_id, fits_vE, peq_vE, c0p, c1t, c2t, c3p, c4p, c5t, c6t, c7t, c8f, go_sem, ↓reduceIte, Nat.reduceEqDiff, Nat.reduceSub, Nat.reduceLeDiff, Nat.reduceAdd, Int.reduceEq, Int.reduceLT, Int.reduceLE]
   refine call_with (okSmI (a := a.gone.l) (b := b.gone.l) a1 b1 a3 b3) ?_
   (try simp only [bK1, bK2, bK3, bK4, bK5, bK6, bK7, bK8]); simp (maxSteps := 10000000) (disch := omega) only [ld_evId, fits_id, fits_vE, peq_vE, c0p, c1t, c2t, c3p, c4p, c5t, c6t, c7t, c8f, go_sem, ↓reduceIte, Nat.reduceEqDiff, Nat.reduceSub, Nat.reduceLeDiff, Nat.reduceAdd, Int.reduceEq, Int.reduceLT, Int.reduceLE]
   refine call_with (okSmI (a := a.base.l) (b := b.base.l) a2 b2 a4 b4) ?_
   (try simp only [bK1, bK2, bK3, bK4, bK5, bK6, bK7, bK8]); simp (maxSteps := 10000000) (disch := omega) only [ld_evId, fits_id, fits_vE, peq_vE, c0p, c1t, c2t, c3p, c4p, c5t, c6t, c7t, c8f, eb, go_sem, ↓reduceIte, Nat.reduceEqDiff, Nat.reduceSub, Nat.reduceLeDiff, Nat.reduceAdd, Int.reduceEq, Int.reduceLT, Int.reduceLE]
 have c8t := eq_true c8
 by_cases c9 : a.data = b.data
 rotate_left
 · have c9f := eq_false c9
   have eb : sameB a b = false := by simp only [sameB, c0t, c1t, c2t, c3t, c4t, c5t, c6t, c7t, c8t, c9f, decide_true, decide_false, Bool.true_and, Bool.false_and, Bool.and_true, Bool.and_false, Bool.and_self]
   (try simp only [bK1, bK2, bK3, bK4, bK5, bK6, bK7, bK8]); simp (maxSteps := 10000000) (disch := omega) only [ir47, ld_evId, fits_id, fits_vE, peq_vE, c0p, c1t, c2t, c3p, c4p, c5t, c6t, c7t, c8t, c9f, go_sem, ↓reduceIte, Nat.reduceEqDiff, Nat.reduceSub, Nat.reduceLeDiff, Nat.reduceAdd, Int.reduceEq, Int.reduceLT, Int.reduceLE]
   refine call_with (okSmI (a := a.gone.l) (b := b.gone.l) a1 b1 a3 b3) ?_
   (try simp only [bK1, bK2, bK3, bK4, bK5, bK6, bK7, bK8]); simp (maxSteps := 10000000) (disch := omega) only [ld_evId, fits_id, fits_vE, peq_vE, c0p, c1t, c2t, c3p, c4p, c5t, c6t, c7t, c8t, c9f, go_sem, ↓reduceIte, Nat.reduceEqDiff, Nat.reduceSub, Nat.reduceLeDiff, Nat.reduceAdd, Int.reduceEq, Int.reduceLT, Int.reduceLE]
   refine call_with (okSmI (a := a.base.l) (b := b.base.l) a2 b2 a4 b4) ?_
   (try simp only [bK1, bK2, bK3, bK4, bK5, bK6, bK7, bK8]); simp (maxSteps := 10000000) (disch := omega) only [ld_evId, fits_id, fits_vE, peq_vE, c0p, c1t, c2t, c3p, c4p, c5t, c6t, c7t, c8t, c9f, eb, go_sem, ↓reduceIte, Nat.reduceEqDiff, Nat.reduceSub, Nat.reduceLeDiff, Nat.reduceAdd, Int.reduceEq, Int.reduceLT, Int.reduceLE]
 have c9t := eq_true c9
 by_cases c10 : a.ward = b.ward
 rotate_left
 · have c10f := eq_false c10
   have eb : sameB a b = false := by simp only [sameB, c0t, c1t, c2t, c3t, c4t, c5t, c6t, c7t, c8t, c9t, c10f, decide_true, decide_false, Bool.true_and, Bool.false_and, Bool.and_true, Bool.and_false, Bool.and_self]
   (try simp only [bK1, bK2, bK3, bK4, bK5, bK6, bK7, bK8]); simp (maxSteps := 10000000) (disch := omega) only [ir47, ld_evId, fits_id, fits_vE, peq_vE, c0p, c1t, c2t, c3p, c4p, c5t, c6t, c7t, c8t, c9t, c10f, go_sem, ↓reduceIte, Nat.reduceEqDiff, Nat.reduceSub, Nat.reduceLeDiff, Nat.reduceAdd, Int.reduceEq, Int.reduceLT, Int.reduceLE]
   refine call_with (okSmI (a := a.gone.l) (b := b.gone.l) a1 b1 a3 b3) ?_
   (try simp only [bK1, bK2, bK3, bK4, bK5, bK6, bK7, bK8]); simp (maxSteps := 10000000) (disch := omega) only [ld_evId, fits_id, fits_vE, peq_vE, c0p, c1t, c2t, c3p, c4p, c5t, c6t, c7t, c8t, c9t, c10f, go_sem, ↓reduceIte, Nat.reduceEqDiff, Nat.reduceSub, Nat.reduceLeDiff, Nat.reduceAdd, Int.reduceEq, Int.reduceLT, Int.reduceLE]
   refine call_with (okSmI (a := a.base.l) (b := b.base.l) a2 b2 a4 b4) ?_
   (try simp only [bK1, bK2, bK3, bK4, bK5, bK6, bK7, bK8]); simp (maxSteps := 10000000) (disch := omega) only [ld_evId, fits_id, fits_vE, peq_vE, c0p, c1t, c2t, c3p, c4p, c5t, c6t, c7t, c8t, c9t, c10f, eb, go_sem, ↓reduceIte, Nat.reduceEqDiff, Nat.reduceSub, Nat.reduceLeDiff, Nat.reduceAdd, Int.reduceEq, Int.reduceLT, Int.reduceLE]
 have c10t := eq_true c10
 have eb : sameB a b = true := by simp only [sameB, c0t, c1t, c2t, c3t, c4t, c5t, c6t, c7t, c8t, c9t, c10t, decide_true, decide_false, Bool.true_and, Bool.false_and, Bool.and_true, Bool.and_false, Bool.and_self]
 (try simp only [bK1, bK2, bK3, bK4, bK5, bK6, bK7, bK8]); simp (maxSteps := 10000000) (disch := omega) only [ir47, ld_evId, fits_id, fits_vE, peq_vE, c0p, c1t, c2t, c3p, c4p, c5t, c6t, c7t, c8t, c9t, c10t, go_sem, ↓reduceIte, Nat.reduceEqDiff, Nat.reduceSub, Nat.reduceLeDiff, Nat.reduceAdd, Int.reduceEq, Int.reduceLT, Int.reduceLE]
 refine call_with (okSmI (a := a.gone.l) (b := b.gone.l) a1 b1 a3 b3) ?_
 (try simp only [bK1, bK2, bK3, bK4, bK5, bK6, bK7, bK8]); simp (maxSteps := 10000000) (disch := omega) only [ld_evId, fits_id, fits_vE, peq_vE, c0p, c1t, c2t, c3p, c4p, c5t, c6t, c7t, c8t, c9t, c10t, go_sem, ↓reduceIte, Nat.reduceEqDiff, Nat.reduceSub, Nat.reduceLeDiff, Nat.reduceAdd, Int.reduceEq, Int.reduceLT, Int.reduceLE]
 refine call_with (okSmI (a := a.base.l) (b := b.base.l) a2 b2 a4 b4) ?_
 (try simp only [bK1, bK2, bK3, bK4, bK5, bK6, bK7, bK8]); simp (maxSteps := 10000000) (disch := omega) only [ld_evId, fits_id, fits_vE, peq_vE, c0p, c1t, c2t, c3p, c4p, c5t, c6t, c7t, c8t, c9t, c10t, eb, go_sem, ↓reduceIte, Nat.reduceEqDiff, Nat.reduceSub, Nat.reduceLeDiff, Nat.reduceAdd, Int.reduceEq, Int.reduceLT, Int.reduceLE]
end Go.Proofs.Ytfkmlmckihmihaa.Fw
namespace Go.Proofs.Ytfkmlmckihmihaa.Fw
open Go.RowKit Go.Proofs
def madeB (e : Evt) (o d g b f t w : Bool) : Bool := (o || zeroB e.orep e.oseq) && ((d || (zeroB e.drep e.dseq && decide (e.name = []))) && ((g || decide ((e.gone.l.length : Int) = 0)) && ((b || decide ((e.base.l.length : Int) = 0)) && ((f || decide (e.off = 0)) && ((t || decide (e.data = [])) && (w || decide (e.ward = 0)))))))
set_option maxHeartbeats 4000000 in
theorem okMadeD (e : Evt) {h d} : FunOk Try.prog 80 [.vec 21 (evE e), .pv (.b false), .pv (.b true), .pv (.b false), .pv (.b false), .pv (.b false), .pv (.b false), .pv (.b false)] h d (.pv (.b (madeB e false true false false false false false))) [] := by
 refine fun_pure mixed fn80 (by simp) rfl rfl fun F => ?_
 have hl := evE_len e
 by_cases hz1' : zeroB e.orep e.oseq = false
 · have hz1 := hz1'
   have eb : madeB e false true false false false false false = false := by simp only [madeB, hz1, decide_true, decide_false, Bool.or_false, Bool.false_or, Bool.true_or, Bool.and_true, Bool.true_and, Bool.and_false, Bool.false_and, Bool.and_self, Bool.or_self]
   (try simp only [bK1, bK2, bK3, bK4, bK5, bK6, bK7, bK8]); simp (maxSteps := 10000000) (disch := omega) only [ir80, evE_len, hz1, eb, go_sem, ↓reduceIte, Nat.reduceEqDiff, Nat.reduceSub, Nat.reduceLeDiff, Nat.reduceAdd, Int.reduceEq, Int.reduceLT, Int.reduceLE]
   refine call_with (okZeroR _ _) ?_
   (try simp only [bK1, bK2, bK3, bK4, bK5, bK6, bK7, bK8]); simp (maxSteps := 10000000) (disch := omega) only [evE_len, hz1, eb, go_sem, ↓reduceIte, Nat.reduceEqDiff, Nat.reduceSub, Nat.reduceLeDiff, Nat.reduceAdd, Int.reduceEq, Int.reduceLT, Int.reduceLE]
 have hz1 : zeroB e.orep e.oseq = true := by simpa using hz1'
 by_cases hgo : (e.gone.l.length : Int) = 0
 rotate_left
 · have eb : madeB e false true false false false false false = false := by simp only [madeB, hz1, hgo, decide_true, decide_false, Bool.or_false, Bool.false_or, Bool.true_or, Bool.and_true, Bool.true_and, Bool.and_false, Bool.false_and, Bool.and_self, Bool.or_self]
   (try simp only [bK1, bK2, bK3, bK4, bK5, bK6, bK7, bK8]); simp (maxSteps := 10000000) (disch := omega) only [ir80, evE_len, hz1, hgo, eb, go_sem, ↓reduceIte, Nat.reduceEqDiff, Nat.reduceSub, Nat.reduceLeDiff, Nat.reduceAdd, Int.reduceEq, Int.reduceLT, Int.reduceLE]
   refine call_with (okZeroR _ _) ?_
   (try simp only [bK1, bK2, bK3, bK4, bK5, bK6, bK7, bK8]); simp (maxSteps := 10000000) (disch := omega) only [evE_len, hz1, hgo, eb, go_sem, ↓reduceIte, Nat.reduceEqDiff, Nat.reduceSub, Nat.reduceLeDiff, Nat.reduceAdd, Int.reduceEq, Int.reduceLT, Int.reduceLE]
 by_cases hba : (e.base.l.length : Int) = 0
 rotate_left
 · have eb : madeB e false true false false false false false = false := by simp only [madeB, hz1, hgo, hba, decide_true, decide_false, Bool.or_false, Bool.false_or, Bool.true_or, Bool.and_true, Bool.true_and, Bool.and_false, Bool.false_and, Bool.and_self, Bool.or_self]
   (try simp only [bK1, bK2, bK3, bK4, bK5, bK6, bK7, bK8]); simp (maxSteps := 10000000) (disch := omega) only [ir80, evE_len, hz1, hgo, hba, eb, go_sem, ↓reduceIte, Nat.reduceEqDiff, Nat.reduceSub, Nat.reduceLeDiff, Nat.reduceAdd, Int.reduceEq, Int.reduceLT, Int.reduceLE]
   refine call_with (okZeroR _ _) ?_
   (try simp only [bK1, bK2, bK3, bK4, bK5, bK6, bK7, bK8]); simp (maxSteps := 10000000) (disch := omega) only [evE_len, hz1, hgo, hba, eb, go_sem, ↓reduceIte, Nat.reduceEqDiff, Nat.reduceSub, Nat.reduceLeDiff, Nat.reduceAdd, Int.reduceEq, Int.reduceLT, Int.reduceLE]
 by_cases hof : e.off = 0
 rotate_left
 · have eb : madeB e false true false false false false false = false := by simp only [madeB, hz1, hgo, hba, hof, decide_true, decide_false, Bool.or_false, Bool.false_or, Bool.true_or, Bool.and_true, Bool.true_and, Bool.and_false, Bool.false_and, Bool.and_self, Bool.or_self]
   (try simp only [bK1, bK2, bK3, bK4, bK5, bK6, bK7, bK8]); simp (maxSteps := 10000000) (disch := omega) only [ir80, evE_len, hz1, hgo, hba, hof, eb, go_sem, ↓reduceIte, Nat.reduceEqDiff, Nat.reduceSub, Nat.reduceLeDiff, Nat.reduceAdd, Int.reduceEq, Int.reduceLT, Int.reduceLE]
   refine call_with (okZeroR _ _) ?_
   (try simp only [bK1, bK2, bK3, bK4, bK5, bK6, bK7, bK8]); simp (maxSteps := 10000000) (disch := omega) only [evE_len, hz1, hgo, hba, hof, eb, go_sem, ↓reduceIte, Nat.reduceEqDiff, Nat.reduceSub, Nat.reduceLeDiff, Nat.reduceAdd, Int.reduceEq, Int.reduceLT, Int.reduceLE]
 by_cases hda : e.data = []
 rotate_left
 · have eb : madeB e false true false false false false false = false := by simp only [madeB, hz1, hgo, hba, hof, hda, decide_true, decide_false, Bool.or_false, Bool.false_or, Bool.true_or, Bool.and_true, Bool.true_and, Bool.and_false, Bool.false_and, Bool.and_self, Bool.or_self]
   (try simp only [bK1, bK2, bK3, bK4, bK5, bK6, bK7, bK8]); simp (maxSteps := 10000000) (disch := omega) only [ir80, evE_len, hz1, hgo, hba, hof, hda, eb, go_sem, ↓reduceIte, Nat.reduceEqDiff, Nat.reduceSub, Nat.reduceLeDiff, Nat.reduceAdd, Int.reduceEq, Int.reduceLT, Int.reduceLE]
   refine call_with (okZeroR _ _) ?_
   (try simp only [bK1, bK2, bK3, bK4, bK5, bK6, bK7, bK8]); simp (maxSteps := 10000000) (disch := omega) only [evE_len, hz1, hgo, hba, hof, hda, eb, go_sem, ↓reduceIte, Nat.reduceEqDiff, Nat.reduceSub, Nat.reduceLeDiff, Nat.reduceAdd, Int.reduceEq, Int.reduceLT, Int.reduceLE]
 by_cases hwa : e.ward = 0
 rotate_left
 · have eb : madeB e false true false false false false false = false := by simp only [madeB, hz1, hgo, hba, hof, hda, hwa, decide_true, decide_false, Bool.or_false, Bool.false_or, Bool.true_or, Bool.and_true, Bool.true_and, Bool.and_false, Bool.false_and, Bool.and_self, Bool.or_self]
   (try simp only [bK1, bK2, bK3, bK4, bK5, bK6, bK7, bK8]); simp (maxSteps := 10000000) (disch := omega) only [ir80, evE_len, hz1, hgo, hba, hof, hda, hwa, eb, go_sem, ↓reduceIte, Nat.reduceEqDiff, Nat.reduceSub, Nat.reduceLeDiff, Nat.reduceAdd, Int.reduceEq, Int.reduceLT, Int.reduceLE]
   refine call_with (okZeroR _ _) ?_
   (try simp only [bK1, bK2, bK3, bK4, bK5, bK6, bK7, bK8]); simp (maxSteps := 10000000) (disch := omega) only [evE_len, hz1, hgo, hba, hof, hda, hwa, eb, go_sem, ↓reduceIte, Nat.reduceEqDiff, Nat.reduceSub, Nat.reduceLeDiff, Nat.reduceAdd, Int.reduceEq, Int.reduceLT, Int.reduceLE]
 have eb : madeB e false true false false false false false = true := by simp only [madeB, hz1, hgo, hba, hof, hda, hwa, decide_true, decide_false, Bool.or_false, Bool.false_or, Bool.true_or, Bool.and_true, Bool.true_and, Bool.and_false, Bool.false_and, Bool.and_self, Bool.or_self]
 (try simp only [bK1, bK2, bK3, bK4, bK5, bK6, bK7, bK8]); simp (maxSteps := 10000000) (disch := omega) only [ir80, evE_len, hz1, hgo, hba, hof, hda, hwa, eb, go_sem, ↓reduceIte, Nat.reduceEqDiff, Nat.reduceSub, Nat.reduceLeDiff, Nat.reduceAdd, Int.reduceEq, Int.reduceLT, Int.reduceLE]
 refine call_with (okZeroR _ _) ?_
 (try simp only [bK1, bK2, bK3, bK4, bK5, bK6, bK7, bK8]); simp (maxSteps := 10000000) (disch := omega) only [evE_len, hz1, hgo, hba, hof, hda, hwa, eb, go_sem, ↓reduceIte, Nat.reduceEqDiff, Nat.reduceSub, Nat.reduceLeDiff, Nat.reduceAdd, Int.reduceEq, Int.reduceLT, Int.reduceLE]
set_option maxHeartbeats 4000000 in
theorem okMadeOBFD (e : Evt) {h d} : FunOk Try.prog 80 [.vec 21 (evE e), .pv (.b true), .pv (.b false), .pv (.b false), .pv (.b true), .pv (.b true), .pv (.b true), .pv (.b false)] h d (.pv (.b (madeB e true false false true true true false))) [] := by
 refine fun_pure mixed fn80 (by simp) rfl rfl fun F => ?_
 have hl := evE_len e
 by_cases hz2' : zeroB e.drep e.dseq = false
 · have hz2 := hz2'
   have eb : madeB e true false false true true true false = false := by simp only [madeB, hz2, decide_true, decide_false, Bool.or_false, Bool.false_or, Bool.true_or, Bool.and_true, Bool.true_and, Bool.and_false, Bool.false_and, Bool.and_self, Bool.or_self]
   (try simp only [bK1, bK2, bK3, bK4, bK5, bK6, bK7, bK8]); simp (maxSteps := 10000000) (disch := omega) only [ir80, evE_len, hz2, eb, go_sem, ↓reduceIte, Nat.reduceEqDiff, Nat.reduceSub, Nat.reduceLeDiff, Nat.reduceAdd, Int.reduceEq, Int.reduceLT, Int.reduceLE]
   refine call_with (okZeroR _ _) ?_
   (try simp only [bK1, bK2, bK3, bK4, bK5, bK6, bK7, bK8]); simp (maxSteps := 10000000) (disch := omega) only [evE_len, hz2, eb, go_sem, ↓reduceIte, Nat.reduceEqDiff, Nat.reduceSub, Nat.reduceLeDiff, Nat.reduceAdd, Int.reduceEq, Int.reduceLT, Int.reduceLE]
 have hz2 : zeroB e.drep e.dseq = true := by simpa using hz2'
 by_cases hnm : e.name = []
 rotate_left
 · have eb : madeB e true false false true true true false = false := by simp only [madeB, hz2, hnm, decide_true, decide_false, Bool.or_false, Bool.false_or, Bool.true_or, Bool.and_true, Bool.true_and, Bool.and_false, Bool.false_and, Bool.and_self, Bool.or_self]
   (try simp only [bK1, bK2, bK3, bK4, bK5, bK6, bK7, bK8]); simp (maxSteps := 10000000) (disch := omega) only [ir80, evE_len, hz2, hnm, eb, go_sem, ↓reduceIte, Nat.reduceEqDiff, Nat.reduceSub, Nat.reduceLeDiff, Nat.reduceAdd, Int.reduceEq, Int.reduceLT, Int.reduceLE]
   refine call_with (okZeroR _ _) ?_
   (try simp only [bK1, bK2, bK3, bK4, bK5, bK6, bK7, bK8]); simp (maxSteps := 10000000) (disch := omega) only [evE_len, hz2, hnm, eb, go_sem, ↓reduceIte, Nat.reduceEqDiff, Nat.reduceSub, Nat.reduceLeDiff, Nat.reduceAdd, Int.reduceEq, Int.reduceLT, Int.reduceLE]
 by_cases hgo : (e.gone.l.length : Int) = 0
 rotate_left
 · have eb : madeB e true false false true true true false = false := by simp only [madeB, hz2, hnm, hgo, decide_true, decide_false, Bool.or_false, Bool.false_or, Bool.true_or, Bool.and_true, Bool.true_and, Bool.and_false, Bool.false_and, Bool.and_self, Bool.or_self]
   (try simp only [bK1, bK2, bK3, bK4, bK5, bK6, bK7, bK8]); simp (maxSteps := 10000000) (disch := omega) only [ir80, evE_len, hz2, hnm, hgo, eb, go_sem, ↓reduceIte, Nat.reduceEqDiff, Nat.reduceSub, Nat.reduceLeDiff, Nat.reduceAdd, Int.reduceEq, Int.reduceLT, Int.reduceLE]
   refine call_with (okZeroR _ _) ?_
   (try simp only [bK1, bK2, bK3, bK4, bK5, bK6, bK7, bK8]); simp (maxSteps := 10000000) (disch := omega) only [evE_len, hz2, hnm, hgo, eb, go_sem, ↓reduceIte, Nat.reduceEqDiff, Nat.reduceSub, Nat.reduceLeDiff, Nat.reduceAdd, Int.reduceEq, Int.reduceLT, Int.reduceLE]
 by_cases hwa : e.ward = 0
 rotate_left
 · have eb : madeB e true false false true true true false = false := by simp only [madeB, hz2, hnm, hgo, hwa, decide_true, decide_false, Bool.or_false, Bool.false_or, Bool.true_or, Bool.and_true, Bool.true_and, Bool.and_false, Bool.false_and, Bool.and_self, Bool.or_self]
   (try simp only [bK1, bK2, bK3, bK4, bK5, bK6, bK7, bK8]); simp (maxSteps := 10000000) (disch := omega) only [ir80, evE_len, hz2, hnm, hgo, hwa, eb, go_sem, ↓reduceIte, Nat.reduceEqDiff, Nat.reduceSub, Nat.reduceLeDiff, Nat.reduceAdd, Int.reduceEq, Int.reduceLT, Int.reduceLE]
   refine call_with (okZeroR _ _) ?_
   (try simp only [bK1, bK2, bK3, bK4, bK5, bK6, bK7, bK8]); simp (maxSteps := 10000000) (disch := omega) only [evE_len, hz2, hnm, hgo, hwa, eb, go_sem, ↓reduceIte, Nat.reduceEqDiff, Nat.reduceSub, Nat.reduceLeDiff, Nat.reduceAdd, Int.reduceEq, Int.reduceLT, Int.reduceLE]
 have eb : madeB e true false false true true true false = true := by simp only [madeB, hz2, hnm, hgo, hwa, decide_true, decide_false, Bool.or_false, Bool.false_or, Bool.true_or, Bool.and_true, Bool.true_and, Bool.and_false, Bool.false_and, Bool.and_self, Bool.or_self]
 (try simp only [bK1, bK2, bK3, bK4, bK5, bK6, bK7, bK8]); simp (maxSteps := 10000000) (disch := omega) only [ir80, evE_len, hz2, hnm, hgo, hwa, eb, go_sem, ↓reduceIte, Nat.reduceEqDiff, Nat.reduceSub, Nat.reduceLeDiff, Nat.reduceAdd, Int.reduceEq, Int.reduceLT, Int.reduceLE]
 refine call_with (okZeroR _ _) ?_
 (try simp only [bK1, bK2, bK3, bK4, bK5, bK6, bK7, bK8]); simp (maxSteps := 10000000) (disch := omega) only [evE_len, hz2, hnm, hgo, hwa, eb, go_sem, ↓reduceIte, Nat.reduceEqDiff, Nat.reduceSub, Nat.reduceLeDiff, Nat.reduceAdd, Int.reduceEq, Int.reduceLT, Int.reduceLE]
set_option maxHeartbeats 4000000 in
theorem okMadeOBF (e : Evt) {h d} : FunOk Try.prog 80 [.vec 21 (evE e), .pv (.b true), .pv (.b false), .pv (.b false), .pv (.b true), .pv (.b true), .pv (.b false), .pv (.b false)] h d (.pv (.b (madeB e true false false true true false false))) [] := by
 refine fun_pure mixed fn80 (by simp) rfl rfl fun F => ?_
 have hl := evE_len e
 by_cases hz2' : zeroB e.drep e.dseq = false
 · have hz2 := hz2'
   have eb : madeB e true false false true true false false = false := by simp only [madeB, hz2, decide_true, decide_false, Bool.or_false, Bool.false_or, Bool.true_or, Bool.and_true, Bool.true_and, Bool.and_false, Bool.false_and, Bool.and_self, Bool.or_self]
   (try simp only [bK1, bK2, bK3, bK4, bK5, bK6, bK7, bK8]); simp (maxSteps := 10000000) (disch := omega) only [ir80, evE_len, hz2, eb, go_sem, ↓reduceIte, Nat.reduceEqDiff, Nat.reduceSub, Nat.reduceLeDiff, Nat.reduceAdd, Int.reduceEq, Int.reduceLT, Int.reduceLE]
   refine call_with (okZeroR _ _) ?_
   (try simp only [bK1, bK2, bK3, bK4, bK5, bK6, bK7, bK8]); simp (maxSteps := 10000000) (disch := omega) only [evE_len, hz2, eb, go_sem, ↓reduceIte, Nat.reduceEqDiff, Nat.reduceSub, Nat.reduceLeDiff, Nat.reduceAdd, Int.reduceEq, Int.reduceLT, Int.reduceLE]
 have hz2 : zeroB e.drep e.dseq = true := by simpa using hz2'
 by_cases hnm : e.name = []
 rotate_left
 · have eb : madeB e true false false true true false false = false := by simp only [madeB, hz2, hnm, decide_true, decide_false, Bool.or_false, Bool.false_or, Bool.true_or, Bool.and_true, Bool.true_and, Bool.and_false, Bool.false_and, Bool.and_self, Bool.or_self]
   (try simp only [bK1, bK2, bK3, bK4, bK5, bK6, bK7, bK8]); simp (maxSteps := 10000000) (disch := omega) only [ir80, evE_len, hz2, hnm, eb, go_sem, ↓reduceIte, Nat.reduceEqDiff, Nat.reduceSub, Nat.reduceLeDiff, Nat.reduceAdd, Int.reduceEq, Int.reduceLT, Int.reduceLE]
   refine call_with (okZeroR _ _) ?_
   (try simp only [bK1, bK2, bK3, bK4, bK5, bK6, bK7, bK8]); simp (maxSteps := 10000000) (disch := omega) only [evE_len, hz2, hnm, eb, go_sem, ↓reduceIte, Nat.reduceEqDiff, Nat.reduceSub, Nat.reduceLeDiff, Nat.reduceAdd, Int.reduceEq, Int.reduceLT, Int.reduceLE]
 by_cases hgo : (e.gone.l.length : Int) = 0
 rotate_left
 · have eb : madeB e true false false true true false false = false := by simp only [madeB, hz2, hnm, hgo, decide_true, decide_false, Bool.or_false, Bool.false_or, Bool.true_or, Bool.and_true, Bool.true_and, Bool.and_false, Bool.false_and, Bool.and_self, Bool.or_self]
   (try simp only [bK1, bK2, bK3, bK4, bK5, bK6, bK7, bK8]); simp (maxSteps := 10000000) (disch := omega) only [ir80, evE_len, hz2, hnm, hgo, eb, go_sem, ↓reduceIte, Nat.reduceEqDiff, Nat.reduceSub, Nat.reduceLeDiff, Nat.reduceAdd, Int.reduceEq, Int.reduceLT, Int.reduceLE]
   refine call_with (okZeroR _ _) ?_
   (try simp only [bK1, bK2, bK3, bK4, bK5, bK6, bK7, bK8]); simp (maxSteps := 10000000) (disch := omega) only [evE_len, hz2, hnm, hgo, eb, go_sem, ↓reduceIte, Nat.reduceEqDiff, Nat.reduceSub, Nat.reduceLeDiff, Nat.reduceAdd, Int.reduceEq, Int.reduceLT, Int.reduceLE]
 by_cases hda : e.data = []
 rotate_left
 · have eb : madeB e true false false true true false false = false := by simp only [madeB, hz2, hnm, hgo, hda, decide_true, decide_false, Bool.or_false, Bool.false_or, Bool.true_or, Bool.and_true, Bool.true_and, Bool.and_false, Bool.false_and, Bool.and_self, Bool.or_self]
   (try simp only [bK1, bK2, bK3, bK4, bK5, bK6, bK7, bK8]); simp (maxSteps := 10000000) (disch := omega) only [ir80, evE_len, hz2, hnm, hgo, hda, eb, go_sem, ↓reduceIte, Nat.reduceEqDiff, Nat.reduceSub, Nat.reduceLeDiff, Nat.reduceAdd, Int.reduceEq, Int.reduceLT, Int.reduceLE]
   refine call_with (okZeroR _ _) ?_
   (try simp only [bK1, bK2, bK3, bK4, bK5, bK6, bK7, bK8]); simp (maxSteps := 10000000) (disch := omega) only [evE_len, hz2, hnm, hgo, hda, eb, go_sem, ↓reduceIte, Nat.reduceEqDiff, Nat.reduceSub, Nat.reduceLeDiff, Nat.reduceAdd, Int.reduceEq, Int.reduceLT, Int.reduceLE]
 by_cases hwa : e.ward = 0
 rotate_left
 · have eb : madeB e true false false true true false false = false := by simp only [madeB, hz2, hnm, hgo, hda, hwa, decide_true, decide_false, Bool.or_false, Bool.false_or, Bool.true_or, Bool.and_true, Bool.true_and, Bool.and_false, Bool.false_and, Bool.and_self, Bool.or_self]
   (try simp only [bK1, bK2, bK3, bK4, bK5, bK6, bK7, bK8]); simp (maxSteps := 10000000) (disch := omega) only [ir80, evE_len, hz2, hnm, hgo, hda, hwa, eb, go_sem, ↓reduceIte, Nat.reduceEqDiff, Nat.reduceSub, Nat.reduceLeDiff, Nat.reduceAdd, Int.reduceEq, Int.reduceLT, Int.reduceLE]
   refine call_with (okZeroR _ _) ?_
   (try simp only [bK1, bK2, bK3, bK4, bK5, bK6, bK7, bK8]); simp (maxSteps := 10000000) (disch := omega) only [evE_len, hz2, hnm, hgo, hda, hwa, eb, go_sem, ↓reduceIte, Nat.reduceEqDiff, Nat.reduceSub, Nat.reduceLeDiff, Nat.reduceAdd, Int.reduceEq, Int.reduceLT, Int.reduceLE]
 have eb : madeB e true false false true true false false = true := by simp only [madeB, hz2, hnm, hgo, hda, hwa, decide_true, decide_false, Bool.or_false, Bool.false_or, Bool.true_or, Bool.and_true, Bool.true_and, Bool.and_false, Bool.false_and, Bool.and_self, Bool.or_self]
 (try simp only [bK1, bK2, bK3, bK4, bK5, bK6, bK7, bK8]); simp (maxSteps := 10000000) (disch := omega) only [ir80, evE_len, hz2, hnm, hgo, hda, hwa, eb, go_sem, ↓reduceIte, Nat.reduceEqDiff, Nat.reduceSub, Nat.reduceLeDiff, Nat.reduceAdd, Int.reduceEq, Int.reduceLT, Int.reduceLE]
 refine call_with (okZeroR _ _) ?_
 (try simp only [bK1, bK2, bK3, bK4, bK5, bK6, bK7, bK8]); simp (maxSteps := 10000000) (disch := omega) only [evE_len, hz2, hnm, hgo, hda, hwa, eb, go_sem, ↓reduceIte, Nat.reduceEqDiff, Nat.reduceSub, Nat.reduceLeDiff, Nat.reduceAdd, Int.reduceEq, Int.reduceLT, Int.reduceLE]
set_option maxHeartbeats 4000000 in
theorem okMadeOBD (e : Evt) {h d} : FunOk Try.prog 80 [.vec 21 (evE e), .pv (.b true), .pv (.b false), .pv (.b false), .pv (.b true), .pv (.b false), .pv (.b true), .pv (.b false)] h d (.pv (.b (madeB e true false false true false true false))) [] := by
 refine fun_pure mixed fn80 (by simp) rfl rfl fun F => ?_
 have hl := evE_len e
 by_cases hz2' : zeroB e.drep e.dseq = false
 · have hz2 := hz2'
   have eb : madeB e true false false true false true false = false := by simp only [madeB, hz2, decide_true, decide_false, Bool.or_false, Bool.false_or, Bool.true_or, Bool.and_true, Bool.true_and, Bool.and_false, Bool.false_and, Bool.and_self, Bool.or_self]
   (try simp only [bK1, bK2, bK3, bK4, bK5, bK6, bK7, bK8]); simp (maxSteps := 10000000) (disch := omega) only [ir80, evE_len, hz2, eb, go_sem, ↓reduceIte, Nat.reduceEqDiff, Nat.reduceSub, Nat.reduceLeDiff, Nat.reduceAdd, Int.reduceEq, Int.reduceLT, Int.reduceLE]
   refine call_with (okZeroR _ _) ?_
   (try simp only [bK1, bK2, bK3, bK4, bK5, bK6, bK7, bK8]); simp (maxSteps := 10000000) (disch := omega) only [evE_len, hz2, eb, go_sem, ↓reduceIte, Nat.reduceEqDiff, Nat.reduceSub, Nat.reduceLeDiff, Nat.reduceAdd, Int.reduceEq, Int.reduceLT, Int.reduceLE]
 have hz2 : zeroB e.drep e.dseq = true := by simpa using hz2'
 by_cases hnm : e.name = []
 rotate_left
 · have eb : madeB e true false false true false true false = false := by simp only [madeB, hz2, hnm, decide_true, decide_false, Bool.or_false, Bool.false_or, Bool.true_or, Bool.and_true, Bool.true_and, Bool.and_false, Bool.false_and, Bool.and_self, Bool.or_self]
   (try simp only [bK1, bK2, bK3, bK4, bK5, bK6, bK7, bK8]); simp (maxSteps := 10000000) (disch := omega) only [ir80, evE_len, hz2, hnm, eb, go_sem, ↓reduceIte, Nat.reduceEqDiff, Nat.reduceSub, Nat.reduceLeDiff, Nat.reduceAdd, Int.reduceEq, Int.reduceLT, Int.reduceLE]
   refine call_with (okZeroR _ _) ?_
   (try simp only [bK1, bK2, bK3, bK4, bK5, bK6, bK7, bK8]); simp (maxSteps := 10000000) (disch := omega) only [evE_len, hz2, hnm, eb, go_sem, ↓reduceIte, Nat.reduceEqDiff, Nat.reduceSub, Nat.reduceLeDiff, Nat.reduceAdd, Int.reduceEq, Int.reduceLT, Int.reduceLE]
 by_cases hgo : (e.gone.l.length : Int) = 0
 rotate_left
 · have eb : madeB e true false false true false true false = false := by simp only [madeB, hz2, hnm, hgo, decide_true, decide_false, Bool.or_false, Bool.false_or, Bool.true_or, Bool.and_true, Bool.true_and, Bool.and_false, Bool.false_and, Bool.and_self, Bool.or_self]
   (try simp only [bK1, bK2, bK3, bK4, bK5, bK6, bK7, bK8]); simp (maxSteps := 10000000) (disch := omega) only [ir80, evE_len, hz2, hnm, hgo, eb, go_sem, ↓reduceIte, Nat.reduceEqDiff, Nat.reduceSub, Nat.reduceLeDiff, Nat.reduceAdd, Int.reduceEq, Int.reduceLT, Int.reduceLE]
   refine call_with (okZeroR _ _) ?_
   (try simp only [bK1, bK2, bK3, bK4, bK5, bK6, bK7, bK8]); simp (maxSteps := 10000000) (disch := omega) only [evE_len, hz2, hnm, hgo, eb, go_sem, ↓reduceIte, Nat.reduceEqDiff, Nat.reduceSub, Nat.reduceLeDiff, Nat.reduceAdd, Int.reduceEq, Int.reduceLT, Int.reduceLE]
 by_cases hof : e.off = 0
 rotate_left
 · have eb : madeB e true false false true false true false = false := by simp only [madeB, hz2, hnm, hgo, hof, decide_true, decide_false, Bool.or_false, Bool.false_or, Bool.true_or, Bool.and_true, Bool.true_and, Bool.and_false, Bool.false_and, Bool.and_self, Bool.or_self]
   (try simp only [bK1, bK2, bK3, bK4, bK5, bK6, bK7, bK8]); simp (maxSteps := 10000000) (disch := omega) only [ir80, evE_len, hz2, hnm, hgo, hof, eb, go_sem, ↓reduceIte, Nat.reduceEqDiff, Nat.reduceSub, Nat.reduceLeDiff, Nat.reduceAdd, Int.reduceEq, Int.reduceLT, Int.reduceLE]
   refine call_with (okZeroR _ _) ?_
   (try simp only [bK1, bK2, bK3, bK4, bK5, bK6, bK7, bK8]); simp (maxSteps := 10000000) (disch := omega) only [evE_len, hz2, hnm, hgo, hof, eb, go_sem, ↓reduceIte, Nat.reduceEqDiff, Nat.reduceSub, Nat.reduceLeDiff, Nat.reduceAdd, Int.reduceEq, Int.reduceLT, Int.reduceLE]
 by_cases hwa : e.ward = 0
 rotate_left
 · have eb : madeB e true false false true false true false = false := by simp only [madeB, hz2, hnm, hgo, hof, hwa, decide_true, decide_false, Bool.or_false, Bool.false_or, Bool.true_or, Bool.and_true, Bool.true_and, Bool.and_false, Bool.false_and, Bool.and_self, Bool.or_self]
   (try simp only [bK1, bK2, bK3, bK4, bK5, bK6, bK7, bK8]); simp (maxSteps := 10000000) (disch := omega) only [ir80, evE_len, hz2, hnm, hgo, hof, hwa, eb, go_sem, ↓reduceIte, Nat.reduceEqDiff, Nat.reduceSub, Nat.reduceLeDiff, Nat.reduceAdd, Int.reduceEq, Int.reduceLT, Int.reduceLE]
   refine call_with (okZeroR _ _) ?_
   (try simp only [bK1, bK2, bK3, bK4, bK5, bK6, bK7, bK8]); simp (maxSteps := 10000000) (disch := omega) only [evE_len, hz2, hnm, hgo, hof, hwa, eb, go_sem, ↓reduceIte, Nat.reduceEqDiff, Nat.reduceSub, Nat.reduceLeDiff, Nat.reduceAdd, Int.reduceEq, Int.reduceLT, Int.reduceLE]
 have eb : madeB e true false false true false true false = true := by simp only [madeB, hz2, hnm, hgo, hof, hwa, decide_true, decide_false, Bool.or_false, Bool.false_or, Bool.true_or, Bool.and_true, Bool.true_and, Bool.and_false, Bool.false_and, Bool.and_self, Bool.or_self]
 (try simp only [bK1, bK2, bK3, bK4, bK5, bK6, bK7, bK8]); simp (maxSteps := 10000000) (disch := omega) only [ir80, evE_len, hz2, hnm, hgo, hof, hwa, eb, go_sem, ↓reduceIte, Nat.reduceEqDiff, Nat.reduceSub, Nat.reduceLeDiff, Nat.reduceAdd, Int.reduceEq, Int.reduceLT, Int.reduceLE]
 refine call_with (okZeroR _ _) ?_
 (try simp only [bK1, bK2, bK3, bK4, bK5, bK6, bK7, bK8]); simp (maxSteps := 10000000) (disch := omega) only [evE_len, hz2, hnm, hgo, hof, hwa, eb, go_sem, ↓reduceIte, Nat.reduceEqDiff, Nat.reduceSub, Nat.reduceLeDiff, Nat.reduceAdd, Int.reduceEq, Int.reduceLT, Int.reduceLE]
set_option maxHeartbeats 4000000 in
theorem okMadeOG (e : Evt) {h d} : FunOk Try.prog 80 [.vec 21 (evE e), .pv (.b true), .pv (.b false), .pv (.b true), .pv (.b false), .pv (.b false), .pv (.b false), .pv (.b false)] h d (.pv (.b (madeB e true false true false false false false))) [] := by
 refine fun_pure mixed fn80 (by simp) rfl rfl fun F => ?_
 have hl := evE_len e
 by_cases hz2' : zeroB e.drep e.dseq = false
 · have hz2 := hz2'
   have eb : madeB e true false true false false false false = false := by simp only [madeB, hz2, decide_true, decide_false, Bool.or_false, Bool.false_or, Bool.true_or, Bool.and_true, Bool.true_and, Bool.and_false, Bool.false_and, Bool.and_self, Bool.or_self]
   (try simp only [bK1, bK2, bK3, bK4, bK5, bK6, bK7, bK8]); simp (maxSteps := 10000000) (disch := omega) only [ir80, evE_len, hz2, eb, go_sem, ↓reduceIte, Nat.reduceEqDiff, Nat.reduceSub, Nat.reduceLeDiff, Nat.reduceAdd, Int.reduceEq, Int.reduceLT, Int.reduceLE]
   refine call_with (okZeroR _ _) ?_
   (try simp only [bK1, bK2, bK3, bK4, bK5, bK6, bK7, bK8]); simp (maxSteps := 10000000) (disch := omega) only [evE_len, hz2, eb, go_sem, ↓reduceIte, Nat.reduceEqDiff, Nat.reduceSub, Nat.reduceLeDiff, Nat.reduceAdd, Int.reduceEq, Int.reduceLT, Int.reduceLE]
 have hz2 : zeroB e.drep e.dseq = true := by simpa using hz2'
 by_cases hnm : e.name = []
 rotate_left
 · have eb : madeB e true false true false false false false = false := by simp only [madeB, hz2, hnm, decide_true, decide_false, Bool.or_false, Bool.false_or, Bool.true_or, Bool.and_true, Bool.true_and, Bool.and_false, Bool.false_and, Bool.and_self, Bool.or_self]
   (try simp only [bK1, bK2, bK3, bK4, bK5, bK6, bK7, bK8]); simp (maxSteps := 10000000) (disch := omega) only [ir80, evE_len, hz2, hnm, eb, go_sem, ↓reduceIte, Nat.reduceEqDiff, Nat.reduceSub, Nat.reduceLeDiff, Nat.reduceAdd, Int.reduceEq, Int.reduceLT, Int.reduceLE]
   refine call_with (okZeroR _ _) ?_
   (try simp only [bK1, bK2, bK3, bK4, bK5, bK6, bK7, bK8]); simp (maxSteps := 10000000) (disch := omega) only [evE_len, hz2, hnm, eb, go_sem, ↓reduceIte, Nat.reduceEqDiff, Nat.reduceSub, Nat.reduceLeDiff, Nat.reduceAdd, Int.reduceEq, Int.reduceLT, Int.reduceLE]
 by_cases hba : (e.base.l.length : Int) = 0
 rotate_left
 · have eb : madeB e true false true false false false false = false := by simp only [madeB, hz2, hnm, hba, decide_true, decide_false, Bool.or_false, Bool.false_or, Bool.true_or, Bool.and_true, Bool.true_and, Bool.and_false, Bool.false_and, Bool.and_self, Bool.or_self]
   (try simp only [bK1, bK2, bK3, bK4, bK5, bK6, bK7, bK8]); simp (maxSteps := 10000000) (disch := omega) only [ir80, evE_len, hz2, hnm, hba, eb, go_sem, ↓reduceIte, Nat.reduceEqDiff, Nat.reduceSub, Nat.reduceLeDiff, Nat.reduceAdd, Int.reduceEq, Int.reduceLT, Int.reduceLE]
   refine call_with (okZeroR _ _) ?_
   (try simp only [bK1, bK2, bK3, bK4, bK5, bK6, bK7, bK8]); simp (maxSteps := 10000000) (disch := omega) only [evE_len, hz2, hnm, hba, eb, go_sem, ↓reduceIte, Nat.reduceEqDiff, Nat.reduceSub, Nat.reduceLeDiff, Nat.reduceAdd, Int.reduceEq, Int.reduceLT, Int.reduceLE]
 by_cases hof : e.off = 0
 rotate_left
 · have eb : madeB e true false true false false false false = false := by simp only [madeB, hz2, hnm, hba, hof, decide_true, decide_false, Bool.or_false, Bool.false_or, Bool.true_or, Bool.and_true, Bool.true_and, Bool.and_false, Bool.false_and, Bool.and_self, Bool.or_self]
   (try simp only [bK1, bK2, bK3, bK4, bK5, bK6, bK7, bK8]); simp (maxSteps := 10000000) (disch := omega) only [ir80, evE_len, hz2, hnm, hba, hof, eb, go_sem, ↓reduceIte, Nat.reduceEqDiff, Nat.reduceSub, Nat.reduceLeDiff, Nat.reduceAdd, Int.reduceEq, Int.reduceLT, Int.reduceLE]
   refine call_with (okZeroR _ _) ?_
   (try simp only [bK1, bK2, bK3, bK4, bK5, bK6, bK7, bK8]); simp (maxSteps := 10000000) (disch := omega) only [evE_len, hz2, hnm, hba, hof, eb, go_sem, ↓reduceIte, Nat.reduceEqDiff, Nat.reduceSub, Nat.reduceLeDiff, Nat.reduceAdd, Int.reduceEq, Int.reduceLT, Int.reduceLE]
 by_cases hda : e.data = []
 rotate_left
 · have eb : madeB e true false true false false false false = false := by simp only [madeB, hz2, hnm, hba, hof, hda, decide_true, decide_false, Bool.or_false, Bool.false_or, Bool.true_or, Bool.and_true, Bool.true_and, Bool.and_false, Bool.false_and, Bool.and_self, Bool.or_self]
   (try simp only [bK1, bK2, bK3, bK4, bK5, bK6, bK7, bK8]); simp (maxSteps := 10000000) (disch := omega) only [ir80, evE_len, hz2, hnm, hba, hof, hda, eb, go_sem, ↓reduceIte, Nat.reduceEqDiff, Nat.reduceSub, Nat.reduceLeDiff, Nat.reduceAdd, Int.reduceEq, Int.reduceLT, Int.reduceLE]
   refine call_with (okZeroR _ _) ?_
   (try simp only [bK1, bK2, bK3, bK4, bK5, bK6, bK7, bK8]); simp (maxSteps := 10000000) (disch := omega) only [evE_len, hz2, hnm, hba, hof, hda, eb, go_sem, ↓reduceIte, Nat.reduceEqDiff, Nat.reduceSub, Nat.reduceLeDiff, Nat.reduceAdd, Int.reduceEq, Int.reduceLT, Int.reduceLE]
 by_cases hwa : e.ward = 0
 rotate_left
 · have eb : madeB e true false true false false false false = false := by simp only [madeB, hz2, hnm, hba, hof, hda, hwa, decide_true, decide_false, Bool.or_false, Bool.false_or, Bool.true_or, Bool.and_true, Bool.true_and, Bool.and_false, Bool.false_and, Bool.and_self, Bool.or_self]
   (try simp only [bK1, bK2, bK3, bK4, bK5, bK6, bK7, bK8]); simp (maxSteps := 10000000) (disch := omega) only [ir80, evE_len, hz2, hnm, hba, hof, hda, hwa, eb, go_sem, ↓reduceIte, Nat.reduceEqDiff, Nat.reduceSub, Nat.reduceLeDiff, Nat.reduceAdd, Int.reduceEq, Int.reduceLT, Int.reduceLE]
   refine call_with (okZeroR _ _) ?_
   (try simp only [bK1, bK2, bK3, bK4, bK5, bK6, bK7, bK8]); simp (maxSteps := 10000000) (disch := omega) only [evE_len, hz2, hnm, hba, hof, hda, hwa, eb, go_sem, ↓reduceIte, Nat.reduceEqDiff, Nat.reduceSub, Nat.reduceLeDiff, Nat.reduceAdd, Int.reduceEq, Int.reduceLT, Int.reduceLE]
 have eb : madeB e true false true false false false false = true := by simp only [madeB, hz2, hnm, hba, hof, hda, hwa, decide_true, decide_false, Bool.or_false, Bool.false_or, Bool.true_or, Bool.and_true, Bool.true_and, Bool.and_false, Bool.false_and, Bool.and_self, Bool.or_self]
 (try simp only [bK1, bK2, bK3, bK4, bK5, bK6, bK7, bK8]); simp (maxSteps := 10000000) (disch := omega) only [ir80, evE_len, hz2, hnm, hba, hof, hda, hwa, eb, go_sem, ↓reduceIte, Nat.reduceEqDiff, Nat.reduceSub, Nat.reduceLeDiff, Nat.reduceAdd, Int.reduceEq, Int.reduceLT, Int.reduceLE]
 refine call_with (okZeroR _ _) ?_
 (try simp only [bK1, bK2, bK3, bK4, bK5, bK6, bK7, bK8]); simp (maxSteps := 10000000) (disch := omega) only [evE_len, hz2, hnm, hba, hof, hda, hwa, eb, go_sem, ↓reduceIte, Nat.reduceEqDiff, Nat.reduceSub, Nat.reduceLeDiff, Nat.reduceAdd, Int.reduceEq, Int.reduceLT, Int.reduceLE]
set_option maxHeartbeats 4000000 in
theorem okMadeODG (e : Evt) {h d} : FunOk Try.prog 80 [.vec 21 (evE e), .pv (.b true), .pv (.b true), .pv (.b true), .pv (.b false), .pv (.b false), .pv (.b false), .pv (.b false)] h d (.pv (.b (madeB e true true true false false false false))) [] := by
 refine fun_pure mixed fn80 (by simp) rfl rfl fun F => ?_
 have hl := evE_len e
 by_cases hba : (e.base.l.length : Int) = 0
 rotate_left
 · have eb : madeB e true true true false false false false = false := by simp only [madeB, hba, decide_true, decide_false, Bool.or_false, Bool.false_or, Bool.true_or, Bool.and_true, Bool.true_and, Bool.and_false, Bool.false_and, Bool.and_self, Bool.or_self]
   (try simp only [bK1, bK2, bK3, bK4, bK5, bK6, bK7, bK8]); simp (maxSteps := 10000000) (disch := omega) only [ir80, evE_len, hba, eb, go_sem, ↓reduceIte, Nat.reduceEqDiff, Nat.reduceSub, Nat.reduceLeDiff, Nat.reduceAdd, Int.reduceEq, Int.reduceLT, Int.reduceLE]
 by_cases hof : e.off = 0
 rotate_left
 · have eb : madeB e true true true false false false false = false := by simp only [madeB, hba, hof, decide_true, decide_false, Bool.or_false, Bool.false_or, Bool.true_or, Bool.and_true, Bool.true_and, Bool.and_false, Bool.false_and, Bool.and_self, Bool.or_self]
   (try simp only [bK1, bK2, bK3, bK4, bK5, bK6, bK7, bK8]); simp (maxSteps := 10000000) (disch := omega) only [ir80, evE_len, hba, hof, eb, go_sem, ↓reduceIte, Nat.reduceEqDiff, Nat.reduceSub, Nat.reduceLeDiff, Nat.reduceAdd, Int.reduceEq, Int.reduceLT, Int.reduceLE]
 by_cases hda : e.data = []
 rotate_left
 · have eb : madeB e true true true false false false false = false := by simp only [madeB, hba, hof, hda, decide_true, decide_false, Bool.or_false, Bool.false_or, Bool.true_or, Bool.and_true, Bool.true_and, Bool.and_false, Bool.false_and, Bool.and_self, Bool.or_self]
   (try simp only [bK1, bK2, bK3, bK4, bK5, bK6, bK7, bK8]); simp (maxSteps := 10000000) (disch := omega) only [ir80, evE_len, hba, hof, hda, eb, go_sem, ↓reduceIte, Nat.reduceEqDiff, Nat.reduceSub, Nat.reduceLeDiff, Nat.reduceAdd, Int.reduceEq, Int.reduceLT, Int.reduceLE]
 by_cases hwa : e.ward = 0
 rotate_left
 · have eb : madeB e true true true false false false false = false := by simp only [madeB, hba, hof, hda, hwa, decide_true, decide_false, Bool.or_false, Bool.false_or, Bool.true_or, Bool.and_true, Bool.true_and, Bool.and_false, Bool.false_and, Bool.and_self, Bool.or_self]
   (try simp only [bK1, bK2, bK3, bK4, bK5, bK6, bK7, bK8]); simp (maxSteps := 10000000) (disch := omega) only [ir80, evE_len, hba, hof, hda, hwa, eb, go_sem, ↓reduceIte, Nat.reduceEqDiff, Nat.reduceSub, Nat.reduceLeDiff, Nat.reduceAdd, Int.reduceEq, Int.reduceLT, Int.reduceLE]
 have eb : madeB e true true true false false false false = true := by simp only [madeB, hba, hof, hda, hwa, decide_true, decide_false, Bool.or_false, Bool.false_or, Bool.true_or, Bool.and_true, Bool.true_and, Bool.and_false, Bool.false_and, Bool.and_self, Bool.or_self]
 (try simp only [bK1, bK2, bK3, bK4, bK5, bK6, bK7, bK8]); simp (maxSteps := 10000000) (disch := omega) only [ir80, evE_len, hba, hof, hda, hwa, eb, go_sem, ↓reduceIte, Nat.reduceEqDiff, Nat.reduceSub, Nat.reduceLeDiff, Nat.reduceAdd, Int.reduceEq, Int.reduceLT, Int.reduceLE]
set_option maxHeartbeats 4000000 in
theorem okMadeW (e : Evt) {h d} : FunOk Try.prog 80 [.vec 21 (evE e), .pv (.b false), .pv (.b false), .pv (.b false), .pv (.b false), .pv (.b false), .pv (.b false), .pv (.b true)] h d (.pv (.b (madeB e false false false false false false true))) [] := by
 refine fun_pure mixed fn80 (by simp) rfl rfl fun F => ?_
 have hl := evE_len e
 by_cases hz1' : zeroB e.orep e.oseq = false
 · have hz1 := hz1'
   have eb : madeB e false false false false false false true = false := by simp only [madeB, hz1, decide_true, decide_false, Bool.or_false, Bool.false_or, Bool.true_or, Bool.and_true, Bool.true_and, Bool.and_false, Bool.false_and, Bool.and_self, Bool.or_self]
   (try simp only [bK1, bK2, bK3, bK4, bK5, bK6, bK7, bK8]); simp (maxSteps := 10000000) (disch := omega) only [ir80, evE_len, hz1, eb, go_sem, ↓reduceIte, Nat.reduceEqDiff, Nat.reduceSub, Nat.reduceLeDiff, Nat.reduceAdd, Int.reduceEq, Int.reduceLT, Int.reduceLE]
   refine call_with (okZeroR _ _) ?_
   (try simp only [bK1, bK2, bK3, bK4, bK5, bK6, bK7, bK8]); simp (maxSteps := 10000000) (disch := omega) only [evE_len, hz1, eb, go_sem, ↓reduceIte, Nat.reduceEqDiff, Nat.reduceSub, Nat.reduceLeDiff, Nat.reduceAdd, Int.reduceEq, Int.reduceLT, Int.reduceLE]
 have hz1 : zeroB e.orep e.oseq = true := by simpa using hz1'
 by_cases hz2' : zeroB e.drep e.dseq = false
 · have hz2 := hz2'
   have eb : madeB e false false false false false false true = false := by simp only [madeB, hz1, hz2, decide_true, decide_false, Bool.or_false, Bool.false_or, Bool.true_or, Bool.and_true, Bool.true_and, Bool.and_false, Bool.false_and, Bool.and_self, Bool.or_self]
   (try simp only [bK1, bK2, bK3, bK4, bK5, bK6, bK7, bK8]); simp (maxSteps := 10000000) (disch := omega) only [ir80, evE_len, hz1, hz2, eb, go_sem, ↓reduceIte, Nat.reduceEqDiff, Nat.reduceSub, Nat.reduceLeDiff, Nat.reduceAdd, Int.reduceEq, Int.reduceLT, Int.reduceLE]
   refine call_with (okZeroR _ _) ?_
   (try simp only [bK1, bK2, bK3, bK4, bK5, bK6, bK7, bK8]); simp (maxSteps := 10000000) (disch := omega) only [evE_len, hz1, hz2, eb, go_sem, ↓reduceIte, Nat.reduceEqDiff, Nat.reduceSub, Nat.reduceLeDiff, Nat.reduceAdd, Int.reduceEq, Int.reduceLT, Int.reduceLE]
   refine call_with (okZeroR _ _) ?_
   (try simp only [bK1, bK2, bK3, bK4, bK5, bK6, bK7, bK8]); simp (maxSteps := 10000000) (disch := omega) only [evE_len, hz1, hz2, eb, go_sem, ↓reduceIte, Nat.reduceEqDiff, Nat.reduceSub, Nat.reduceLeDiff, Nat.reduceAdd, Int.reduceEq, Int.reduceLT, Int.reduceLE]
 have hz2 : zeroB e.drep e.dseq = true := by simpa using hz2'
 by_cases hnm : e.name = []
 rotate_left
 · have eb : madeB e false false false false false false true = false := by simp only [madeB, hz1, hz2, hnm, decide_true, decide_false, Bool.or_false, Bool.false_or, Bool.true_or, Bool.and_true, Bool.true_and, Bool.and_false, Bool.false_and, Bool.and_self, Bool.or_self]
   (try simp only [bK1, bK2, bK3, bK4, bK5, bK6, bK7, bK8]); simp (maxSteps := 10000000) (disch := omega) only [ir80, evE_len, hz1, hz2, hnm, eb, go_sem, ↓reduceIte, Nat.reduceEqDiff, Nat.reduceSub, Nat.reduceLeDiff, Nat.reduceAdd, Int.reduceEq, Int.reduceLT, Int.reduceLE]
   refine call_with (okZeroR _ _) ?_
   (try simp only [bK1, bK2, bK3, bK4, bK5, bK6, bK7, bK8]); simp (maxSteps := 10000000) (disch := omega) only [evE_len, hz1, hz2, hnm, eb, go_sem, ↓reduceIte, Nat.reduceEqDiff, Nat.reduceSub, Nat.reduceLeDiff, Nat.reduceAdd, Int.reduceEq, Int.reduceLT, Int.reduceLE]
   refine call_with (okZeroR _ _) ?_
   (try simp only [bK1, bK2, bK3, bK4, bK5, bK6, bK7, bK8]); simp (maxSteps := 10000000) (disch := omega) only [evE_len, hz1, hz2, hnm, eb, go_sem, ↓reduceIte, Nat.reduceEqDiff, Nat.reduceSub, Nat.reduceLeDiff, Nat.reduceAdd, Int.reduceEq, Int.reduceLT, Int.reduceLE]
 by_cases hgo : (e.gone.l.length : Int) = 0
 rotate_left
 · have eb : madeB e false false false false false false true = false := by simp only [madeB, hz1, hz2, hnm, hgo, decide_true, decide_false, Bool.or_false, Bool.false_or, Bool.true_or, Bool.and_true, Bool.true_and, Bool.and_false, Bool.false_and, Bool.and_self, Bool.or_self]
   (try simp only [bK1, bK2, bK3, bK4, bK5, bK6, bK7, bK8]); simp (maxSteps := 10000000) (disch := omega) only [ir80, evE_len, hz1, hz2, hnm, hgo, eb, go_sem, ↓reduceIte, Nat.reduceEqDiff, Nat.reduceSub, Nat.reduceLeDiff, Nat.reduceAdd, Int.reduceEq, Int.reduceLT, Int.reduceLE]
   refine call_with (okZeroR _ _) ?_
   (try simp only [bK1, bK2, bK3, bK4, bK5, bK6, bK7, bK8]); simp (maxSteps := 10000000) (disch := omega) only [evE_len, hz1, hz2, hnm, hgo, eb, go_sem, ↓reduceIte, Nat.reduceEqDiff, Nat.reduceSub, Nat.reduceLeDiff, Nat.reduceAdd, Int.reduceEq, Int.reduceLT, Int.reduceLE]
   refine call_with (okZeroR _ _) ?_
   (try simp only [bK1, bK2, bK3, bK4, bK5, bK6, bK7, bK8]); simp (maxSteps := 10000000) (disch := omega) only [evE_len, hz1, hz2, hnm, hgo, eb, go_sem, ↓reduceIte, Nat.reduceEqDiff, Nat.reduceSub, Nat.reduceLeDiff, Nat.reduceAdd, Int.reduceEq, Int.reduceLT, Int.reduceLE]
 by_cases hba : (e.base.l.length : Int) = 0
 rotate_left
 · have eb : madeB e false false false false false false true = false := by simp only [madeB, hz1, hz2, hnm, hgo, hba, decide_true, decide_false, Bool.or_false, Bool.false_or, Bool.true_or, Bool.and_true, Bool.true_and, Bool.and_false, Bool.false_and, Bool.and_self, Bool.or_self]
   (try simp only [bK1, bK2, bK3, bK4, bK5, bK6, bK7, bK8]); simp (maxSteps := 10000000) (disch := omega) only [ir80, evE_len, hz1, hz2, hnm, hgo, hba, eb, go_sem, ↓reduceIte, Nat.reduceEqDiff, Nat.reduceSub, Nat.reduceLeDiff, Nat.reduceAdd, Int.reduceEq, Int.reduceLT, Int.reduceLE]
   refine call_with (okZeroR _ _) ?_
   (try simp only [bK1, bK2, bK3, bK4, bK5, bK6, bK7, bK8]); simp (maxSteps := 10000000) (disch := omega) only [evE_len, hz1, hz2, hnm, hgo, hba, eb, go_sem, ↓reduceIte, Nat.reduceEqDiff, Nat.reduceSub, Nat.reduceLeDiff, Nat.reduceAdd, Int.reduceEq, Int.reduceLT, Int.reduceLE]
   refine call_with (okZeroR _ _) ?_
   (try simp only [bK1, bK2, bK3, bK4, bK5, bK6, bK7, bK8]); simp (maxSteps := 10000000) (disch := omega) only [evE_len, hz1, hz2, hnm, hgo, hba, eb, go_sem, ↓reduceIte, Nat.reduceEqDiff, Nat.reduceSub, Nat.reduceLeDiff, Nat.reduceAdd, Int.reduceEq, Int.reduceLT, Int.reduceLE]
 by_cases hof : e.off = 0
 rotate_left
 · have eb : madeB e false false false false false false true = false := by simp only [madeB, hz1, hz2, hnm, hgo, hba, hof, decide_true, decide_false, Bool.or_false, Bool.false_or, Bool.true_or, Bool.and_true, Bool.true_and, Bool.and_false, Bool.false_and, Bool.and_self, Bool.or_self]
   (try simp only [bK1, bK2, bK3, bK4, bK5, bK6, bK7, bK8]); simp (maxSteps := 10000000) (disch := omega) only [ir80, evE_len, hz1, hz2, hnm, hgo, hba, hof, eb, go_sem, ↓reduceIte, Nat.reduceEqDiff, Nat.reduceSub, Nat.reduceLeDiff, Nat.reduceAdd, Int.reduceEq, Int.reduceLT, Int.reduceLE]
   refine call_with (okZeroR _ _) ?_
   (try simp only [bK1, bK2, bK3, bK4, bK5, bK6, bK7, bK8]); simp (maxSteps := 10000000) (disch := omega) only [evE_len, hz1, hz2, hnm, hgo, hba, hof, eb, go_sem, ↓reduceIte, Nat.reduceEqDiff, Nat.reduceSub, Nat.reduceLeDiff, Nat.reduceAdd, Int.reduceEq, Int.reduceLT, Int.reduceLE]
   refine call_with (okZeroR _ _) ?_
   (try simp only [bK1, bK2, bK3, bK4, bK5, bK6, bK7, bK8]); simp (maxSteps := 10000000) (disch := omega) only [evE_len, hz1, hz2, hnm, hgo, hba, hof, eb, go_sem, ↓reduceIte, Nat.reduceEqDiff, Nat.reduceSub, Nat.reduceLeDiff, Nat.reduceAdd, Int.reduceEq, Int.reduceLT, Int.reduceLE]
 by_cases hda : e.data = []
 rotate_left
 · have eb : madeB e false false false false false false true = false := by simp only [madeB, hz1, hz2, hnm, hgo, hba, hof, hda, decide_true, decide_false, Bool.or_false, Bool.false_or, Bool.true_or, Bool.and_true, Bool.true_and, Bool.and_false, Bool.false_and, Bool.and_self, Bool.or_self]
   (try simp only [bK1, bK2, bK3, bK4, bK5, bK6, bK7, bK8]); simp (maxSteps := 10000000) (disch := omega) only [ir80, evE_len, hz1, hz2, hnm, hgo, hba, hof, hda, eb, go_sem, ↓reduceIte, Nat.reduceEqDiff, Nat.reduceSub, Nat.reduceLeDiff, Nat.reduceAdd, Int.reduceEq, Int.reduceLT, Int.reduceLE]
   refine call_with (okZeroR _ _) ?_
   (try simp only [bK1, bK2, bK3, bK4, bK5, bK6, bK7, bK8]); simp (maxSteps := 10000000) (disch := omega) only [evE_len, hz1, hz2, hnm, hgo, hba, hof, hda, eb, go_sem, ↓reduceIte, Nat.reduceEqDiff, Nat.reduceSub, Nat.reduceLeDiff, Nat.reduceAdd, Int.reduceEq, Int.reduceLT, Int.reduceLE]
   refine call_with (okZeroR _ _) ?_
   (try simp only [bK1, bK2, bK3, bK4, bK5, bK6, bK7, bK8]); simp (maxSteps := 10000000) (disch := omega) only [evE_len, hz1, hz2, hnm, hgo, hba, hof, hda, eb, go_sem, ↓reduceIte, Nat.reduceEqDiff, Nat.reduceSub, Nat.reduceLeDiff, Nat.reduceAdd, Int.reduceEq, Int.reduceLT, Int.reduceLE]
 have eb : madeB e false false false false false false true = true := by simp only [madeB, hz1, hz2, hnm, hgo, hba, hof, hda, decide_true, decide_false, Bool.or_false, Bool.false_or, Bool.true_or, Bool.and_true, Bool.true_and, Bool.and_false, Bool.false_and, Bool.and_self, Bool.or_self]
 (try simp only [bK1, bK2, bK3, bK4, bK5, bK6, bK7, bK8]); simp (maxSteps := 10000000) (disch := omega) only [ir80, evE_len, hz1, hz2, hnm, hgo, hba, hof, hda, eb, go_sem, ↓reduceIte, Nat.reduceEqDiff, Nat.reduceSub, Nat.reduceLeDiff, Nat.reduceAdd, Int.reduceEq, Int.reduceLT, Int.reduceLE]
 refine call_with (okZeroR _ _) ?_
 (try simp only [bK1, bK2, bK3, bK4, bK5, bK6, bK7, bK8]); simp (maxSteps := 10000000) (disch := omega) only [evE_len, hz1, hz2, hnm, hgo, hba, hof, hda, eb, go_sem, ↓reduceIte, Nat.reduceEqDiff, Nat.reduceSub, Nat.reduceLeDiff, Nat.reduceAdd, Int.reduceEq, Int.reduceLT, Int.reduceLE]
 refine call_with (okZeroR _ _) ?_
 (try simp only [bK1, bK2, bK3, bK4, bK5, bK6, bK7, bK8]); simp (maxSteps := 10000000) (disch := omega) only [evE_len, hz1, hz2, hnm, hgo, hba, hof, hda, eb, go_sem, ↓reduceIte, Nat.reduceEqDiff, Nat.reduceSub, Nat.reduceLeDiff, Nat.reduceAdd, Int.reduceEq, Int.reduceLT, Int.reduceLE]
set_option maxHeartbeats 4000000 in
theorem okMadeN (e : Evt) {h d} : FunOk Try.prog 80 [.vec 21 (evE e), .pv (.b false), .pv (.b false), .pv (.b false), .pv (.b false), .pv (.b false), .pv (.b false), .pv (.b false)] h d (.pv (.b (madeB e false false false false false false false))) [] := by
 refine fun_pure mixed fn80 (by simp) rfl rfl fun F => ?_
 have hl := evE_len e
 by_cases hz1' : zeroB e.orep e.oseq = false
 · have hz1 := hz1'
   have eb : madeB e false false false false false false false = false := by simp only [madeB, hz1, decide_true, decide_false, Bool.or_false, Bool.false_or, Bool.true_or, Bool.and_true, Bool.true_and, Bool.and_false, Bool.false_and, Bool.and_self, Bool.or_self]
   (try simp only [bK1, bK2, bK3, bK4, bK5, bK6, bK7, bK8]); simp (maxSteps := 10000000) (disch := omega) only [ir80, evE_len, hz1, eb, go_sem, ↓reduceIte, Nat.reduceEqDiff, Nat.reduceSub, Nat.reduceLeDiff, Nat.reduceAdd, Int.reduceEq, Int.reduceLT, Int.reduceLE]
   refine call_with (okZeroR _ _) ?_
   (try simp only [bK1, bK2, bK3, bK4, bK5, bK6, bK7, bK8]); simp (maxSteps := 10000000) (disch := omega) only [evE_len, hz1, eb, go_sem, ↓reduceIte, Nat.reduceEqDiff, Nat.reduceSub, Nat.reduceLeDiff, Nat.reduceAdd, Int.reduceEq, Int.reduceLT, Int.reduceLE]
 have hz1 : zeroB e.orep e.oseq = true := by simpa using hz1'
 by_cases hz2' : zeroB e.drep e.dseq = false
 · have hz2 := hz2'
   have eb : madeB e false false false false false false false = false := by simp only [madeB, hz1, hz2, decide_true, decide_false, Bool.or_false, Bool.false_or, Bool.true_or, Bool.and_true, Bool.true_and, Bool.and_false, Bool.false_and, Bool.and_self, Bool.or_self]
   (try simp only [bK1, bK2, bK3, bK4, bK5, bK6, bK7, bK8]); simp (maxSteps := 10000000) (disch := omega) only [ir80, evE_len, hz1, hz2, eb, go_sem, ↓reduceIte, Nat.reduceEqDiff, Nat.reduceSub, Nat.reduceLeDiff, Nat.reduceAdd, Int.reduceEq, Int.reduceLT, Int.reduceLE]
   refine call_with (okZeroR _ _) ?_
   (try simp only [bK1, bK2, bK3, bK4, bK5, bK6, bK7, bK8]); simp (maxSteps := 10000000) (disch := omega) only [evE_len, hz1, hz2, eb, go_sem, ↓reduceIte, Nat.reduceEqDiff, Nat.reduceSub, Nat.reduceLeDiff, Nat.reduceAdd, Int.reduceEq, Int.reduceLT, Int.reduceLE]
   refine call_with (okZeroR _ _) ?_
   (try simp only [bK1, bK2, bK3, bK4, bK5, bK6, bK7, bK8]); simp (maxSteps := 10000000) (disch := omega) only [evE_len, hz1, hz2, eb, go_sem, ↓reduceIte, Nat.reduceEqDiff, Nat.reduceSub, Nat.reduceLeDiff, Nat.reduceAdd, Int.reduceEq, Int.reduceLT, Int.reduceLE]
 have hz2 : zeroB e.drep e.dseq = true := by simpa using hz2'
 by_cases hnm : e.name = []
 rotate_left
 · have eb : madeB e false false false false false false false = false := by simp only [madeB, hz1, hz2, hnm, decide_true, decide_false, Bool.or_false, Bool.false_or, Bool.true_or, Bool.and_true, Bool.true_and, Bool.and_false, Bool.false_and, Bool.and_self, Bool.or_self]
   (try simp only [bK1, bK2, bK3, bK4, bK5, bK6, bK7, bK8]); simp (maxSteps := 10000000) (disch := omega) only [ir80, evE_len, hz1, hz2, hnm, eb, go_sem, ↓reduceIte, Nat.reduceEqDiff, Nat.reduceSub, Nat.reduceLeDiff, Nat.reduceAdd, Int.reduceEq, Int.reduceLT, Int.reduceLE]
   refine call_with (okZeroR _ _) ?_
   (try simp only [bK1, bK2, bK3, bK4, bK5, bK6, bK7, bK8]); simp (maxSteps := 10000000) (disch := omega) only [evE_len, hz1, hz2, hnm, eb, go_sem, ↓reduceIte, Nat.reduceEqDiff, Nat.reduceSub, Nat.reduceLeDiff, Nat.reduceAdd, Int.reduceEq, Int.reduceLT, Int.reduceLE]
   refine call_with (okZeroR _ _) ?_
   (try simp only [bK1, bK2, bK3, bK4, bK5, bK6, bK7, bK8]); simp (maxSteps := 10000000) (disch := omega) only [evE_len, hz1, hz2, hnm, eb, go_sem, ↓reduceIte, Nat.reduceEqDiff, Nat.reduceSub, Nat.reduceLeDiff, Nat.reduceAdd, Int.reduceEq, Int.reduceLT, Int.reduceLE]
 by_cases hgo : (e.gone.l.length : Int) = 0
 rotate_left
 · have eb : madeB e false false false false false false false = false := by simp only [madeB, hz1, hz2, hnm, hgo, decide_true, decide_false, Bool.or_false, Bool.false_or, Bool.true_or, Bool.and_true, Bool.true_and, Bool.and_false, Bool.false_and, Bool.and_self, Bool.or_self]
   (try simp only [bK1, bK2, bK3, bK4, bK5, bK6, bK7, bK8]); simp (maxSteps := 10000000) (disch := omega) only [ir80, evE_len, hz1, hz2, hnm, hgo, eb, go_sem, ↓reduceIte, Nat.reduceEqDiff, Nat.reduceSub, Nat.reduceLeDiff, Nat.reduceAdd, Int.reduceEq, Int.reduceLT, Int.reduceLE]
   refine call_with (okZeroR _ _) ?_
   (try simp only [bK1, bK2, bK3, bK4, bK5, bK6, bK7, bK8]); simp (maxSteps := 10000000) (disch := omega) only [evE_len, hz1, hz2, hnm, hgo, eb, go_sem, ↓reduceIte, Nat.reduceEqDiff, Nat.reduceSub, Nat.reduceLeDiff, Nat.reduceAdd, Int.reduceEq, Int.reduceLT, Int.reduceLE]
   refine call_with (okZeroR _ _) ?_
   (try simp only [bK1, bK2, bK3, bK4, bK5, bK6, bK7, bK8]); simp (maxSteps := 10000000) (disch := omega) only [evE_len, hz1, hz2, hnm, hgo, eb, go_sem, ↓reduceIte, Nat.reduceEqDiff, Nat.reduceSub, Nat.reduceLeDiff, Nat.reduceAdd, Int.reduceEq, Int.reduceLT, Int.reduceLE]
 by_cases hba : (e.base.l.length : Int) = 0
 rotate_left
 · have eb : madeB e false false false false false false false = false := by simp only [madeB, hz1, hz2, hnm, hgo, hba, decide_true, decide_false, Bool.or_false, Bool.false_or, Bool.true_or, Bool.and_true, Bool.true_and, Bool.and_false, Bool.false_and, Bool.and_self, Bool.or_self]
   (try simp only [bK1, bK2, bK3, bK4, bK5, bK6, bK7, bK8]); simp (maxSteps := 10000000) (disch := omega) only [ir80, evE_len, hz1, hz2, hnm, hgo, hba, eb, go_sem, ↓reduceIte, Nat.reduceEqDiff, Nat.reduceSub, Nat.reduceLeDiff, Nat.reduceAdd, Int.reduceEq, Int.reduceLT, Int.reduceLE]
   refine call_with (okZeroR _ _) ?_
   (try simp only [bK1, bK2, bK3, bK4, bK5, bK6, bK7, bK8]); simp (maxSteps := 10000000) (disch := omega) only [evE_len, hz1, hz2, hnm, hgo, hba, eb, go_sem, ↓reduceIte, Nat.reduceEqDiff, Nat.reduceSub, Nat.reduceLeDiff, Nat.reduceAdd, Int.reduceEq, Int.reduceLT, Int.reduceLE]
   refine call_with (okZeroR _ _) ?_
   (try simp only [bK1, bK2, bK3, bK4, bK5, bK6, bK7, bK8]); simp (maxSteps := 10000000) (disch := omega) only [evE_len, hz1, hz2, hnm, hgo, hba, eb, go_sem, ↓reduceIte, Nat.reduceEqDiff, Nat.reduceSub, Nat.reduceLeDiff, Nat.reduceAdd, Int.reduceEq, Int.reduceLT, Int.reduceLE]
 by_cases hof : e.off = 0
 rotate_left
 · have eb : madeB e false false false false false false false = false := by simp only [madeB, hz1, hz2, hnm, hgo, hba, hof, decide_true, decide_false, Bool.or_false, Bool.false_or, Bool.true_or, Bool.and_true, Bool.true_and, Bool.and_false, Bool.false_and, Bool.and_self, Bool.or_self]
   (try simp only [bK1, bK2, bK3, bK4, bK5, bK6, bK7, bK8]); simp (maxSteps := 10000000) (disch := omega) only [ir80, evE_len, hz1, hz2, hnm, hgo, hba, hof, eb, go_sem, ↓reduceIte, Nat.reduceEqDiff, Nat.reduceSub, Nat.reduceLeDiff, Nat.reduceAdd, Int.reduceEq, Int.reduceLT, Int.reduceLE]
   refine call_with (okZeroR _ _) ?_
   (try simp only [bK1, bK2, bK3, bK4, bK5, bK6, bK7, bK8]); simp (maxSteps := 10000000) (disch := omega) only [evE_len, hz1, hz2, hnm, hgo, hba, hof, eb, go_sem, ↓reduceIte, Nat.reduceEqDiff, Nat.reduceSub, Nat.reduceLeDiff, Nat.reduceAdd, Int.reduceEq, Int.reduceLT, Int.reduceLE]
   refine call_with (okZeroR _ _) ?_
   (try simp only [bK1, bK2, bK3, bK4, bK5, bK6, bK7, bK8]); simp (maxSteps := 10000000) (disch := omega) only [evE_len, hz1, hz2, hnm, hgo, hba, hof, eb, go_sem, ↓reduceIte, Nat.reduceEqDiff, Nat.reduceSub, Nat.reduceLeDiff, Nat.reduceAdd, Int.reduceEq, Int.reduceLT, Int.reduceLE]
 by_cases hda : e.data = []
 rotate_left
 · have eb : madeB e false false false false false false false = false := by simp only [madeB, hz1, hz2, hnm, hgo, hba, hof, hda, decide_true, decide_false, Bool.or_false, Bool.false_or, Bool.true_or, Bool.and_true, Bool.true_and, Bool.and_false, Bool.false_and, Bool.and_self, Bool.or_self]
   (try simp only [bK1, bK2, bK3, bK4, bK5, bK6, bK7, bK8]); simp (maxSteps := 10000000) (disch := omega) only [ir80, evE_len, hz1, hz2, hnm, hgo, hba, hof, hda, eb, go_sem, ↓reduceIte, Nat.reduceEqDiff, Nat.reduceSub, Nat.reduceLeDiff, Nat.reduceAdd, Int.reduceEq, Int.reduceLT, Int.reduceLE]
   refine call_with (okZeroR _ _) ?_
   (try simp only [bK1, bK2, bK3, bK4, bK5, bK6, bK7, bK8]); simp (maxSteps := 10000000) (disch := omega) only [evE_len, hz1, hz2, hnm, hgo, hba, hof, hda, eb, go_sem, ↓reduceIte, Nat.reduceEqDiff, Nat.reduceSub, Nat.reduceLeDiff, Nat.reduceAdd, Int.reduceEq, Int.reduceLT, Int.reduceLE]
   refine call_with (okZeroR _ _) ?_
   (try simp only [bK1, bK2, bK3, bK4, bK5, bK6, bK7, bK8]); simp (maxSteps := 10000000) (disch := omega) only [evE_len, hz1, hz2, hnm, hgo, hba, hof, hda, eb, go_sem, ↓reduceIte, Nat.reduceEqDiff, Nat.reduceSub, Nat.reduceLeDiff, Nat.reduceAdd, Int.reduceEq, Int.reduceLT, Int.reduceLE]
 by_cases hwa : e.ward = 0
 rotate_left
 · have eb : madeB e false false false false false false false = false := by simp only [madeB, hz1, hz2, hnm, hgo, hba, hof, hda, hwa, decide_true, decide_false, Bool.or_false, Bool.false_or, Bool.true_or, Bool.and_true, Bool.true_and, Bool.and_false, Bool.false_and, Bool.and_self, Bool.or_self]
   (try simp only [bK1, bK2, bK3, bK4, bK5, bK6, bK7, bK8]); simp (maxSteps := 10000000) (disch := omega) only [ir80, evE_len, hz1, hz2, hnm, hgo, hba, hof, hda, hwa, eb, go_sem, ↓reduceIte, Nat.reduceEqDiff, Nat.reduceSub, Nat.reduceLeDiff, Nat.reduceAdd, Int.reduceEq, Int.reduceLT, Int.reduceLE]
   refine call_with (okZeroR _ _) ?_
   (try simp only [bK1, bK2, bK3, bK4, bK5, bK6, bK7, bK8]); simp (maxSteps := 10000000) (disch := omega) only [evE_len, hz1, hz2, hnm, hgo, hba, hof, hda, hwa, eb, go_sem, ↓reduceIte, Nat.reduceEqDiff, Nat.reduceSub, Nat.reduceLeDiff, Nat.reduceAdd, Int.reduceEq, Int.reduceLT, Int.reduceLE]
   refine call_with (okZeroR _ _) ?_
   (try simp only [bK1, bK2, bK3, bK4, bK5, bK6, bK7, bK8]); simp (maxSteps := 10000000) (disch := omega) only [evE_len, hz1, hz2, hnm, hgo, hba, hof, hda, hwa, eb, go_sem, ↓reduceIte, Nat.reduceEqDiff, Nat.reduceSub, Nat.reduceLeDiff, Nat.reduceAdd, Int.reduceEq, Int.reduceLT, Int.reduceLE]
 have eb : madeB e false false false false false false false = true := by simp only [madeB, hz1, hz2, hnm, hgo, hba, hof, hda, hwa, decide_true, decide_false, Bool.or_false, Bool.false_or, Bool.true_or, Bool.and_true, Bool.true_and, Bool.and_false, Bool.false_and, Bool.and_self, Bool.or_self]
 (try simp only [bK1, bK2, bK3, bK4, bK5, bK6, bK7, bK8]); simp (maxSteps := 10000000) (disch := omega) only [ir80, evE_len, hz1, hz2, hnm, hgo, hba, hof, hda, hwa, eb, go_sem, ↓reduceIte, Nat.reduceEqDiff, Nat.reduceSub, Nat.reduceLeDiff, Nat.reduceAdd, Int.reduceEq, Int.reduceLT, Int.reduceLE]
 refine call_with (okZeroR _ _) ?_
 (try simp only [bK1, bK2, bK3, bK4, bK5, bK6, bK7, bK8]); simp (maxSteps := 10000000) (disch := omega) only [evE_len, hz1, hz2, hnm, hgo, hba, hof, hda, hwa, eb, go_sem, ↓reduceIte, Nat.reduceEqDiff, Nat.reduceSub, Nat.reduceLeDiff, Nat.reduceAdd, Int.reduceEq, Int.reduceLT, Int.reduceLE]
 refine call_with (okZeroR _ _) ?_
 (try simp only [bK1, bK2, bK3, bK4, bK5, bK6, bK7, bK8]); simp (maxSteps := 10000000) (disch := omega) only [evE_len, hz1, hz2, hnm, hgo, hba, hof, hda, hwa, eb, go_sem, ↓reduceIte, Nat.reduceEqDiff, Nat.reduceSub, Nat.reduceLeDiff, Nat.reduceAdd, Int.reduceEq, Int.reduceLT, Int.reduceLE]
end Go.Proofs.Ytfkmlmckihmihaa.Fw
namespace Go.Proofs.Ytfkmlmckihmihaa.Fw
open Go.RowKit Go.Proofs
theorem ImpB_it (l p l' p') : ImpB (.it l p) (.it l' p') = (l = l' ∧ p = p') := (rfl)
attribute [go_sem] ImpB_it
def okChB (b : UInt8) : Bool := decide ((97 ≤ b.toNat ∧ b.toNat ≤ 122) ∨ (65 ≤ b.toNat ∧ b.toNat ≤ 90) ∨ (48 ≤ b.toNat ∧ b.toNat ≤ 57) ∨ b.toNat = 46 ∨ b.toNat = 95 ∨ b.toNat = 45)
def nameB (s : List UInt8) : Bool := decide (1 ≤ s.length ∧ s.length ≤ 12 ∧ s ≠ [46] ∧ s ≠ [46, 46]) && s.all okChB
theorem dec_ascii {s : List UInt8} {pos : Nat} (h : pos < s.length) (ha : (s.getD pos 0).toNat < 128) : decL s pos = ((s.getD pos 0).toNat, 1) := by
 have hs : pos < (⟨s.toArray⟩ : ByteArray).size := by simpa [ByteArray.size] using h
 have e : (⟨s.toArray⟩ : ByteArray)[pos]'hs = s.getD pos 0 := by
  rw [List.getD_eq_getElem?_getD, List.getElem?_eq_getElem h]; rfl
 have := decode_ascii ⟨s.toArray⟩ pos hs (by rw [e]; exact ha)
 unfold decL
 rw [this, e]
theorem dec_big {s : List UInt8} {pos : Nat} (h : pos < s.length) (ha : ¬ (s.getD pos 0).toNat < 128) : 128 ≤ (decL s pos).1 ∧ (decL s pos).1 < 2147483648 := by
 have hs : pos < (⟨s.toArray⟩ : ByteArray).size := by simpa [ByteArray.size] using h
 have e : (⟨s.toArray⟩ : ByteArray).get! (pos + 0) = s.getD pos 0 := by
  show (⟨s.toArray⟩ : ByteArray).get! pos = _
  have : (⟨s.toArray⟩ : ByteArray)[pos]'hs = s.getD pos 0 := by
   rw [List.getD_eq_getElem?_getD, List.getElem?_eq_getElem h]; rfl
  rw [← this]
  show (s.toArray)[pos]! = (s.toArray)[pos]
  rw [getElem!_pos]
 unfold decL Utf8.decode
 simp only [e, ha, if_false]
 unfold Utf8.runeError
 split
 · split
   · simp only; omega
   · simp
 · split
   · split
     · rename_i hc; simp only [Bool.and_eq_true, decide_eq_true_eq] at hc ⊢; omega
     · simp
   · split
     · split
       · rename_i hc; simp only [Bool.and_eq_true, decide_eq_true_eq] at hc ⊢; omega
       · simp
     · simp
theorem enc_last (n : Nat) (h : 128 ≤ n) : (encL n).length ≤ 4 ∧ 2 ≤ (encL n).length ∧ 128 ≤ ((encL n).getD ((encL n).length - 1) 0).toNat := by
 have key : ∀ c : Nat, 128 ≤ c → ∀ l : List UInt8, l = (if c < 0x80 then [UInt8.ofNat c] else if c < 0x800 then [UInt8.ofNat (0xC0 + c / 64), UInt8.ofNat (0x80 + c % 64)] else if c < 0x10000 then [UInt8.ofNat (0xE0 + c / 4096), UInt8.ofNat (0x80 + c / 64 % 64), UInt8.ofNat (0x80 + c % 64)] else [UInt8.ofNat (0xF0 + c / 262144), UInt8.ofNat (0x80 + c / 4096 % 64), UInt8.ofNat (0x80 + c / 64 % 64), UInt8.ofNat (0x80 + c % 64)]) → l.length ≤ 4 ∧ 2 ≤ l.length ∧ 128 ≤ (l.getD (l.length - 1) 0).toNat := by
  intro c hc l hl
  have hb : 128 ≤ (UInt8.ofNat (0x80 + c % 64)).toNat := by rw [UInt8.toNat_ofNat']; omega
  rw [if_neg (by omega)] at hl
  split at hl
  · subst hl; exact ⟨by simp, by simp, hb⟩
  · split at hl
    · subst hl; exact ⟨by simp, by simp, hb⟩
    · subst hl; exact ⟨by simp, by simp, hb⟩
 refine key (if Utf8.valid (n : Int) then n else 0xFFFD) (by split <;> omega) _ ?_
 unfold encL Utf8.encode Utf8.runeError
 simp only [Int.toNat_natCast]
 generalize (if Utf8.valid (n : Int) = true then n else 0xFFFD) = c
 split
 · rfl
 · split
   · rfl
   · split <;> rfl
theorem okIBS (s : List UInt8) (c : UInt8) {h} : ExtOk Try.prog 93 [.pv (.s s), .pv (.i .u8 c.toNat)] h (.pv (.i .i64 (Lib.indexByte s c))) := by
 intro F N ρ st a w hR hh vs hc
 simp only [ConcL] at hc
 obtain ⟨v, us, rfl, hv, u, us', rfl, hu, rfl⟩ := hc
 have hv := inv_s hv
 have hu := inv_i hu
 subst hv; subst hu
 refine ⟨_, ?_, conc_i⟩
 rw [run_callFunc_extern (fn := (Try.prog.funcs[93]?).getD default) (by kernel_rfl) (by kernel_rfl) (by kernel_rfl) (by kernel_rfl) (e := Extern.BytealgIndexByte.indexByte) (by kernel_rfl)]
 rw [Lib.run_indexByteString]
 simp
theorem okIBL (s : List UInt8) (c : UInt8) {h d} : FunOk Try.prog 92 [.pv (.s s), .pv (.i .u8 c.toNat)] h d (.pv (.i .i64 (Lib.indexByte s c))) [] := by
 refine fun_pure mixed fn92 (by simp) rfl rfl fun F => ?_
 (try simp only [bK1, bK2, bK3, bK4, bK5, bK6, bK7, bK8]); simp (maxSteps := 10000000) (disch := omega) only [ir92, go_sem, ↓reduceIte, Nat.reduceEqDiff, Nat.reduceSub, Nat.reduceLeDiff, Nat.reduceAdd, Int.reduceEq, Int.reduceLT, Int.reduceLE]
 refine call_ext (okIBS s c) ?_
 (try simp only [bK1, bK2, bK3, bK4, bK5, bK6, bK7, bK8]); simp (maxSteps := 10000000) (disch := omega) only [go_sem, ↓reduceIte, Nat.reduceEqDiff, Nat.reduceSub, Nat.reduceLeDiff, Nat.reduceAdd, Int.reduceEq, Int.reduceLT, Int.reduceLE]
theorem okIB (s : List UInt8) (c : UInt8) {h d} : FunOk Try.prog 88 [.pv (.s s), .pv (.i .u8 c.toNat)] h d (.pv (.i .i64 (Lib.indexByte s c))) [] := by
 refine fun_pure mixed fn88 (by simp) rfl rfl fun F => ?_
 (try simp only [bK1, bK2, bK3, bK4, bK5, bK6, bK7, bK8]); simp (maxSteps := 10000000) (disch := omega) only [ir88, go_sem, ↓reduceIte, Nat.reduceEqDiff, Nat.reduceSub, Nat.reduceLeDiff, Nat.reduceAdd, Int.reduceEq, Int.reduceLT, Int.reduceLE]
 refine call_with (okIBL s c) ?_
 (try simp only [bK1, bK2, bK3, bK4, bK5, bK6, bK7, bK8]); simp (maxSteps := 10000000) (disch := omega) only [go_sem, ↓reduceIte, Nat.reduceEqDiff, Nat.reduceSub, Nat.reduceLeDiff, Nat.reduceAdd, Int.reduceEq, Int.reduceLT, Int.reduceLE]
def validB (n : Nat) : Bool := decide (n < 55296 ∨ 57343 < n ∧ n ≤ 1114111)
theorem okValid (n : Nat) {h d} : FunOk Try.prog 89 [.pv (.i .i32 n)] h d (.pv (.b (validB n))) [] := by
 refine fun_pure mixed fn89 (by simp) rfl rfl fun F => ?_
 have h0 : (0 : Int) ≤ n := by omega
 by_cases h1 : (n : Int) < 55296
 · have e : validB n = true := decide_eq_true (by omega)
   (try simp only [bK1, bK2, bK3, bK4, bK5, bK6, bK7, bK8]); simp (maxSteps := 10000000) (disch := omega) only [ir89, h0, h1, e, go_sem, ↓reduceIte, Nat.reduceEqDiff, Nat.reduceSub, Nat.reduceLeDiff, Nat.reduceAdd, Int.reduceEq, Int.reduceLT, Int.reduceLE]
 by_cases h2 : (57343 : Int) < n
 · by_cases h3 : (n : Int) ≤ 1114111
   · have e : validB n = true := decide_eq_true (by omega)
     (try simp only [bK1, bK2, bK3, bK4, bK5, bK6, bK7, bK8]); simp (maxSteps := 10000000) (disch := omega) only [ir89, h0, h1, h2, h3, e, go_sem, ↓reduceIte, Nat.reduceEqDiff, Nat.reduceSub, Nat.reduceLeDiff, Nat.reduceAdd, Int.reduceEq, Int.reduceLT, Int.reduceLE]
   · have e : validB n = false := decide_eq_false (by omega)
     (try simp only [bK1, bK2, bK3, bK4, bK5, bK6, bK7, bK8]); simp (maxSteps := 10000000) (disch := omega) only [ir89, h0, h1, h2, h3, e, go_sem, ↓reduceIte, Nat.reduceEqDiff, Nat.reduceSub, Nat.reduceLeDiff, Nat.reduceAdd, Int.reduceEq, Int.reduceLT, Int.reduceLE]
 · have e : validB n = false := decide_eq_false (by omega)
   (try simp only [bK1, bK2, bK3, bK4, bK5, bK6, bK7, bK8]); simp (maxSteps := 10000000) (disch := omega) only [ir89, h0, h1, h2, e, go_sem, ↓reduceIte, Nat.reduceEqDiff, Nat.reduceSub, Nat.reduceLeDiff, Nat.reduceAdd, Int.reduceEq, Int.reduceLT, Int.reduceLE]
def ixD (n : Nat) : Int := if n < 128 then Lib.indexByte [46, 95, 45] (UInt8.ofNat n) else -1
def stFFFD (k : Nat) : FS := mk [(175, .p 175 0), (0, .pv (.s [46, 95, 45]))] [(175, some (.it [46, 95, 45] k))]
def stDef (rs : List UInt8) (i : Int) (_ : Unit) : FS := mk [(9, .pv (.i .i64 i)), (8, .pv (.i .i64 i)), (7, .pv (.s rs)), (10, .pv (.i .i64 0)), (0, .pv (.s [46, 95, 45]))] []
theorem enc_shape (n : Nat) (h : 128 ≤ n) : (∃ a b, encL n = [a, b] ∧ 128 ≤ b.toNat) ∨ (∃ a b c, encL n = [a, b, c] ∧ 128 ≤ c.toNat) ∨ (∃ a b c d, encL n = [a, b, c, d] ∧ 128 ≤ d.toNat) := by
 obtain ⟨h1, h2, h3⟩ := enc_last n h
 generalize encL n = l at *
 match l, h1, h2, h3 with
 | [a, b], _, _, h3 => exact .inl ⟨a, b, rfl, h3⟩
 | [a, b, c], _, _, h3 => exact .inr (.inl ⟨a, b, c, rfl, h3⟩)
 | [a, b, c, d], _, _, h3 => exact .inr (.inr ⟨a, b, c, d, rfl, h3⟩)
 | [], _, h2, _ => simp at h2
 | [a], _, h2, _ => simp at h2
 | a :: b :: c :: d :: e :: r, h1, _, _ => simp at h1
theorem ib_none {s : List UInt8} {b : UInt8} (h : s = [95, 45] ∨ s = [45] ∨ s = []) (hb : 128 ≤ b.toNat) : Lib.indexByte s b = -1 := by
 have ne : ∀ c : UInt8, c.toNat < 128 → (c == b) = false := fun c hc => by
  rw [beq_eq_false_iff_ne]; intro e; subst e; omega
 rcases h with rfl | rfl | rfl <;> simp [Lib.indexByte, ne 95 (by decide), ne 45 (by decide)]
set_option maxHeartbeats 4000000 in
theorem okIndexRune (n : Nat) (hn : n < 2147483648) {h d} : FunOk Try.prog 87 [.pv (.s [46, 95, 45]), .pv (.i .i32 n)] h d (.pv (.i .i64 (ixD n))) [] := by
 refine fun_pure mixed fn87 (by simp) rfl rfl fun F => ?_
 have h0 : (0 : Int) ≤ n := by omega
 by_cases h1 : (n : Int) < 128
 · have e : ixD n = Lib.indexByte [46, 95, 45] (UInt8.ofNat n) := by unfold ixD; rw [if_pos (by omega)]
   have ew : IntKind.u8.wrap (n : Int) = ((UInt8.ofNat n).toNat : Int) := wrap_u8_nat _
   (try simp only [bK1, bK2, bK3, bK4, bK5, bK6, bK7, bK8]); simp (maxSteps := 10000000) (disch := omega) only [ir87, h0, h1, ew, go_sem, ↓reduceIte, Nat.reduceEqDiff, Nat.reduceSub, Nat.reduceLeDiff, Nat.reduceAdd, Int.reduceEq, Int.reduceLT, Int.reduceLE]
   refine call_with (okIB _ _) ?_
   (try simp only [bK1, bK2, bK3, bK4, bK5, bK6, bK7, bK8]); simp (maxSteps := 10000000) (disch := omega) only [e, go_sem, ↓reduceIte, Nat.reduceEqDiff, Nat.reduceSub, Nat.reduceLeDiff, Nat.reduceAdd, Int.reduceEq, Int.reduceLT, Int.reduceLE]
 have e : ixD n = -1 := by unfold ixD; rw [if_neg (by omega)]
 by_cases h2 : (n : Int) = 65533
 · (try simp only [bK1, bK2, bK3, bK4, bK5, bK6, bK7, bK8]); simp (maxSteps := 10000000) (disch := omega) only [ir87, h0, h1, h2, go_sem, ↓reduceIte, Nat.reduceEqDiff, Nat.reduceSub, Nat.reduceLeDiff, Nat.reduceAdd, Int.reduceEq, Int.reduceLT, Int.reduceLE]
   have hl3 : (([46, 95, 45] : List UInt8).length) = 3 := rfl
   have d0 : decL [46, 95, 45] 0 = (46, 1) := by decide
   have d1 : decL [46, 95, 45] 1 = (95, 1) := by decide
   have d2 : decL [46, 95, 45] 2 = (45, 1) := by decide
   refine loop_ok mixed stFFFD (fun k => k ≤ 3) (fun k => 3 - k) 0 (by omega) (weak_mk ?_ ?_) fun k hk => ?_
   · (try simp only [bK1, bK2, bK3, bK4, bK5, bK6, bK7, bK8]); simp (maxSteps := 10000000) (disch := omega) only [go_sem, ↓reduceIte, Nat.reduceEqDiff, Nat.reduceSub, Nat.reduceLeDiff, Nat.reduceAdd, Int.reduceEq, Int.reduceLT, Int.reduceLE]
   · (try simp only [bK1, bK2, bK3, bK4, bK5, bK6, bK7, bK8]); simp (maxSteps := 10000000) (disch := omega) only [go_sem, ↓reduceIte, Nat.reduceEqDiff, Nat.reduceSub, Nat.reduceLeDiff, Nat.reduceAdd, Int.reduceEq, Int.reduceLT, Int.reduceLE]
   by_cases hlt : k < 3
   · have : k = 0 ∨ k = 1 ∨ k = 2 := by omega
     rcases this with rfl | rfl | rfl
     all_goals (try simp only [bK1, bK2, bK3, bK4, bK5, bK6, bK7, bK8]); simp (maxSteps := 10000000) (disch := omega) only [stFFFD, hl3, d0, d1, d2, go_sem, ↓reduceIte, Nat.reduceEqDiff, Nat.reduceSub, Nat.reduceLeDiff, Nat.reduceAdd, Int.reduceEq, Int.reduceLT, Int.reduceLE]
     · refine loop_next (x := (0 : Nat)) (1 : Nat) _ _ rfl (by omega) (by omega) ?_ ?_
       · (try simp only [bK1, bK2, bK3, bK4, bK5, bK6, bK7, bK8]); simp (maxSteps := 10000000) (disch := omega) only [go_sem, ↓reduceIte, Nat.reduceEqDiff, Nat.reduceSub, Nat.reduceLeDiff, Nat.reduceAdd, Int.reduceEq, Int.reduceLT, Int.reduceLE]
       · (try simp only [bK1, bK2, bK3, bK4, bK5, bK6, bK7, bK8]); simp (maxSteps := 10000000) (disch := omega) only [go_sem, ↓reduceIte, Nat.reduceEqDiff, Nat.reduceSub, Nat.reduceLeDiff, Nat.reduceAdd, Int.reduceEq, Int.reduceLT, Int.reduceLE]
     · refine loop_next (x := (1 : Nat)) (2 : Nat) _ _ rfl (by omega) (by omega) ?_ ?_
       · (try simp only [bK1, bK2, bK3, bK4, bK5, bK6, bK7, bK8]); simp (maxSteps := 10000000) (disch := omega) only [go_sem, ↓reduceIte, Nat.reduceEqDiff, Nat.reduceSub, Nat.reduceLeDiff, Nat.reduceAdd, Int.reduceEq, Int.reduceLT, Int.reduceLE]
       · (try simp only [bK1, bK2, bK3, bK4, bK5, bK6, bK7, bK8]); simp (maxSteps := 10000000) (disch := omega) only [go_sem, ↓reduceIte, Nat.reduceEqDiff, Nat.reduceSub, Nat.reduceLeDiff, Nat.reduceAdd, Int.reduceEq, Int.reduceLT, Int.reduceLE]
     · refine loop_next (x := (2 : Nat)) (3 : Nat) _ _ rfl (by omega) (by omega) ?_ ?_
       · (try simp only [bK1, bK2, bK3, bK4, bK5, bK6, bK7, bK8]); simp (maxSteps := 10000000) (disch := omega) only [go_sem, ↓reduceIte, Nat.reduceEqDiff, Nat.reduceSub, Nat.reduceLeDiff, Nat.reduceAdd, Int.reduceEq, Int.reduceLT, Int.reduceLE]
       · (try simp only [bK1, bK2, bK3, bK4, bK5, bK6, bK7, bK8]); simp (maxSteps := 10000000) (disch := omega) only [go_sem, ↓reduceIte, Nat.reduceEqDiff, Nat.reduceSub, Nat.reduceLeDiff, Nat.reduceAdd, Int.reduceEq, Int.reduceLT, Int.reduceLE]
   · obtain rfl : k = 3 := by omega
     (try simp only [bK1, bK2, bK3, bK4, bK5, bK6, bK7, bK8]); simp (maxSteps := 10000000) (disch := omega) only [stFFFD, hl3, e, go_sem, ↓reduceIte, Nat.reduceEqDiff, Nat.reduceSub, Nat.reduceLeDiff, Nat.reduceAdd, Int.reduceEq, Int.reduceLT, Int.reduceLE]
 · (try simp only [bK1, bK2, bK3, bK4, bK5, bK6, bK7, bK8]); simp (maxSteps := 10000000) (disch := omega) only [ir87, h0, h1, h2, go_sem, ↓reduceIte, Nat.reduceEqDiff, Nat.reduceSub, Nat.reduceLeDiff, Nat.reduceAdd, Int.reduceEq, Int.reduceLT, Int.reduceLE]
   refine call_with (okValid n) ?_
   cases hv : validB n with
   | false => (try simp only [bK1, bK2, bK3, bK4, bK5, bK6, bK7, bK8]); simp (maxSteps := 10000000) (disch := omega) only [hv, e, go_sem, ↓reduceIte, Nat.reduceEqDiff, Nat.reduceSub, Nat.reduceLeDiff, Nat.reduceAdd, Int.reduceEq, Int.reduceLT, Int.reduceLE]
   | true =>
     have hl3 : (([46, 95, 45] : List UInt8).length : Int) = 3 := rfl
     rcases enc_shape n (by omega) with ⟨a, b, he, hb⟩ | ⟨a, b, c, he, hb⟩ | ⟨a, b, c, d, he, hb⟩
     ·
      have hlen : (([a, b] : List UInt8).length : Int) = 2 := rfl
      have hg : ((([46, 95, 45] : List UInt8).getD (Int.toNat 1) 0).toNat : Int) = 95 := rfl
      have hg' : ([a, b] : List UInt8).getD (Int.toNat 1) 0 = b := rfl
      have hne : ¬ (95 : Int) = (b.toNat : Int) := by omega
      have hdr : List.drop ((1 : Int) + 1).toNat (List.take 3 ([46, 95, 45] : List UInt8)) = [45] := rfl
      have hib : Lib.indexByte [45] b = -1 := ib_none (by simp) hb
      (try simp only [bK1, bK2, bK3, bK4, bK5, bK6, bK7, bK8]); simp (maxSteps := 10000000) (disch := omega) only [hv, he, hlen, go_sem, ↓reduceIte, Nat.reduceEqDiff, Nat.reduceSub, Nat.reduceLeDiff, Nat.reduceAdd, Int.reduceEq, Int.reduceLT, Int.reduceLE]
      refine loop_ok mixed (stDef [a, b] 1) (fun _ => True) (fun _ => 0) () trivial (weak_mk ?_ ?_) fun _ _ => ?_
      · (try simp only [bK1, bK2, bK3, bK4, bK5, bK6, bK7, bK8]); simp (maxSteps := 10000000) (disch := omega) only [go_sem, ↓reduceIte, Nat.reduceEqDiff, Nat.reduceSub, Nat.reduceLeDiff, Nat.reduceAdd, Int.reduceEq, Int.reduceLT, Int.reduceLE]
      · (try simp only [bK1, bK2, bK3, bK4, bK5, bK6, bK7, bK8]); simp (maxSteps := 10000000) (disch := omega) only [go_sem, ↓reduceIte, Nat.reduceEqDiff, Nat.reduceSub, Nat.reduceLeDiff, Nat.reduceAdd, Int.reduceEq, Int.reduceLT, Int.reduceLE]
      (try simp only [bK1, bK2, bK3, bK4, bK5, bK6, bK7, bK8]); simp (maxSteps := 10000000) (disch := omega) only [stDef, hl3, hlen, hg, hg', hne, hdr, go_sem, ↓reduceIte, Nat.reduceEqDiff, Nat.reduceSub, Nat.reduceLeDiff, Nat.reduceAdd, Int.reduceEq, Int.reduceLT, Int.reduceLE]
      refine call_with (okIB [45] b) ?_
      (try simp only [bK1, bK2, bK3, bK4, bK5, bK6, bK7, bK8]); simp (maxSteps := 10000000) (disch := omega) only [hib, e, go_sem, ↓reduceIte, Nat.reduceEqDiff, Nat.reduceSub, Nat.reduceLeDiff, Nat.reduceAdd, Int.reduceEq, Int.reduceLT, Int.reduceLE]
     ·
      have hlen : (([a, b, c] : List UInt8).length : Int) = 3 := rfl
      have hg : ((([46, 95, 45] : List UInt8).getD (Int.toNat 2) 0).toNat : Int) = 45 := rfl
      have hg' : ([a, b, c] : List UInt8).getD (Int.toNat 2) 0 = c := rfl
      have hne : ¬ (45 : Int) = (c.toNat : Int) := by omega
      have hdr : List.drop ((2 : Int) + 1).toNat (List.take 3 ([46, 95, 45] : List UInt8)) = [] := rfl
      have hib : Lib.indexByte [] c = -1 := ib_none (by simp) hb
      (try simp only [bK1, bK2, bK3, bK4, bK5, bK6, bK7, bK8]); simp (maxSteps := 10000000) (disch := omega) only [hv, he, hlen, go_sem, ↓reduceIte, Nat.reduceEqDiff, Nat.reduceSub, Nat.reduceLeDiff, Nat.reduceAdd, Int.reduceEq, Int.reduceLT, Int.reduceLE]
      refine loop_ok mixed (stDef [a, b, c] 2) (fun _ => True) (fun _ => 0) () trivial (weak_mk ?_ ?_) fun _ _ => ?_
      · (try simp only [bK1, bK2, bK3, bK4, bK5, bK6, bK7, bK8]); simp (maxSteps := 10000000) (disch := omega) only [go_sem, ↓reduceIte, Nat.reduceEqDiff, Nat.reduceSub, Nat.reduceLeDiff, Nat.reduceAdd, Int.reduceEq, Int.reduceLT, Int.reduceLE]
      · (try simp only [bK1, bK2, bK3, bK4, bK5, bK6, bK7, bK8]); simp (maxSteps := 10000000) (disch := omega) only [go_sem, ↓reduceIte, Nat.reduceEqDiff, Nat.reduceSub, Nat.reduceLeDiff, Nat.reduceAdd, Int.reduceEq, Int.reduceLT, Int.reduceLE]
      (try simp only [bK1, bK2, bK3, bK4, bK5, bK6, bK7, bK8]); simp (maxSteps := 10000000) (disch := omega) only [stDef, hl3, hlen, hg, hg', hne, hdr, go_sem, ↓reduceIte, Nat.reduceEqDiff, Nat.reduceSub, Nat.reduceLeDiff, Nat.reduceAdd, Int.reduceEq, Int.reduceLT, Int.reduceLE]
      refine call_with (okIB [] c) ?_
      (try simp only [bK1, bK2, bK3, bK4, bK5, bK6, bK7, bK8]); simp (maxSteps := 10000000) (disch := omega) only [hib, e, go_sem, ↓reduceIte, Nat.reduceEqDiff, Nat.reduceSub, Nat.reduceLeDiff, Nat.reduceAdd, Int.reduceEq, Int.reduceLT, Int.reduceLE]
     · have hlen : (([a, b, c, d] : List UInt8).length : Int) = 4 := rfl
       (try simp only [bK1, bK2, bK3, bK4, bK5, bK6, bK7, bK8]); simp (maxSteps := 10000000) (disch := omega) only [hv, he, hlen, go_sem, ↓reduceIte, Nat.reduceEqDiff, Nat.reduceSub, Nat.reduceLeDiff, Nat.reduceAdd, Int.reduceEq, Int.reduceLT, Int.reduceLE]
       refine loop_ok mixed (stDef [a, b, c, d] 3) (fun _ => True) (fun _ => 0) () trivial (weak_mk ?_ ?_) fun _ _ => ?_
       · (try simp only [bK1, bK2, bK3, bK4, bK5, bK6, bK7, bK8]); simp (maxSteps := 10000000) (disch := omega) only [go_sem, ↓reduceIte, Nat.reduceEqDiff, Nat.reduceSub, Nat.reduceLeDiff, Nat.reduceAdd, Int.reduceEq, Int.reduceLT, Int.reduceLE]
       · (try simp only [bK1, bK2, bK3, bK4, bK5, bK6, bK7, bK8]); simp (maxSteps := 10000000) (disch := omega) only [go_sem, ↓reduceIte, Nat.reduceEqDiff, Nat.reduceSub, Nat.reduceLeDiff, Nat.reduceAdd, Int.reduceEq, Int.reduceLT, Int.reduceLE]
       (try simp only [bK1, bK2, bK3, bK4, bK5, bK6, bK7, bK8]); simp (maxSteps := 10000000) (disch := omega) only [stDef, hl3, hlen, e, go_sem, ↓reduceIte, Nat.reduceEqDiff, Nat.reduceSub, Nat.reduceLeDiff, Nat.reduceAdd, Int.reduceEq, Int.reduceLT, Int.reduceLE]
end Go.Proofs.Ytfkmlmckihmihaa.Fw
