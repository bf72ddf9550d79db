/- What the functions compute that the laws of this seat reach. -/
import Derived.Test.YthleeikkpjiicaaDoorIr
import Derived.OpenShut
import Derived.ShutString
import Derived.ChangeOld
import Derived.SizedLaws
import Derived.ChangeOld
import Derived.KernelRfl
import Derived.LaidSub
import Derived.Lib.AppendIntMem
import Derived.Lib.Overlaps
import Derived.OpenShut
import Derived.Shelf.Strconv.Itoa3
import Derived.ShutString
import Derived.SizedLaws
import Derived.Test.YthleeikkpjiicaaDoorProg
set_option linter.unusedVariables false
set_option linter.unusedSimpArgs false
set_option linter.unusedSectionVars false
set_option maxRecDepth 100000
namespace Go.Proofs.YthleeikkpjiicaaDoor.Fw
open Go.RowKit Go.Proofs
end Go.Proofs.YthleeikkpjiicaaDoor.Fw
namespace Go.Proofs.YthleeikkpjiicaaDoor.Fw
open Go.RowKit
noncomputable abbrev Gz (w : World) : View := Aj w fun _ => False
theorem P2 {w : World} {a : Addr} {v : Value} (h : w.cell? a = some v) : a.spot = none ∧ ∃ arr, Gz w a.block = some arr ∧ arr[a.off]? = some v := by
 unfold World.cell? at h;split at h
 · rename_i c ty fr hb;split at h
   · cases h
   · rename_i hs;refine ⟨by cases hx : a.spot <;> simp_all, c, ?_, h⟩;unfold Gz Aj Bn;simp [hb]
 · cases h
inductive Sh where
 | int (k : IntKind) | bool | str | arr (n : Nat) (s : Sh) | st (l : List Sh) | sl (s : Sh)
mutual
def Sh.w : Sh → Nat
 | .arr n s => n * s.w
 | .st l => Sh.wL l
 | _ => 1
def Sh.wL : List Sh → Nat
 | [] => 0
 | s :: l => s.w + Sh.wL l
end
mutual
def Ro (P : Program) : Sh → TypeId → Bool
 | .int k, t => match P.underlying t with | some (.int k') => decide (k = k') | _ => false
 | .bool, t => match P.underlying t with | some .bool => true | _ => false
 | .str, t => match P.underlying t with | some .string => true | _ => false
 | .arr n s, t => match P.underlying t with | some (.array n' e) => decide (n = n') && decide (P.cellsOf e = s.w) && decide (P.cellsOf t = n * s.w) && Ro P s e | _ => false
 | .st l, t => match P.underlying t with | some (.struct fs) => decide (P.cellsOf t = Sh.wL l) && Aag P l fs.toList 0 | _ => false
 | .sl s, t => match P.underlying t with | some (.slice e) => decide (P.cellsOf e = s.w) && decide (0 < s.w) && Ro P s e | _ => false
def Aag (P : Program) : List Sh → List Field → Nat → Bool
 | [], [], _ => true
 | s :: l, f :: fs, off => decide (f.offset = off) && decide (P.cellsOf f.type = s.w) && Ro P s f.type && Aag P l fs (off + s.w)
 | _, _, _ => false
end
mutual
def GC : Sh → List PV → Prop
 | .int k, cs => ∃ n, cs = [.i k n] ∧ (Lit.int k n).wf = true
 | .bool, cs => ∃ b, cs = [.b b]
 | .str, cs => ∃ l, cs = [.s l] ∧ l.length ≤ maxLen
 | .arr n s, cs => ∃ cc : List (List PV), cs = cc.flatten ∧ cc.length = n ∧ ∀ c ∈ cc, GC s c
 | .st l, cs => GCL l cs
 | .sl s, cs => ∃ es, cs = [.sl false s.w es] ∧ es.length ≤ maxLen ∧ ∀ c ∈ es, GC s c
def GCL : List Sh → List PV → Prop
 | [], cs => cs = []
 | s :: l, cs => ∃ c cs', cs = c ++ cs' ∧ GC s c ∧ GCL l cs'
end
theorem S2 {w : Nat} : ∀ {cc : List (List PV)}, (∀ c ∈ cc, c.length = w) → cc.flatten.length = cc.length * w
 | [], _ => by simp
 | c :: cc, h => by
   rw [List.flatten_cons, List.length_append, S2 fun c hc => h c (by simp [hc]), h c (by simp), List.length_cons, Nat.add_mul]; omega
mutual
theorem GC.len : ∀ {s : Sh} {cs : List PV}, GC s cs → cs.length = s.w
 | .int k, cs, h => by obtain ⟨n, rfl, _⟩ := h; rfl
 | .bool, cs, h => by obtain ⟨n, rfl⟩ := h; rfl
 | .str, cs, h => by obtain ⟨n, rfl, _⟩ := h; rfl
 | .arr n s, cs, h => by
   simp only [GC] at h;obtain ⟨cc, rfl, rfl, h⟩ := h;rw [S2 fun c hc => GC.len (h c hc)]; rfl
 | .st l, cs, h => by simp only [GC] at h; simp only [Sh.w]; exact GCL.len h
 | .sl s, cs, h => by obtain ⟨n, rfl, _⟩ := h; rfl
theorem GCL.len : ∀ {l : List Sh} {cs : List PV}, GCL l cs → cs.length = Sh.wL l
 | [], cs, h => by simp only [GCL] at h; subst h; rfl
 | s :: l, cs, h => by
   simp only [GCL] at h;obtain ⟨c, cs', rfl, h1, h2⟩ := h;rw [List.length_append, GC.len h1, GCL.len h2]; rfl
end
theorem Adu {V : View} {s : Sh} : ∀ (n : Nat) (vs : List Value), vs.length = n * s.w → (∀ i, i < n → ∃ c, GC s c ∧ PCells V c ((vs.drop (i * s.w)).take s.w)) → ∃ cc : List (List PV), cc.length = n ∧ (∀ c ∈ cc, GC s c) ∧ PCells V cc.flatten vs
 | 0, vs, hl, h => by
   have : vs = [] := List.eq_nil_of_length_eq_zero (by omega);subst this;exact ⟨[], rfl, by simp, PCells.nil⟩
 | n + 1, vs, hl, h => by
   rw [Nat.add_mul] at hl;obtain ⟨c, g, p⟩ := h 0 (by omega);rw [Nat.zero_mul, List.drop_zero] at p;obtain ⟨cc, e1, e2, e3⟩ := Adu (V := V) (s := s) n (vs.drop s.w) (by rw [List.length_drop]; omega) fun i hi => by
    obtain ⟨c', g', p'⟩ := h (i + 1) (by omega);refine ⟨c', g', ?_⟩;rw [List.drop_drop, show s.w + i * s.w = (i + 1) * s.w from by rw [Nat.add_mul]; omega];exact p'
   refine ⟨c :: cc, by simp [e1], fun x hx => ?_, ?_⟩
   · rcases List.mem_cons.1 hx with rfl | hx
     · exact g
     · exact e2 x hx
   · rw [List.flatten_cons];have := PCells.append p e3
     rwa [List.take_append_drop] at this
theorem Ah4 {a : Addr} (h : a.spot = none) (i j : Nat) : (a.add i).add j = ⟨a.block, a.off + (i + j), none⟩ := by
 obtain ⟨b, o, sp⟩ := a;simp only at h; subst h;unfold Addr.add;by_cases hi : i = 0
 · subst hi;by_cases hj : j = 0
   · subst hj; simp
   · simp [hj]
 · by_cases hj : j = 0
   · subst hj; simp [hi]
   · simp [hi, hj]; omega
theorem Aaa {w : World} {s : Sh} {a : Addr} {len cap : Nat} (hcap : len ≤ cap) (hw : 0 < s.w)
 (h : ∀ i, i < len → ∃ c vs, GC s c ∧ PCells (Gz w) c vs ∧ w.cells? 0 (a.add (i * s.w)) s.w = some vs) :
 ∃ es : List (List PV), es.length = len ∧ (∀ c ∈ es, GC s c) ∧ PConc (Gz w) (.sl false s.w es) (.slice (some a) len cap) := by
 by_cases h0 : len = 0
 · subst h0;exact ⟨[], rfl, by simp, .sl false s.w [] (some a) cap (fun _ _ => undef) 0 0 #[] (by simp) (by simp) (by simp) (by simp) (by simp) (by simp)⟩
 · have h' : ∀ i, ∃ c vs, i < len → GC s c ∧ PCells (Gz w) c vs ∧ w.cells? 0 (a.add (i * s.w)) s.w = some vs := fun i => by
    by_cases hi : i < len
    · obtain ⟨c, vs, h1⟩ := h i hi; exact ⟨c, vs, fun _ => h1⟩
    · exact ⟨[], [], fun h => absurd h hi⟩
   obtain ⟨c, hc⟩ := Classical.axiomOfChoice h';obtain ⟨vs, hv⟩ := Classical.axiomOfChoice hc;obtain ⟨g0, p0, k0⟩ := hv 0 (by omega);obtain ⟨_, l0, c0⟩ := World.cells?_some k0;have c00 := c0 0 hw;have hlen0 : 0 < (vs 0).length := by omega
   rw [List.getElem?_eq_getElem hlen0, Nat.zero_mul] at c00;have e0 : (a.add 0).add 0 = a := by simp [Addr.add]
   rw [e0] at c00;obtain ⟨hs, arr, harr, _⟩ := P2 c00;have hget : ∀ i j, i < len → j < s.w → arr[a.off + (i * s.w + j)]? = (vs i)[j]? := fun i j hi hj => by
    obtain ⟨_, _, k⟩ := hv i hi;obtain ⟨_, ll, cc⟩ := World.cells?_some k;have h1 := cc j hj;have hlt : j < (vs i).length := by omega
    rw [List.getElem?_eq_getElem hlt, Ah4 hs] at h1;obtain ⟨_, arr', ha', h2⟩ := P2 h1;simp only at ha' h2;rw [harr] at ha'; cases ha';rw [h2, List.getElem?_eq_getElem hlt]
   have hel : ∀ i, i < len → ((List.range len).map c)[i]? = some (c i) := fun i hi => by simp [hi]
   refine ⟨(List.range len).map c, by simp, fun x hx => ?_, ?_⟩
   · obtain ⟨i, hi, rfl⟩ := List.mem_map.1 hx;exact (hv i (by simpa using hi)).1
   · have e := PConc.sl (V := Gz w) false s.w ((List.range len).map c) (some a) cap (fun i j => (vs i).getD j undef) a.block a.off arr (by simpa using hcap) (by simp) (fun x hx => by
      obtain ⟨i, hi, rfl⟩ := List.mem_map.1 hx;exact (hv i (by simpa using hi)).1.len) (fun _ => by
      obtain ⟨b, o, sp⟩ := a;simp only at hs; subst hs;exact ⟨rfl, harr⟩) (fun i j hi hj => by
      have hi' : i < len := by simpa using hi
      rw [hget i j hi' hj];have : j < (vs i).length := by
       obtain ⟨_, ll, _⟩ := World.cells?_some (hv i hi').2.2; omega
      simp [List.getD_eq_getElem?_getD, this]) (fun i j x y hx hy => by
      have hi' : i < len := by
       have := (List.getElem?_eq_some_iff.1 hx).1; simpa using this
      rw [hel i hi'] at hx; cases hx;obtain ⟨v, hv1, hv2⟩ := (hv i hi').2.1.2 j y hy;simp only [List.getD_eq_getElem?_getD, hv1, Option.getD_some]; exact hv2)
     simpa using e
section
variable {H : Type} {enc : TypeId × Value → H} {P : Program} {w : World} {spare : Nat → Bool} {held : Bool}
mutual
theorem Ma : ∀ (s : Sh) {t : TypeId} {fuel : Nat} {vs : List Value} {x}, Ro P s t = true → DataW.trod enc P w 0 spare held fuel t vs = some x → ∃ cs, GC s cs ∧ PCells (Gz w) cs vs
 | .int k, t, fuel, vs, x, hs, h => by
   simp only [Ro] at hs;split at hs
   · rename_i k' hu;obtain rfl := of_decide_eq_true hs;obtain ⟨n, rfl, _, hw⟩ := DataW.trod_int hu h;exact ⟨[.i k n], ⟨n, rfl, hw⟩, PCells.cons (.i _ _) PCells.nil⟩
   · cases hs
 | .bool, t, fuel, vs, x, hs, h => by
   simp only [Ro] at hs;split at hs
   · rename_i hu;obtain ⟨n, rfl, _⟩ := DataW.trod_bool hu h;exact ⟨[.b n], ⟨n, rfl⟩, PCells.cons (.b _) PCells.nil⟩
   · cases hs
 | .str, t, fuel, vs, x, hs, h => by
   simp only [Ro] at hs;split at hs
   · rename_i hu;obtain ⟨b, rfl, _, hl⟩ := DataW.trod_string hu h;refine ⟨[.s b.data.toList], ⟨b.data.toList, rfl, by simpa using hl⟩, PCells.cons ?_ PCells.nil⟩;have := PConc.s (V := Gz w) b.data.toList;simpa using this
   · cases hs
 | .arr n s, t, fuel, vs, x, hs, h => by
   simp only [Ro] at hs;split at hs
   · rename_i n' e hu;simp only [Bool.and_eq_true, decide_eq_true_eq] at hs;obtain ⟨⟨⟨rfl, h1⟩, h2⟩, h3⟩ := hs;obtain ⟨xs, m, rfl, _, hl, hx, hg⟩ := DataW.trod_array hu h;rw [h1] at hg;obtain ⟨cc, e1, e2, e3⟩ := Adu (V := Gz w) (s := s) n vs (by rw [hl, h2]) fun i hi => by
      have := hg i hi;rw [List.getElem?_eq_getElem (by omega)] at this;exact Ma s h3 this
     exact ⟨cc.flatten, by simp only [GC]; exact ⟨cc, rfl, e1, e2⟩, e3⟩
   · cases hs
 | .st l, t, fuel, vs, x, hs, h => by
   simp only [Ro] at hs;split at hs
   · rename_i fs hu;simp only [Bool.and_eq_true, decide_eq_true_eq] at hs;obtain ⟨h2, h3⟩ := hs;obtain ⟨xs, m, rfl, _, hl, hx, hg⟩ := DataW.trod_struct hu h;obtain ⟨cs, e1, e2⟩ := Rr l (off := 0) (vs := vs) h3 fun f hf => by
      obtain ⟨i, hi⟩ := List.mem_iff_getElem?.1 hf;have hi2 : fs[i]? = some f := by simpa using hi
      have := hg i f hi2;have hlt := (Array.getElem?_eq_some_iff.1 hi2).1;rw [List.getElem?_eq_getElem (by omega)] at this;exact ⟨_, _, this⟩
     rw [List.drop_zero, ← h2, ← hl, List.take_length] at e2;exact ⟨cs, by simp only [GC]; exact e1, e2⟩
   · cases hs
 | .sl s, t, fuel, vs, x, hs, h => by
   simp only [Ro] at hs;split at hs
   · rename_i e hu;simp only [Bool.and_eq_true, decide_eq_true_eq] at hs;obtain ⟨⟨h1, h2⟩, h3⟩ := hs;rcases DataW.trod_slice hu h with ⟨rfl, _⟩ | ⟨a, len, cap, Bl, rest, n, rfl, rfl, _, _, hl, hm, hle, hg, _⟩
     · exact ⟨[.sl false s.w []], by simp only [GC]; exact ⟨[], rfl, by simp, by simp⟩, PCells.cons (.sl false s.w [] none 0 (fun _ _ => undef) 0 0 #[] (by simp) (by simp) (by simp) (by simp) (by simp) (by simp)) PCells.nil⟩
     · rw [h1] at hg;obtain ⟨es, e1, e2, e3⟩ := Aaa (w := w) (s := s) (a := a) hl h2 fun i hi => by
        have h4 := hg i hi;rw [List.getElem?_eq_getElem (by omega)] at h4;obtain ⟨vs, h5, h6⟩ := Option.bind_eq_some_iff.1 h4;obtain ⟨c, g, p⟩ := Ma s h3 h6;exact ⟨c, vs, g, p, h5⟩
       exact ⟨[.sl false s.w es], by simp only [GC]; exact ⟨es, rfl, by omega, e2⟩, PCells.cons e3 PCells.nil⟩
   · cases hs
theorem Rr : ∀ (l : List Sh) {fs : List Field} {off : Nat} {vs : List Value}, Aag P l fs off = true →
 (∀ f ∈ fs, ∃ n x, DataW.trod enc P w 0 spare held n f.type ((vs.drop f.offset).take (P.cellsOf f.type)) = some x) → ∃ cs, GCL l cs ∧ PCells (Gz w) cs ((vs.drop off).take (Sh.wL l))
 | [], fs, off, vs, hs, h => ⟨[], by simp only [GCL], by simp only [Sh.wL, List.take_zero]; exact PCells.nil⟩
 | s :: l, [], off, vs, hs, h => by simp [Aag] at hs
 | s :: l, f :: fs, off, vs, hs, h => by
   simp only [Aag, Bool.and_eq_true, decide_eq_true_eq] at hs;obtain ⟨⟨⟨h1, h2⟩, h3⟩, h4⟩ := hs;obtain ⟨n, x, hx⟩ := h f (by simp);obtain ⟨c, g, p⟩ := Ma s h3 hx;obtain ⟨cs, gl, pl⟩ := Rr l (vs := vs) h4 fun f hf => h f (by simp [hf]);refine ⟨c ++ cs, by simp only [GCL]; exact ⟨c, cs, rfl, g, gl⟩, ?_⟩;rw [h1, h2] at p;have := PCells.append p pl;have e : (vs.drop off).take (Sh.wL (s :: l)) = (vs.drop off).take s.w ++ (vs.drop (off + s.w)).take (Sh.wL l) := by
    simp only [Sh.wL];rw [List.take_add, List.drop_drop]
   rw [e]; exact this
end
end
mutual
def D8 : Sh → List PV → SV
 | .arr n s, cs => .vec (n * s.w) cs
 | .st l, cs => .agg (Ij l cs)
 | _, cs => .pv (cs.headD (.b false))
def Ij : List Sh → List PV → List SV
 | [], _ => []
 | s :: l, cs => (D8 s (cs.take s.w)).segs ++ Ij l (cs.drop s.w)
end
def Sh.isAg : Sh → Bool
 | .arr _ _ => true
 | .st _ => true
 | _ => false
theorem J8 {V : View} {ρ : Nat → Value} : ∀ {l m : List SV} {a b : List Value}, Cells V ρ l a → Cells V ρ m b → Cells V ρ (l ++ m) (a ++ b)
 | [], m, a, b, h1, h2 => by simp only [Cells] at h1; subst h1; exact h2
 | x :: l, m, a, b, h1, h2 => by
   simp only [Cells, List.cons_append] at h1 ⊢;obtain ⟨u, us, rfl, c, d, e, f⟩ := h1;exact ⟨u, us ++ b, by simp, c, d, e, J8 f h2⟩
mutual
theorem P1 {V : View} {ρ : Nat → Value} : ∀ (s : Sh) {cs : List PV} {v : Value}, GC s cs → PCells V cs (Ai v) → (s.isAg = true → ∃ vs, v = .agg ⟨vs⟩) → (s.isAg = false → ∀ vs, v ≠ .agg vs) → Conc V ρ (D8 s cs) v
 | .int k, cs, v, g, p, _, h => by
   obtain ⟨n, rfl, _⟩ := g;have e : Ai v = [v] := by cases v <;> first | rfl | exact absurd rfl (h rfl _)
   rw [e] at p;obtain ⟨v', h1, h2⟩ := p.2 0 _ rfl;simp at h1; subst h1;simp only [D8, Conc, List.headD_cons]; exact h2
 | .bool, cs, v, g, p, _, h => by
   obtain ⟨n, rfl⟩ := g;have e : Ai v = [v] := by cases v <;> first | rfl | exact absurd rfl (h rfl _)
   rw [e] at p;obtain ⟨v', h1, h2⟩ := p.2 0 _ rfl;simp at h1; subst h1;simp only [D8, Conc, List.headD_cons]; exact h2
 | .str, cs, v, g, p, _, h => by
   obtain ⟨n, rfl, _⟩ := g;have e : Ai v = [v] := by cases v <;> first | rfl | exact absurd rfl (h rfl _)
   rw [e] at p;obtain ⟨v', h1, h2⟩ := p.2 0 _ rfl;simp at h1; subst h1;simp only [D8, Conc, List.headD_cons]; exact h2
 | .sl s, cs, v, g, p, _, h => by
   simp only [GC] at g;obtain ⟨n, rfl, _⟩ := g;have e : Ai v = [v] := by cases v <;> first | rfl | exact absurd rfl (h rfl _)
   rw [e] at p;obtain ⟨v', h1, h2⟩ := p.2 0 _ rfl;simp at h1; subst h1;simp only [D8, Conc, List.headD_cons]; exact h2
 | .arr n s, cs, v, g, p, h, _ => by
   obtain ⟨vs, rfl⟩ := h rfl;have hl := g.len;simp only [D8, Conc];refine ⟨vs, rfl, ?_, p⟩;have e1 : vs.length = cs.length := p.1.symm;rw [e1, hl]; rfl
 | .st l, cs, v, g, p, h, _ => by
   obtain ⟨vs, rfl⟩ := h rfl;simp only [GC] at g;simp only [D8, Conc];exact ⟨vs, rfl, He l g p⟩
theorem He {V : View} {ρ : Nat → Value} : ∀ (l : List Sh) {cs : List PV} {vs : List Value}, GCL l cs → PCells V cs vs → Cells V ρ (Ij l cs) vs
 | [], cs, vs, g, p => by
   simp only [GCL] at g; subst g;have : vs = [] := List.eq_nil_of_length_eq_zero (by rw [← p.1]; rfl);subst this;simp only [Ij, Cells]
 | s :: l, cs, vs, g, p => by
   simp only [GCL] at g;obtain ⟨c, cs', rfl, g1, g2⟩ := g;have hl := g1.len;have p1 : PCells V c (vs.take c.length) := by
    have := p.split c.length |>.1;simpa using this
   have p2 : PCells V cs' (vs.drop c.length) := by
    have := p.split c.length |>.2;simpa using this
   have hvs : vs = vs.take c.length ++ vs.drop c.length := (List.take_append_drop _ _).symm;have hlen : (vs.take c.length).length = s.w := by rw [← p1.1, hl]
   simp only [Ij];rw [List.take_left' hl, List.drop_left' hl];rw [hvs];refine J8 ?_ (He l g2 p2);cases s with
   | st m =>
     simp only [GC] at g1;simp only [D8, SV.segs];exact He m g1 p1
   | arr n s' =>
     have := P1 (V := V) (ρ := ρ) (.arr n s') (v := .agg ⟨vs.take c.length⟩) g1 (by simpa [Ai] using p1) (fun _ => ⟨_, rfl⟩) (by simp [Sh.isAg]);simp only [D8] at this ⊢;simp only [SV.segs, Cells];exact ⟨_, [], by simp [Ai], this, by simpa [Ai, SV.width, Sh.w] using hlen, fun v hv => p1.one v (by simpa [Ai] using hv), rfl⟩
   | int k =>
     obtain ⟨n, rfl, _⟩ := g1;obtain ⟨v, h1, h2⟩ := p1.2 0 _ rfl;have e : vs.take [PV.i k n].length = [v] := by
      match hx : vs.take [PV.i k n].length, h1, hlen with
      | [u], h1, _ => simp at h1; rw [h1]
     have ho := h2.one;have fv : Ai v = [v] := by cases v <;> first | rfl | exact absurd ho (by simp [Ap])
     rw [e];simp only [D8, SV.segs, Cells, Conc, List.headD_cons];exact ⟨v, [], by rw [fv]; rfl, h2, by rw [fv]; rfl, by rw [fv]; simpa using ho, rfl⟩
   | bool =>
     obtain ⟨n, rfl⟩ := g1;obtain ⟨v, h1, h2⟩ := p1.2 0 _ rfl;have e : vs.take [PV.b n].length = [v] := by
      match hx : vs.take [PV.b n].length, h1, hlen with
      | [u], h1, _ => simp at h1; rw [h1]
     have ho := h2.one;have fv : Ai v = [v] := by cases v <;> first | rfl | exact absurd ho (by simp [Ap])
     rw [e];simp only [D8, SV.segs, Cells, Conc, List.headD_cons];exact ⟨v, [], by rw [fv]; rfl, h2, by rw [fv]; rfl, by rw [fv]; simpa using ho, rfl⟩
   | str =>
     obtain ⟨n, rfl, _⟩ := g1;obtain ⟨v, h1, h2⟩ := p1.2 0 _ rfl;have e : vs.take [PV.s n].length = [v] := by
      match hx : vs.take [PV.s n].length, h1, hlen with
      | [u], h1, _ => simp at h1; rw [h1]
     have ho := h2.one;have fv : Ai v = [v] := by cases v <;> first | rfl | exact absurd ho (by simp [Ap])
     rw [e];simp only [D8, SV.segs, Cells, Conc, List.headD_cons];exact ⟨v, [], by rw [fv]; rfl, h2, by rw [fv]; rfl, by rw [fv]; simpa using ho, rfl⟩
   | sl s' =>
     simp only [GC] at g1;obtain ⟨n, rfl, _⟩ := g1;obtain ⟨v, h1, h2⟩ := p1.2 0 _ rfl;have e : vs.take [PV.sl false s'.w n].length = [v] := by
      match hx : vs.take [PV.sl false s'.w n].length, h1, hlen with
      | [u], h1, _ => simp at h1; rw [h1]
     have ho := h2.one;have fv : Ai v = [v] := by cases v <;> first | rfl | exact absurd ho (by simp [Ap])
     rw [e];simp only [D8, SV.segs, Cells, Conc, List.headD_cons];exact ⟨v, [], by rw [fv]; rfl, h2, by rw [fv]; rfl, by rw [fv]; simpa using ho, rfl⟩
end
mutual
theorem Rs : ∀ (s : Sh) (cs : List PV), (D8 s cs).closed = true
 | .int k, cs => rfl
 | .bool, cs => rfl
 | .str, cs => rfl
 | .sl s, cs => rfl
 | .arr n s, cs => rfl
 | .st l, cs => by simp only [D8, SV.closed]; exact E8 l cs
theorem E8 : ∀ (l : List Sh) (cs : List PV), SV.closedL (Ij l cs) = true
 | [], cs => rfl
 | s :: l, cs => by
   simp only [Ij];have h2 := E8 l (cs.drop s.w);have app : ∀ (a b : List SV), SV.closedL a = true → SV.closedL b = true → SV.closedL (a ++ b) = true := fun a b ha hb => by
    induction a with
    | nil => exact hb
    | cons x a ih => simp only [SV.closedL, Bool.and_eq_true, List.cons_append] at ha ⊢; exact ⟨ha.1, ih ha.2⟩
   refine app _ _ ?_ h2;cases s with
   | st m => simp only [D8, SV.segs]; exact E8 m _
   | int k => rfl
   | bool => rfl
   | str => rfl
   | sl s => rfl
   | arr n s => rfl
end
theorem Xs {P : Program} {w : World} {base : Nat} {t : TypeId} {v : Value} : ∀ {s : Sh}, Ro P s t = true → Value.okWide P w .any base t v → (s.isAg = true → ∃ vs, v = .agg ⟨vs⟩) ∧ (s.isAg = false → ∀ vs, v ≠ .agg vs)
 | .int k, hs, h => by
   simp only [Ro] at hs;split at hs
   · rename_i k' hu;obtain ⟨n, rfl⟩ := WideShapes.okWide_int hu h;exact ⟨fun h => (by cases h), fun _ vs e => by cases e⟩
   · cases hs
 | .bool, hs, h => by
   simp only [Ro] at hs;split at hs
   · rename_i hu;obtain ⟨n, rfl⟩ := WideShapes.okWide_bool hu h;exact ⟨fun h => (by cases h), fun _ vs e => by cases e⟩
   · cases hs
 | .str, hs, h => by
   simp only [Ro] at hs;split at hs
   · rename_i hu;obtain ⟨n, rfl⟩ := WideShapes.okWide_string hu h;exact ⟨fun h => (by cases h), fun _ vs e => by cases e⟩
   · cases hs
 | .sl s, hs, h => by
   simp only [Ro] at hs;split at hs
   · rename_i e hu;obtain ⟨a, b, c, rfl⟩ := WideShapes.okWide_slice hu h;exact ⟨fun h => (by cases h), fun _ vs e => by cases e⟩
   · cases hs
 | .arr n s, hs, h => by
   simp only [Ro] at hs;split at hs
   · rename_i n' e hu;simp only [Value.okWide, hu] at h;obtain ⟨⟨xs⟩, rfl, _⟩ := h;exact ⟨fun _ => ⟨_, rfl⟩, fun h => (by cases h)⟩
   · cases hs
 | .st l, hs, h => by
   simp only [Ro] at hs;split at hs
   · rename_i fs hu;simp only [Value.okWide, hu] at h;obtain ⟨⟨xs⟩, rfl, _⟩ := h;exact ⟨fun _ => ⟨_, rfl⟩, fun h => (by cases h)⟩
   · cases hs
theorem Ot {H : Type} {enc : TypeId × Value → H} {P : Program} {w : World} {spare : Nat → Bool} {held : Bool} {base : Nat} {t : TypeId} {v : Value} {d : DataW H} {ps : List MemPlace} {s : Sh} (hs : Ro P s t = true)
 (hv : Value.okWide P w .any base t v) (h : DataW.Trod enc P w 0 spare held t v d ps) : ∃ cs, GC s cs ∧ Conc (Gz w) (fun _ => undef) (D8 s cs) v := by
 obtain ⟨fuel, hf⟩ := h;obtain ⟨cs, g, p⟩ := Ma s hs hf;rw [Cn] at p;obtain ⟨h1, h2⟩ := Xs hs hv;exact ⟨cs, g, P1 s g p h1 h2⟩
end Go.Proofs.YthleeikkpjiicaaDoor.Fw
namespace Go.Proofs.YthleeikkpjiicaaDoor.Fw
open Go.RowKit
theorem S3 {m : Nat} : ∀ {cc : List (List PV)} {i j : Nat}, (∀ c ∈ cc, c.length = m) → j < m → cc.flatten[i * m + j]? = (cc[i]?).bind (·[j]?)
 | [], i, j, _, _ => by simp
 | c :: cc, 0, j, h, hj => by
   have hc := h c (by simp);rw [List.flatten_cons, Nat.zero_mul, Nat.zero_add, List.getElem?_append_left (by omega)]; rfl
 | c :: cc, i + 1, j, h, hj => by
   have hc := h c (by simp);rw [List.flatten_cons, List.getElem?_append_right (by rw [Nat.add_mul]; omega)];rw [show (i + 1) * m + j - c.length = i * m + j from by rw [Nat.add_mul]; omega];rw [S3 (fun c hc => h c (by simp [hc])) hj]; rfl
theorem Amr {n : Nat} {s : Sh} {cs : List PV} (h : GC (.arr n s) cs) : cs.length = n * s.w ∧ ∀ i, i < n → ∃ c, GC s c ∧ ∀ j, j < s.w → cs[i * s.w + j]? = c[j]? := by
 refine ⟨h.len, fun i hi => ?_⟩;simp only [GC] at h;obtain ⟨cc, rfl, rfl, g⟩ := h;refine ⟨cc[i], g _ (List.getElem_mem _), fun j hj => ?_⟩;rw [S3 (fun c hc => (g c hc).len) hj, List.getElem?_eq_getElem hi]; rfl
theorem Zv {n : Int} (h : (Lit.int .u32 n).wf = true) : 0 ≤ n ∧ n < 4294967296 := by
 simp [Lit.wf, IntKind.min, IntKind.max, IntKind.signed, IntKind.bits] at h; omega
theorem Acb {n : Int} (h : (Lit.int .i64 n).wf = true) : -9223372036854775808 ≤ n ∧ n < 9223372036854775808 := by
 simp [Lit.wf, IntKind.min, IntKind.max, IntKind.signed, IntKind.bits] at h; omega
theorem Ahu {n : Nat} {cs : List PV} {f : Nat → PV} (hl : cs.length = n) (h : ∀ i, i < n → cs[i]? = some (f i)) : cs = I4 n f := by
 apply List.ext_getElem?;intro i;by_cases hi : i < n
 · rw [h i hi, Oq hi]
 · rw [List.getElem?_eq_none (by omega), List.getElem?_eq_none (by rw [L0]; omega)]
theorem Aq2 {cs : List PV} (h : GC (.arr 8 (.int .u32)) cs) : ∃ a : Vc, cs = vE a ∧ ∀ i, i < 8 → a i < 4294967296 := by
 obtain ⟨hl, g⟩ := Amr h;have key : ∀ i, ∃ n : Nat, i < 8 → cs[i]? = some (.i .u32 n) ∧ n < 4294967296 := fun i => by
  by_cases hi : i < 8
  · obtain ⟨c, ⟨n, rfl, hw⟩, k⟩ := g i hi;have := k 0 (by simp [Sh.w]);simp only [Sh.w, Nat.mul_one, Nat.add_zero] at this;have hr := Zv hw;refine ⟨n.toNat, fun _ => ⟨?_, by omega⟩⟩;rw [this, show ((n.toNat : Nat) : Int) = n from by omega]; rfl
  · exact ⟨0, fun h => absurd h hi⟩
 obtain ⟨a, ha⟩ := Classical.axiomOfChoice key;exact ⟨a, Ahu hl fun i hi => (ha i hi).1, fun i hi => (ha i hi).2⟩
theorem Am3 {cs : List PV} (h : GC (.int .i64) cs) : ∃ n : Int, cs = [.i .i64 n] ∧ -9223372036854775808 ≤ n ∧ n < 9223372036854775808 := by
 obtain ⟨n, rfl, hw⟩ := h; exact ⟨n, rfl, Acb hw⟩
theorem Qb (n : Int) : IntKind.u64.wrap n = n % 18446744073709551616 := by simp [IntKind.wrap, IntKind.signed, IntKind.bits]
theorem Aev (a : Int) {n : Nat} (h0 : 0 < n) (h : n < 4611686018427387904) : ∃ j : Nat, j < n ∧ IntKind.i64.wrap ((IntKind.u64.wrap a).tmod (IntKind.u64.wrap (n : Int))) = j := by
 rw [Mx (n := (n : Int)) (by omega), Qb];have h1 : 0 ≤ a % 18446744073709551616 := by omega
 rw [Int.tmod_eq_emod_of_nonneg h1];generalize a % 18446744073709551616 = m at *;have h2 := Int.emod_nonneg m (b := (n : Int)) (by omega);have h3 := Int.emod_lt_of_pos m (b := (n : Int)) (by omega);refine ⟨(m % n).toNat, by omega, ?_⟩;rw [Rq (by omega)]; omega
theorem Aq3 {s : Sh} {cs : List PV} (h : GC (.sl s) cs) : ∃ es, cs = [.sl false s.w es] ∧ es.length ≤ maxLen ∧ ∀ c ∈ es, GC s c := by
 simp only [GC] at h; exact h
end Go.Proofs.YthleeikkpjiicaaDoor.Fw
namespace Go.Proofs.YthleeikkpjiicaaDoor.Fw
open Go.RowKit Go.Proofs
def G0 (r : Int) (q : Nat) (r' : Int) (q' : Nat) : Bool := decide (q < q' ∨ q = q' ∧ r < r')
theorem Aa4 (r : Int) (q : Nat) (r' : Int) (q' : Nat) {h d} : FunOk Tryd.prog 69 [.vec 2 [.i .i64 r, .i .u32 q], .vec 2 [.i .i64 r', .i .u32 q']] h d (.pv (.b (G0 r q r' q'))) [] := by
 refine A6 mixed fn69 (by simp) rfl rfl fun F => ?_;by_cases h : q = q'
 · subst h;have e : G0 r q r' q = decide (r < r') := by simp [G0]
   simp (disch := omega) only [ir69, e, go_sem]
 · have hz : ¬ (q : Int) = (q' : Int) := by omega
   have e : G0 r q r' q' = decide ((q : Int) < (q' : Int)) := by simp [G0, h]
   simp (disch := omega) only [ir69, e, go_sem]
theorem Wd (r : Int) (q : Nat) (r' : Int) (q' : Nat) {h d} : FunOk Tryd.prog 46 [.vec 2 [.i .i64 r, .i .u32 q], .vec 2 [.i .i64 r', .i .u32 q']] h d (.pv (.b (G0 r q r' q'))) [] := by
 refine A6 mixed fn46 (by simp) rfl rfl fun F => ?_;by_cases h : q = q'
 · subst h;have e : G0 r q r' q = decide (r < r') := by simp [G0]
   have hl : ¬ (q : Int) < (q : Int) := by omega
   simp (disch := omega) only [ir46, e, hl, go_sem]
 · have hz : ¬ (q : Int) = (q' : Int) := by omega
   have e : G0 r q r' q' = decide ((q : Int) < (q' : Int)) := by simp [G0, h]
   by_cases hl : (q : Int) < (q' : Int)
   · simp (disch := omega) only [ir46, e, hl, go_sem]
   · simp (disch := omega) only [ir46, e, hl, go_sem]
theorem Afv {r r' : Int} {q q' : Nat} (h : ¬ (r = r' ∧ q = q')) : V8 [.i .i64 r, .i .u32 q] [.i .i64 r', .i .u32 q'] = false := by
 simp only [V8, decide_eq_false_iff_not];intro e;simp only [List.cons.injEq, PV.i.injEq, true_and, and_true] at e;exact h ⟨e.1, by omega⟩
abbrev D7 := Int × Nat
def idE (b : D7) : List PV := [.i .i64 b.1, .i .u32 b.2]
theorem Q8 {l : List SV} {cs : List PV} {n : Nat} (hc : SV.cellsL? l = some cs) (hn : cs.length = n) : Imp (.agg l) (.vec n cs) := by
 intro V ρ v h;have hp := Conc.cells h (x := .agg l) (cs := cs) hc;simp only [Conc] at h ⊢;obtain ⟨vs, rfl, _⟩ := h;exact ⟨vs, rfl, by rw [← hn]; exact hp.1.symm, hp⟩
def ImpL : List SV → List SV → Prop
 | [], [] => True
 | x :: l, y :: m => Imp x y ∧ ImpL l m
 | _, _ => False
theorem ImpL.conc {V : View} {ρ : Nat → Value} : ∀ {l m : List SV} {vs : List Value}, ImpL l m → ConcL V ρ l vs → ConcL V ρ m vs
 | [], [], vs, _, h => h
 | x :: l, y :: m, vs, h, k => by
   simp only [ConcL] at k ⊢;obtain ⟨v, us, rfl, k1, k2⟩ := k;exact ⟨v, us, rfl, h.1 _ _ _ k1, ImpL.conc h.2 k2⟩
 | [], _ :: _, _, h, _ => h.elim
 | _ :: _, [], _, h, _ => h.elim
theorem FunOk.imp {P : Program} {f : Nat} {args args' : List SV} {h d x u} (hf : FunOk P f args' h d x u) (hi : ImpL args args') (ht : ∀ n ∈ Ay args', n ∈ Ay args) : FunOk P f args h d x u :=
 ⟨hf.1, fun F N ρ s a w hR hh vs hc => hf.2 F N ρ s a w hR (fun n hn => hh n (ht n hn)) vs (hi.conc hc)⟩
abbrev T8 : Sh := .st [.int .i64, .int .u32]
theorem Tu {cs : List PV} (h : GC T8 cs) : ∃ b : D7, cs = idE b ∧ (-9223372036854775808 ≤ b.1 ∧ b.1 < 9223372036854775808) ∧ b.2 < 4294967296 := by
 simp only [GC, GCL] at h;obtain ⟨c, cs', rfl, ⟨n, rfl, hw⟩, c', cs'', rfl, ⟨m, rfl, hw'⟩, rfl⟩ := h;have hr := Zv hw';exact ⟨(n, m.toNat), by simp [idE]; omega, Acb hw, by show m.toNat < _; omega⟩
theorem Ac0 {α : Type} {f : α → List PV} {p : α → Prop} {s : Sh} (key : ∀ {cs}, GC s cs → ∃ x, cs = f x ∧ p x) : ∀ {es : List (List PV)}, (∀ c ∈ es, GC s c) → ∃ l : List α, es = l.map f ∧ ∀ x ∈ l, p x
 | [], _ => ⟨[], rfl, by simp⟩
 | c :: es, h => by
   obtain ⟨l, e, hp⟩ := Ac0 (es := es) key fun c hc => h c (List.mem_cons_of_mem _ hc);obtain ⟨x, e2, hx⟩ := key (h c List.mem_cons_self);exact ⟨x :: l, by rw [e, e2]; rfl, fun y hy => by
    rcases List.mem_cons.1 hy with hy | hy
    · rw [hy]; exact hx
    · exact hp y hy⟩
end Go.Proofs.YthleeikkpjiicaaDoor.Fw
namespace Go.Proofs.YthleeikkpjiicaaDoor.Fw
open Go.RowKit Go.Proofs
variable {P : Program} {F : Fr} {N : Nat} {ρ ρ' : Nat → Value} {s : FS} {a : Act} {w w' : World} {V V' : View}
def Ask (x y : PV) : Prop := ∀ (V : View) (v : Value), PConc V x v → PConc V y v
def PImpL : List PV → List PV → Prop
 | [], [] => True
 | x :: l, y :: m => Ask x y ∧ PImpL l m
 | _, _ => False
def PImpR : List (List PV) → List (List PV) → Prop
 | [], [] => True
 | x :: l, y :: m => PImpL x y ∧ PImpR l m
 | _, _ => False
theorem PImpL.len : ∀ {l m : List PV}, PImpL l m → l.length = m.length
 | [], [], _ => rfl
 | x :: l, y :: m, h => by simp [PImpL.len h.2]
 | [], _ :: _, h => h.elim
 | _ :: _, [], h => h.elim
theorem PImpR.len : ∀ {l m : List (List PV)}, PImpR l m → l.length = m.length
 | [], [], _ => rfl
 | x :: l, y :: m, h => by simp [PImpR.len h.2]
 | [], _ :: _, h => h.elim
 | _ :: _, [], h => h.elim
def ImpS : List SV → List SV → Prop
 | [], [] => True
 | x :: l, y :: m => (Imp x y ∧ x.width = y.width) ∧ ImpS l m
 | _, _ => False
theorem ImpS.cells : ∀ {l m : List SV} {vs : List Value}, ImpS l m → Cells V ρ l vs → Cells V ρ m vs
 | [], [], vs, _, h => h
 | x :: l, y :: m, vs, h, k => by
   simp only [Cells] at k ⊢;obtain ⟨u, us, rfl, k1, k2, k3, k4⟩ := k;exact ⟨u, us, rfl, h.1.1 V ρ u k1, by rw [← h.1.2]; exact k2, k3, h.2.cells k4⟩
 | [], _ :: _, _, h, _ => h.elim
 | _ :: _, [], _, h, _ => h.elim
end Go.Proofs.YthleeikkpjiicaaDoor.Fw
namespace Go.Proofs.YthleeikkpjiicaaDoor.Fw
open Go.RowKit Go.Proofs
mutual
theorem Aii {π : Nat → Nat} : ∀ {x : SV}, x.closed = true → x.rn π = x
 | .pv _, _ => rfl
 | .vec _ _, _ => rfl
 | .pi _ _ _ _, _ => rfl
 | .dead, _ => rfl
 | .agg l, h => by simp only [SV.closed] at h; simp only [SV.rn, Nj h]
 | .tup l, h => by simp only [SV.closed] at h; simp only [SV.rn, Nj h]
 | .fn f l, h => by simp only [SV.closed] at h; simp only [SV.rn, Nj h]
 | .p _ _, h => by simp [SV.closed] at h
 | .ps _ _, h => by simp [SV.closed] at h
 | .pr _ _ _ _, h => by simp [SV.closed] at h
 | .os _, h => by simp [SV.closed] at h
 | .ov _ _ _ _, h => by simp [SV.closed] at h
theorem Nj {π : Nat → Nat} : ∀ {l : List SV}, SV.closedL l = true → SV.rnL π l = l
 | [], _ => rfl
 | x :: l, h => by
   simp only [SV.closedL, Bool.and_eq_true] at h;simp only [SV.rnL, Aii h.1, Nj h.2]
end
mutual
theorem Anj : ∀ {x : SV}, x.closed = true → tn x = []
 | .pv _, _ => rfl
 | .vec _ _, _ => rfl
 | .pi _ _ _ _, _ => rfl
 | .dead, _ => rfl
 | .agg l, h => by simp only [SV.closed] at h; simp only [tn, I8 h]
 | .tup l, h => by simp only [SV.closed] at h; simp only [tn, I8 h]
 | .fn f l, h => by simp only [SV.closed] at h; simp only [tn, I8 h]
 | .p _ _, h => by simp [SV.closed] at h
 | .ps _ _, h => by simp [SV.closed] at h
 | .pr _ _ _ _, h => by simp [SV.closed] at h
 | .os _, h => by simp [SV.closed] at h
 | .ov _ _ _ _, h => by simp [SV.closed] at h
theorem I8 : ∀ {l : List SV}, SV.closedL l = true → Ay l = []
 | [], _ => rfl
 | x :: l, h => by
   simp only [SV.closedL, Bool.and_eq_true] at h;simp only [Ay, Anj h.1, I8 h.2, List.append_nil]
end
theorem Aic (a m : Nat) : sw1 a m a = m := if_pos rfl
end Go.Proofs.YthleeikkpjiicaaDoor.Fw
namespace Go.Proofs.YthleeikkpjiicaaDoor.Fw
open Go.RowKit Go.Proofs Go.Shelf
def N3 : Ren where
 f := fun
  | 171 => 53
  | 243 => 65
  | 246 => 71
  | 283 => 72
  | 284 => 73
  | 285 => 74
  | 286 => 75
  | 129 => 79
  | 317 => 78
  | 318 => 80
  | 319 => 81
  | 320 => 82
  | 337 => 84
  | 338 => 85
  | n => n
 t := fun
  | 3 => 3
  | 9 => 9
  | 2 => 2
  | 4 => 4
  | 171 => 88
  | 0 => 0
  | 53 => 76
  | 37 => 91
  | 5 => 5
  | 173 => 92
  | 212 => 97
  | 51 => 23
  | 20 => 20
  | 213 => 98
  | 46 => 39
  | 232 => 102
  | 233 => 103
  | n => n
 g := fun
  | 17 => 0
  | 18 => 1
  | 19 => 2
  | n => n
theorem N4 : LaysM.n171 Tryd.prog N3 where
 mixed := by kernel_rfl
 f129 := Tryd.func79.trans (congrArg some (by kernel_rfl))
 f171 := Tryd.func53.trans (congrArg some (by kernel_rfl))
 f243 := Tryd.func65.trans (congrArg some (by kernel_rfl))
 f246 := Tryd.func71.trans (congrArg some (by kernel_rfl))
 f283 := Tryd.func72.trans (congrArg some (by kernel_rfl))
 f284 := Tryd.func73.trans (congrArg some (by kernel_rfl))
 f285 := Tryd.func74.trans (congrArg some (by kernel_rfl))
 f286 := Tryd.func75.trans (congrArg some (by kernel_rfl))
 f317 := Tryd.func78.trans (congrArg some (by kernel_rfl))
 f318 := Tryd.func80.trans (congrArg some (by kernel_rfl))
 f319 := Tryd.func81.trans (congrArg some (by kernel_rfl))
 f320 := Tryd.func82.trans (congrArg some (by kernel_rfl))
 f337 := Tryd.func84.trans (congrArg some (by kernel_rfl))
 f338 := Tryd.func85.trans (congrArg some (by kernel_rfl))
 t0 := Tryd.underlying0
 a0 := Tryd.isAgg0
 z0 := Tryd.sizeOf0
 v0 := Tryd.zeroValue0
 t2 := Tryd.underlying2
 a2 := Tryd.isAgg2
 z2 := Tryd.sizeOf2
 v2 := Tryd.zeroValue2
 t3 := Tryd.underlying3
 a3 := Tryd.isAgg3
 z3 := Tryd.sizeOf3
 v3 := Tryd.zeroValue3
 t4 := Tryd.underlying4
 a4 := Tryd.isAgg4
 z4 := Tryd.sizeOf4
 v4 := Tryd.zeroValue4
 t5 := Tryd.underlying5
 a5 := Tryd.isAgg5
 z5 := Tryd.sizeOf5
 v5 := Tryd.zeroValue5
 t9 := Tryd.underlying9
 a9 := Tryd.isAgg9
 z9 := Tryd.sizeOf9
 v9 := Tryd.zeroValue9
 t20 := Tryd.underlying20
 a20 := Tryd.isAgg20
 z20 := Tryd.sizeOf20
 v20 := Tryd.zeroValue20
 t37 := Tryd.underlying91
 a37 := Tryd.isAgg91
 z37 := Tryd.sizeOf91
 v37 := Tryd.zeroValue91
 t46 := Tryd.underlying39
 a46 := Tryd.isAgg39
 z46 := Tryd.sizeOf39
 v46 := Tryd.zeroValue39
 t51 := Tryd.underlying23
 a51 := Tryd.isAgg23
 z51 := Tryd.sizeOf23
 v51 := Tryd.zeroValue23
 t53 := Tryd.underlying76
 a53 := Tryd.isAgg76
 z53 := Tryd.sizeOf76
 v53 := Tryd.zeroValue76
 t171 := Tryd.underlying88
 a171 := Tryd.isAgg88
 z171 := Tryd.sizeOf88
 v171 := Tryd.zeroValue88
 t173 := Tryd.underlying92
 a173 := Tryd.isAgg92
 z173 := Tryd.sizeOf92
 v173 := Tryd.zeroValue92
 t212 := Tryd.underlying97
 a212 := Tryd.isAgg97
 z212 := Tryd.sizeOf97
 v212 := Tryd.zeroValue97
 t213 := Tryd.underlying98
 a213 := Tryd.isAgg98
 z213 := Tryd.sizeOf98
 t232 := Tryd.underlying102
 a232 := Tryd.isAgg102
 z232 := Tryd.sizeOf102
 v232 := Tryd.zeroValue102
 t233 := Tryd.underlying103
 a233 := Tryd.isAgg103
 z233 := Tryd.sizeOf103
 v233 := Tryd.zeroValue103
 g17 := by kernel_rfl
 g18 := by kernel_rfl
 g19 := by kernel_rfl
 i0 := by kernel_rfl
 i2 := by kernel_rfl
 i3 := by kernel_rfl
 i4 := by kernel_rfl
 i5 := by kernel_rfl
 i9 := by kernel_rfl
 i20 := by kernel_rfl
 i37 := by kernel_rfl
 i46 := by kernel_rfl
 i51 := by kernel_rfl
 i53 := by kernel_rfl
 i171 := by kernel_rfl
 i173 := by kernel_rfl
 i212 := by kernel_rfl
 i232 := by kernel_rfl
 i233 := by kernel_rfl
 m17 := by kernel_rfl
 m18 := by kernel_rfl
 m19 := by kernel_rfl
end Go.Proofs.YthleeikkpjiicaaDoor.Fw
namespace Go.Proofs.YthleeikkpjiicaaDoor.Fw
open Go.RowKit Go.Proofs
structure Ent where
 id : D7
 dir : D7
 name : List UInt8
 obj : D7
 gone : Vc
def Uv (x : Ent) : List PV := [.i .i64 x.id.1, .i .u32 x.id.2, .i .i64 x.dir.1, .i .u32 x.dir.2, .s x.name, .i .i64 x.obj.1, .i .u32 x.obj.2]
def Ah (x : Ent) : List PV := Uv x ++ vE x.gone
theorem Aeu (a : Vc) : (vE a).all PV.flat = true := by simp [vE, I4, PV.flat]
theorem Ar (x : Ent) : (Ah x).length = 15 := by simp [Ah, Uv, Kq]
theorem Uw (x : Ent) : (Ah x).all PV.flat = true := by
 unfold Ah Uv; rw [List.all_append, Aeu]; rfl
theorem F3 (l : List Ent) : ∀ c ∈ l.map Ah, c.all PV.flat = true := by
 intro c hc;obtain ⟨v, _, rfl⟩ := List.mem_map.1 hc;exact Uw v
theorem Ax (x : Ent) (K : KK) : LoadK (some (Ah x)) 0 15 true K = K (.vec 15 (Ah x)) [] := by
 have e : ((Ah x).drop 0).take 15 = Ah x := List.take_of_length_le (by rw [List.drop_zero, Ar]; omega);simp only [LoadK, Ml, eq_iff_iff, e, Ar];exact ⟨fun h => h.2.2, fun h => ⟨by omega, .inl trivial, h⟩⟩
theorem Cv (x : Ent) (K : KK) : LoadK (some (Ah x)) 0 2 true K = K (.vec 2 [.i .i64 x.id.1, .i .u32 x.id.2]) [] := by
 simp only [LoadK, Ml, eq_iff_iff, Ar];exact ⟨fun h => h.2.2, fun h => ⟨by omega, .inl trivial, h⟩⟩
theorem Hu (x : Ent) (K : KK) : LoadK (some (Ah x)) 2 2 true K = K (.vec 2 [.i .i64 x.dir.1, .i .u32 x.dir.2]) [] := by
 simp only [LoadK, Ml, eq_iff_iff, Ar];exact ⟨fun h => h.2.2, fun h => ⟨by omega, .inl trivial, h⟩⟩
theorem Bs (x : Ent) (K : KK) : LoadK (some (Ah x)) 4 1 false K = K (.pv (.s x.name)) [] := by
 simp only [LoadK, Ml, eq_iff_iff, Ar];exact ⟨fun h => h.2.2, fun h => ⟨by omega, .inr trivial, h⟩⟩
theorem Ht (x : Ent) (K : KK) : LoadK (some (Ah x)) 5 2 true K = K (.vec 2 [.i .i64 x.obj.1, .i .u32 x.obj.2]) [] := by
 simp only [LoadK, Ml, eq_iff_iff, Ar];exact ⟨fun h => h.2.2, fun h => ⟨by omega, .inl trivial, h⟩⟩
theorem Abx (x : Ent) (K : KK) : LoadK (some (Ah x)) 7 8 true K = K (.vec 8 (vE x.gone)) [] := by
 have e : ((Ah x).drop 7).take 8 = vE x.gone := by
  unfold Ah;rw [List.drop_left' (by rfl)];exact List.take_of_length_le (by rw [Kq]; omega)
 simp only [LoadK, Ml, eq_iff_iff, Ar, e];exact ⟨fun h => h.2.2, fun h => ⟨by omega, .inl trivial, h⟩⟩
theorem Agg (x : Ent) {k : Nat} (hk : k < 8) (K : KK) : LoadK (some (Ah x)) (7 + k) 1 false K = K (.pv (.i .u32 (x.gone k))) [] := by
 have e : (Ah x).getD (7 + k) (.b false) = .i .u32 (x.gone k) := by
  unfold Ah;rw [List.getD_eq_getElem?_getD, List.getElem?_append_right (by simp [Uv])];rw [show 7 + k - (Uv x).length = k by simp [Uv]];unfold vE; rw [Oq hk]; rfl
 simp only [LoadK, Ml, eq_iff_iff, Ar, e];exact ⟨fun h => h.2.2, fun h => ⟨by omega, .inr trivial, h⟩⟩
abbrev Aaf : Sh := .st [T8, T8, .str, T8, .arr 8 (.int .u32)]
theorem Nr {P : Program} {F : Fr} {N : Nat} {ρ : Nat → Value} {s : FS} {a : Act} {w : World} {tS tR e : TypeId} {sz m n lo hi : Nat} {es fs : List (List PV)} (ht : P.underlying tS = some (.slice e)) (hz : Ad P e = some sz) (h1 : sz ≠ 1)
 (hR : RelR F N ρ s a w) (hm : s.h m = some (.row sz fs)) (hn : s.h n = some (.row sz es)) (hne : m ≠ n) (hfs : fs ≠ []) (hes : es ≠ []) (hlt : lo < hi) {v u : Value}
 (hv : Conc (vw F w ρ s) ρ (.os m) v) (hu : Conc (vw F w ρ s) ρ (.ov n sz lo hi) u) :
 (Extern.SlicesOverlaps.overlaps #[tS, tS] #[tR] #[v, u]).run P w = .ok (.bool false) w := by
 obtain ⟨bm, lm, cm, vm, tym, frm, a1, a2, a3, a4, a5, a6, a7, a8, a9, rfl, a11⟩ := Dg (hR.own m _ hm) (List.length_pos_iff.2 hfs);obtain ⟨bn, ln, cn, vn, tyn, frn, b1, b2, b3, b4, b5, b6, b7, b8, b9, rfl, b11⟩ := Dg (hR.own n _ hn) (List.length_pos_iff.2 hes);simp only [Conc] at hv hu;obtain ⟨base, len, cap, base', c1, c2, c3, rfl, c4⟩ := hu;rw [hv.1, a1];rw [b1] at c1; cases c1;have := c4 (.inl hlt);simp only [Option.map_some, add_plain, Nat.zero_add] at this;subst this;have hbb : bm ≠ bn := fun e => hne (hR.inj m n _ _ bm hm hn (by rw [a1]; simp [Bj, a7]) (by rw [b1]; simp [Bj, b7, e]));have hfr : frm.1 = frm.2 := by rcases a3 with h | h; exact h; exact absurd h.1 h1
 have fz : ∀ o, w.frozen? ⟨bm, o, none⟩ = false := fun o => by
  unfold World.frozen?;simp only [a2];obtain ⟨x, y⟩ := frm;simp only at hfr;simp; omega
 exact Lib.run_overlaps_apart w tS tR e ht sz (fun w => A4 hz w) ⟨bm, 0, none⟩ ⟨bn, lo * sz, none⟩ _ _ _ _ hbb tym tyn vm.length vn.length (by unfold World.shape?; rw [a2]; rfl) (by unfold World.shape?; rw [b2]; rfl)
  (by rw [b5]; exact Nat.mul_ne_zero b7 (by omega)) (fz _) (fz _)
theorem Aki {m n lo hi : Nat} {es fs : List (List PV)} {h} (hm : h m = some (.row 15 fs)) (hn : h n = some (.row 15 es)) (hne : m ≠ n) (hfs : fs ≠ []) (hes : es ≠ []) (hlt : lo < hi) : Aen Tryd.prog 60 [.os m, .ov n 15 lo hi] h (.pv (.b false)) := by
 intro F N ρ s a w hR hh vs hc;simp only [ConcL] at hc;obtain ⟨v, us, rfl, hv, u, us', rfl, hu, rfl⟩ := hc;have hsm := (hh m (by simp [Ay, tn])).trans hm;have hsn := (hh n (by simp [Ay, tn])).trans hn;refine ⟨.bool false, ?_, Co⟩;rw [run_callFunc_extern (fn := (Tryd.prog.funcs[60]?).getD default) (by kernel_rfl) (by kernel_rfl) (by kernel_rfl) (by kernel_rfl) (e := Extern.SlicesOverlaps.overlaps #[22, 22] #[4]) (by kernel_rfl)];rw [Nr (tS := 22) (e := 31) (by kernel_rfl) (by kernel_rfl) (by decide) hR hsm hsn hne hfs hes hlt hv hu];rfl
set_option maxHeartbeats 4000000 in
theorem Ns (es : List (List PV)) (cs : List PV) (i : Nat) (hi : i ≤ es.length) (hb : es.length ≤ 1000) (hes : ∀ c ∈ es, c.length = 15) (hcs : cs.length = 15) {h d} (h1 : h 900 = some (.row 15 es)) (h2 : h 901 = some (.row 15 [cs])) : FunOk Tryd.prog 45 [.os 900, .pv (.i .i64 i), .os 901] h d (.os d) [.del 900, .del 901, .new d (.row 15 (es.take i ++ cs :: es.drop i))] := by
 refine Ag4 mixed fn45 (by simp) rfl fun F => ?_;simp only [Bg];by_cases he : i = es.length
 · subst he;have e1 : es.take es.length ++ cs :: es.drop es.length = es ++ [cs] := by simp
   rw [e1];simp (disch := omega) only [ir45, h1, h2, go_sem]
 · have hne : es ≠ [] := by intro e; subst e; simp at hi; exact he (by simpa using hi)
   simp (disch := omega) only [ir45, h1, h2, go_sem];intro c hc;by_cases hcap : c < es.length + 1
   · have hp : ((c : Int) < (es.length : Int) + ((1 : Nat) : Int)) = True := eq_true (by omega);have ek : ((es.length : Int) + ((1 : Nat) : Int) - (i : Int)).toNat = es.length + 1 - i := by omega
     (try simp only [Km, Kl, Kk, Kj, Ki, Kh, Kg, Kf]); simp (disch := omega) only [hp, ek, go_sem]
     generalize hT : List.take i es ++ List.replicate (es.length + 1 - i) _ = T;have hTl : T.length = es.length + 1 := by rw [← hT]; simp; omega
     have t1 : T.take i = es.take i := by
      rw [← hT, List.take_append_of_le_length (by simp; omega), List.take_take, Nat.min_self]
     have hi' : (es.take i).length = i := by simp; omega
     have m1 : min 1 (es.length + 1 - i) = 1 := by omega
     have m2 : [cs].take (es.length + 1 - i) = [cs] := List.take_of_length_le (by simp; omega);have hU : (es.take i ++ [cs] ++ T.drop (i + 1)).length = es.length + 1 := by simp [hTl]; omega
     have e1 : ((i : Int) + ((1 : Nat) : Int)).toNat = i + 1 := by omega
     have u1 : (es.take i ++ [cs] ++ T.drop (i + 1)).take (i + 1) = es.take i ++ [cs] := by
      rw [List.take_append_of_le_length (by simp; omega)];exact List.take_of_length_le (by simp; omega)
     have u2 : (es.take es.length).drop i = es.drop i := by rw [List.take_length]
     have u3 : min (es.drop i).length (es.length + 1 - (i + 1)) = es.length - i := by simp
     have u4 : (es.drop i).take (es.length + 1 - (i + 1)) = es.drop i := List.take_of_length_le (by simp);have u5 : (es.take i ++ [cs] ++ T.drop (i + 1)).drop (i + 1 + (es.length - i)) = [] := List.drop_of_length_le (by rw [hU]; omega);have u6 : es.take i ++ cs :: es.drop i = es.take i ++ [cs] ++ es.drop i := by simp
     simp only [hTl, t1, m1, m2, e1, List.length_singleton];simp only [hU, u1, u2, u3, u4, u5, u6, List.append_nil];exact ⟨by omega, by omega, trivial⟩
   · have hp : ((c : Int) < (es.length : Int) + ((1 : Nat) : Int)) = False := eq_false (by omega)
     (try simp only [Km, Kl, Kk, Kj, Ki, Kh, Kg, Kf]); simp (disch := omega) only [hp, go_sem]
     intro g hg hgs;have hg1 : g.length = 1 := by omega
     have e1 : ((i : Int) + ((1 : Nat) : Int)).toNat = i + 1 := by omega
     have hE : (es ++ g).length = es.length + 1 := by simp [hg1]
     refine ⟨by omega, ?_⟩;rw [e1];refine Adj (Aki (es := es ++ g) (fs := [cs]) rfl rfl (by decide) (by simp) (by simp [hne]) (by omega)) ?_;have v1 : ((es ++ g).take (es ++ g).length).drop i = (es ++ g).drop i := by rw [List.take_length]
     have v2 : min ((es ++ g).drop i).length ((es ++ g).length - (i + 1)) = es.length - i := by simp [hg1]; omega
     have v3 : ((es ++ g).drop i).take ((es ++ g).length - (i + 1)) = es.drop i := by
      rw [hE, List.drop_append_of_le_length hi, show es.length + 1 - (i + 1) = (es.drop i).length from by simp];exact List.take_left
     have v4 : (es ++ g).drop (i + 1 + (es.length - i)) = [] := List.drop_of_length_le (by omega);have v5 : ((es ++ g).take (i + 1) ++ es.drop i).length = es.length + 1 := by simp [hg1]; omega
     have v6 : ((es ++ g).take (i + 1) ++ es.drop i).take i = es.take i := by
      rw [List.take_append_of_le_length (by simp; omega), List.take_take, Nat.min_eq_left (by omega), List.take_append_of_le_length hi]
     have v7 : ((es ++ g).take (i + 1) ++ es.drop i).drop (i + 1) = es.drop i := by
      rw [List.drop_append_of_le_length (by simp; omega), List.drop_of_length_le (by simp; omega), List.nil_append]
     have m1 : min 1 (es.length + 1 - i) = 1 := by omega
     have m2 : [cs].take (es.length + 1 - i) = [cs] := List.take_of_length_le (by simp; omega);have u6 : es.take i ++ cs :: es.drop i = es.take i ++ [cs] ++ es.drop i := by simp
     simp (disch := omega) only [e1, v1, v2, v3, v4, v5, v6, v7, m1, m2, u6, go_sem]
theorem Akj {m n : Nat} (es : List (List PV)) (cs : List PV) (i : Nat) (hi : i ≤ es.length) (hb : es.length ≤ 1000) (hes : ∀ c ∈ es, c.length = 15) (hcs : cs.length = 15) (hmn : m ≠ n) (hm : m < 900) (hn : n < 900) {h d} (hd : d ≠ m ∧ d ≠ n ∧ d < 900) (h1 : h m = some (.row 15 es)) (h2 : h n = some (.row 15 [cs])) : FunOk Tryd.prog 45 [.os m, .pv (.i .i64 i), .os n] h d (.os d) [.del m, .del n, .new d (.row 15 (es.take i ++ cs :: es.drop i))] := by
 have hπ := Afb (a := 900) (m := m) (b := 901) (n := n) (by omega) (by omega) (by omega) hmn;have e1 : Z3 900 m 901 n 900 = m := by unfold Z3; simp
 have e2 : Z3 900 m 901 n 901 = n := by unfold Z3; repeat' split <;> (try omega)
 have e3 : Z3 900 m 901 n d = d := by unfold Z3; repeat' split <;> (try omega)
 have := (Ns es cs i hi hb hes hcs (h := fun k => (h (Z3 900 m 901 n k))) (d := d) (by rw [← h1, e1]) (by rw [← h2, e2])).rn (π := Z3 900 m 901 n) hπ (d' := d);simp only [SV.rnL, SV.rn, HU.rn, Blk.rn, List.map_cons, List.map_nil, e1, e2, e3] at this;refine this.at fun k hk => ?_;simp only [Ay, tn, List.append_nil, List.nil_append, List.mem_append, List.mem_singleton] at hk;simp only [hπ];rcases hk with rfl | rfl
 · rw [h1]; rfl
 · rw [h2]; rfl
theorem Sj {x : SV} {f : Bool} {z : Nat} {es : List (List PV)} {h d} (hx : Bk h [x] = [.pv (.sl f z es)]) (hl : Az [x] = true) (hz : es = [] ∨ z = 15) (hb : es.length ≤ 1000) (hs : ∀ c ∈ es, c.all PV.flat = true) :
 FunOk Tryd.prog 42 [x] h d (.os d) [.new d (.row 15 es)] := by
 refine Acl mixed fn42 (by simp) hl (.inr hs) fun F => ?_;rw [hx];simp (disch := omega) only [ir42, go_sem];intro b hb';cases b
 · simp (disch := omega) only [go_sem]
 · have he : es = [] := by
    cases es with
    | nil => rfl
    | cons c l => exact absurd (hb' (by simp)) (by simp)
   subst he
   (try simp only [Km, Kl, Kk, Kj, Ki, Kh, Kg, Kf]); simp (disch := omega) only [go_sem]
   first | exact ⟨_, rfl⟩ | decide
abbrev Em (a b : D7) : Bool := G0 a.1 a.2 b.1 b.2
theorem Jt {a b : D7} : Em a b = true ↔ a.2 < b.2 ∨ a.2 = b.2 ∧ a.1 < b.1 := by simp [Em, G0]
theorem Fv {a b c : D7} (h : Em a b = true) (k : Em b c = true) : Em a c = true := by rw [Jt] at *; omega
theorem Ea {a : D7} : ¬ Em a a = true := by rw [Jt]; omega
theorem Alb {a b : D7} (h : Em a b = true) : ¬ Em b a = true := by rw [Jt] at *; omega
theorem Q9 {a b : D7} (h : ¬ Em a b = true) (k : a ≠ b) : Em b a = true := by
 rw [Jt] at *;by_cases e : a.2 = b.2
 · have : a.1 ≠ b.1 := fun e1 => k (Prod.ext e1 e);omega
 · omega
def Du (l : List Ent) : Prop := l.Pairwise fun a b => Em a.id b.id = true
def So : List Ent → D7 → Option Ent
 | [], _ => none
 | x :: l, i => if x.id = i then some x else So l i
theorem X1 {l : List Ent} {i : D7} : So l i = none ↔ ∀ x ∈ l, x.id ≠ i := by
 induction l with
 | nil => simp [So]
 | cons y l ih =>
   simp only [So];by_cases h : y.id = i
   · rw [if_pos h];exact ⟨fun e => (nomatch e), fun e => absurd h (e y List.mem_cons_self)⟩
   · rw [if_neg h, ih];simp only [List.mem_cons, forall_eq_or_imp];exact ⟨fun e => ⟨h, e⟩, fun e => e.2⟩
def H5 (l : List Ent) (i : D7) : Nat := l.findIdx fun x => !Em x.id i
theorem V7 (l : List Ent) (i : D7) : H5 l i ≤ l.length := List.findIdx_le_length
theorem Ph (x : Ent) (l : List Ent) (i : D7) : H5 (x :: l) i = if Em x.id i = true then H5 l i + 1 else 0 := by
 unfold H5;rw [List.findIdx_cons];cases Em x.id i <;> simp
theorem Akb {l : List Ent} {i : D7} {k : Nat} (hk : k < H5 l i) : ∃ x, l[k]? = some x ∧ Em x.id i = true := by
 have hl : k < l.length := Nat.lt_of_lt_of_le hk (V7 l i);refine ⟨l[k], by simp [hl], ?_⟩;have := List.not_of_lt_findIdx hk;simpa using this
theorem Aft {l : List Ent} {i : D7} {k : Nat} (hk : k ≤ l.length) (h1 : ∀ j x, j < k → l[j]? = some x → Em x.id i = true) (h2 : ∀ x, l[k]? = some x → ¬ Em x.id i = true) : H5 l i = k := by
 rcases Nat.lt_trichotomy (H5 l i) k with h | h | h
 · have hl : H5 l i < l.length := by omega
   have h0 : (!Em (l[H5 l i]'hl).id i) = true := List.findIdx_getElem (p := fun x : Ent => !Em x.id i) (w := hl);have := h1 _ _ h (List.getElem?_eq_getElem hl);rw [this] at h0; simp at h0
 · exact h
 · obtain ⟨x, e1, e2⟩ := Akb h;exact absurd e2 (h2 x e1)
def X8 (l : List Ent) (i : D7) : Bool := (So l i).isSome
theorem Sn {l : List Ent} (hs : Du l) (i : D7) : So l i = match l[H5 l i]? with | some x => if x.id = i then some x else none | none => none := by
 induction l with
 | nil => simp [So]
 | cons y l ih =>
   obtain ⟨h1, h2⟩ := List.pairwise_cons.1 hs;rw [Ph];simp only [So];by_cases e : y.id = i
   · have : ¬ Em y.id i = true := by rw [e]; exact Ea
     rw [if_neg this, if_pos e];simp [e]
   · rw [if_neg e];by_cases hl : Em y.id i = true
     · rw [if_pos hl, List.getElem?_cons_succ]; exact ih h2
     · rw [if_neg hl, List.getElem?_cons_zero];simp only [e, if_false];exact X1.2 fun z hz ez => Ea (by have := Fv (Q9 hl e) (h1 z hz); rwa [ez] at this)
theorem R2 {l : List Ent} (hs : Du l) {j m : Nat} {x v : Ent} (hj : l[j]? = some x) (hm : l[m]? = some v) (h : j < m) : Em x.id v.id = true := by
 obtain ⟨h1, rfl⟩ := List.getElem?_eq_some_iff.1 hj;obtain ⟨h2, rfl⟩ := List.getElem?_eq_some_iff.1 hm;exact List.pairwise_iff_getElem.1 hs j m h1 h2 h
def Yc (l : List Ent) (x : Ent) : List Ent := l.take (H5 l x.id) ++ x :: l.drop (H5 l x.id)
theorem Yb (y : Ent) (l : List Ent) (x : Ent) : Yc (y :: l) x = if Em y.id x.id = true then y :: Yc l x else x :: y :: l := by
 unfold Yc;rw [Ph];split <;> simp
def Vn (l : List Ent) (x : Ent) : List Ent := if X8 l x.id = true then l else Yc l x
def I0 (a b : D7) : Int := if Em a b = true then -1 else if Em b a = true then 1 else 0
theorem Akn (a b : D7) {h d} : FunOk Tryd.prog 59 [.vec 2 [.i .i64 a.1, .i .u32 a.2], .vec 2 [.i .i64 b.1, .i .u32 b.2]] h d (.pv (.i .i64 (I0 a b))) [] := by
 refine A6 mixed fn59 (by simp) rfl rfl fun F => ?_;simp (disch := omega) only [ir59, go_sem];refine Ab (Aa4 _ _ _ _) ?_;by_cases h1 : G0 a.1 a.2 b.1 b.2 = true
 · have e : I0 a b = -1 := if_pos h1;simp (disch := omega) only [h1, e, go_sem]
 · have h1' : G0 a.1 a.2 b.1 b.2 = false := by simpa using h1
   simp (disch := omega) only [h1', go_sem];refine Ab (Aa4 _ _ _ _) ?_;by_cases h2 : G0 b.1 b.2 a.1 a.2 = true
   · have e : I0 a b = 1 := by unfold I0; rw [if_neg h1, if_pos h2]
     simp (disch := omega) only [h2, e, go_sem]
   · have h2' : G0 b.1 b.2 a.1 a.2 = false := by simpa using h2
     have e : I0 a b = 0 := by unfold I0; rw [if_neg h1, if_neg h2]
     simp (disch := omega) only [h2', e, go_sem]
theorem Ail (x : Ent) (b : D7) {h d} : FunOk Tryd.prog 58 [.vec 15 (Ah x), .vec 2 [.i .i64 b.1, .i .u32 b.2]] h d (.pv (.i .i64 (I0 x.id b))) [] := by
 refine A6 mixed fn58 (by simp) rfl rfl fun F => ?_;simp (disch := omega) only [ir58, Cv, go_sem];refine Ab (Akn _ _) ?_;simp (disch := omega) only [go_sem]
theorem Wt {a b : D7} : (I0 a b < 0) = (Em a b = true) := by
 unfold I0;by_cases h : Em a b = true
 · rw [if_pos h]; simp [h]
 · rw [if_neg h]; split <;> simp [h]
theorem Wu {a b : D7} : (I0 a b = 0) = (a = b) := by
 unfold I0;by_cases h : Em a b = true
 · rw [if_pos h];refine propext ⟨fun e => by omega, fun e => ?_⟩;subst e; exact absurd h Ea
 · rw [if_neg h];by_cases k : Em b a = true
   · rw [if_pos k];refine propext ⟨fun e => by omega, fun e => ?_⟩;subst e; exact absurd k Ea
   · rw [if_neg k];refine propext ⟨fun _ => ?_, fun _ => rfl⟩;exact Classical.byContradiction fun e => k (Q9 h e)
def V1 (f : Bool) (l : List Ent) (i : D7) (p : Nat × Nat) : FS := mk [(9, .pv (.i .i64 p.1)), (10, .pv (.i .i64 p.2)), (8, .pv (.i .i64 l.length)), (0, .pv (.sl f 15 (l.map Ah))), (2, .fn (.func 58) []), (4, .p 4 0)] [(4, some (.var (.vec 2 [.i .i64 i.1, .i .u32 i.2])))]
set_option maxHeartbeats 1000000 in
theorem An5 {x : SV} {f : Bool} {l : List Ent} (i : D7) {h d} (hx : Bk h [x, .vec 2 [.i .i64 i.1, .i .u32 i.2], .fn (.func 58) []] = [.pv (.sl f 15 (l.map Ah)), .vec 2 [.i .i64 i.1, .i .u32 i.2], .fn (.func 58) []]) (hl : Az [x, .vec 2 [.i .i64 i.1, .i .u32 i.2], .fn (.func 58) []] = true) (hs : Du l) (hn : l.length ≤ 1000) :
 FunOk Tryd.prog 57 [x, .vec 2 [.i .i64 i.1, .i .u32 i.2], .fn (.func 58) []] h d (.tup [.pv (.i .i64 (H5 l i)), .pv (.b (X8 l i))]) [] := by
 refine Cm mixed fn57 (by simp) hl rfl fun F => ?_;rw [hx];simp (disch := omega) only [ir57, List.length_map, go_sem];refine Au mixed (V1 f l i) (fun p => p.1 ≤ p.2 ∧ p.2 ≤ l.length ∧ (∀ j x, j < p.1 → l[j]? = some x → Em x.id i = true) ∧ ∀ j x, p.2 ≤ j → l[j]? = some x → ¬ Em x.id i = true) (fun p => p.2 - p.1) (0, l.length) ⟨by simp, by simp, by simp, fun j x hj hx => by simp only at hj; rw [List.getElem?_eq_none hj] at hx; cases hx⟩ (Ao ?_ ?_) fun p hp => ?_
 · (try simp only [Km, Kl, Kk, Kj, Ki, Kh, Kg, Kf]); simp (disch := omega) only [go_sem]
 · simp (disch := omega) only [go_sem]
 obtain ⟨a, b⟩ := p;obtain ⟨p1, p2, p3, p4⟩ := hp;simp only at p1 p2 p3 p4;by_cases hlt : a < b
 · have hm : (a + b) / 2 < l.length := by omega
   have hx : l[(a + b) / 2]? = some l[(a + b) / 2] := List.getElem?_eq_getElem hm;have he : (l.map Ah)[(a + b) / 2]? = some (Ah l[(a + b) / 2]) := by rw [List.getElem?_map, hx]; rfl
   have e1 : ((a : Int) + (b : Int)).fdiv (2 ^ min (Int.toNat 1) 64) = (((a + b) / 2 : Nat) : Int) := by
    rw [show (2 : Int) ^ min (Int.toNat 1) 64 = 2 from rfl, Int.fdiv_eq_ediv_of_nonneg _ (by omega)]; omega
   have hm1 : a ≤ (a + b) / 2 := by omega
   have hm2 : (a + b) / 2 < b := by omega
   generalize l[(a + b) / 2] = v at *;generalize (a + b) / 2 = m at *;simp (disch := omega) only [V1, List.length_map, e1, he, Ax, go_sem];refine Ab (Ail v i) ?_;by_cases hc : Em v.id i = true
   · have e2 : (I0 v.id i < 0) = True := by rw [Wt]; exact eq_true hc
     simp (disch := omega) only [e2, go_sem];refine Al (x := (a, b)) (m + 1, b) _ _ rfl ⟨by show m + 1 ≤ b; omega, p2, fun j x hj hx' => ?_, p4⟩ (by show b - (m + 1) < b - a; omega) ?_ ?_
     · by_cases e : j = m
       · subst e; rw [hx] at hx'; cases hx'; exact hc
       · exact Fv (R2 hs hx' hx (by simp only at hj; omega)) hc
     · (try simp only [Km, Kl, Kk, Kj, Ki, Kh, Kg, Kf]); simp (disch := omega) only [go_sem]
     · simp (disch := omega) only [go_sem]
   · have e2 : (I0 v.id i < 0) = False := by rw [Wt]; exact eq_false hc
     simp (disch := omega) only [e2, go_sem];refine Al (x := (a, b)) (a, m) _ _ rfl ⟨by show a ≤ m; omega, by show m ≤ _; omega, p3, fun j x hj hx' => ?_⟩ (by show m - a < b - a; omega) ?_ ?_
     · by_cases e : j = m
       · subst e; rw [hx] at hx'; cases hx'; exact hc
       · exact fun q => hc (Fv (R2 hs hx hx' (by simp only at hj; omega)) q)
     · (try simp only [Km, Kl, Kk, Kj, Ki, Kh, Kg, Kf]); simp (disch := omega) only [go_sem]
     · simp (disch := omega) only [go_sem]
 · obtain rfl : a = b := by omega
   have hpos : H5 l i = a := Aft p2 p3 fun x hx' => p4 a x (Nat.le_refl a) hx';by_cases hal : a < l.length
   · have hx' : l[a]? = some l[a] := List.getElem?_eq_getElem hal;have he : (l.map Ah)[a]? = some (Ah l[a]) := by rw [List.getElem?_map, hx']; rfl
     have hk := Sn hs i;rw [hpos, hx'] at hk;generalize l[a] = v at *;simp (disch := omega) only [V1, hal, he, Ax, List.length_map, go_sem];refine Ab (Ail v i) ?_;by_cases hv : v.id = i
     · have e2 : (I0 v.id i = 0) = True := by rw [Wu]; exact eq_true hv
       have e3 : X8 l i = true := by unfold X8; rw [hk]; simp [hv]
       simp (disch := omega) only [e2, e3, hpos, go_sem]
     · have e2 : (I0 v.id i = 0) = False := by rw [Wu]; exact eq_false hv
       have e3 : X8 l i = false := by unfold X8; rw [hk]; simp [hv]
       simp (disch := omega) only [e2, e3, hpos, go_sem]
   · have hk := Sn hs i;rw [hpos, List.getElem?_eq_none (by omega)] at hk;have e3 : X8 l i = false := by unfold X8; rw [hk]; rfl
     simp (disch := omega) only [V1, hal, hpos, e3, go_sem]
theorem An6 {x : SV} {f : Bool} {l : List Ent} (i : D7) {h d} (hx : Bk h [x, .vec 2 [.i .i64 i.1, .i .u32 i.2]] = [.pv (.sl f 15 (l.map Ah)), .vec 2 [.i .i64 i.1, .i .u32 i.2]]) (hl : Az [x, .vec 2 [.i .i64 i.1, .i .u32 i.2]] = true) (hs : Du l) (hn : l.length ≤ 1000) :
 FunOk Tryd.prog 43 [x, .vec 2 [.i .i64 i.1, .i .u32 i.2]] h d (.tup [.pv (.i .i64 (H5 l i)), .pv (.b (X8 l i))]) [] := by
 refine Cm mixed fn43 (by simp) hl rfl fun F => ?_;rw [hx];simp (disch := omega) only [ir43, go_sem];refine Ab (An5 (l := l) i rfl rfl hs hn) ?_;simp (disch := omega) only [go_sem]
theorem Nu (x : Ent) {h d} : FunOk Tryd.prog 28 [.vec 15 (Ah x)] h d (.pv (.b (decide (Rn x.gone fun _ => 0)))) [] := by
 refine A6 mixed fn28 (by simp) rfl rfl fun F => ?_;simp (disch := omega) only [ir28, Abx, go_sem]
theorem Aa7 {a : SV} {f : Bool} {l : List Ent} (x : Ent) {h d} (hx : Bk h [a, .vec 15 (Ah x)] = [.pv (.sl f 15 (l.map Ah)), .vec 15 (Ah x)]) (hl : Az [a, .vec 15 (Ah x)] = true) (hs : Du l) (hn : l.length ≤ 1000) :
 FunOk Tryd.prog 23 [a, .vec 15 (Ah x)] h d (.os d) [.new d (.row 15 ((Vn l x).map Ah))] := by
 refine Hx mixed fn23 (by simp) hl (.inr (F3 _)) fun F => ?_;rw [hx];simp (disch := omega) only [ir23, Cv, go_sem];refine Ab (An6 (l := l) x.id rfl rfl hs hn) ?_;have hfl := F3 l;by_cases hi : X8 l x.id = true
 · have e : Vn l x = l := by unfold Vn; rw [if_pos hi]
   simp (disch := omega) only [hi, e, go_sem];refine Ab (Sj (es := l.map Ah) rfl rfl (.inr rfl) (by simp; omega) hfl) ?_;simp (disch := omega) only [go_sem]
 · have hi' : X8 l x.id = false := by simpa using hi
   have e : Vn l x = Yc l x := by unfold Vn; rw [if_neg hi]
   have hc := Ar x;simp (disch := omega) only [hi', e, go_sem];refine Ab (Sj (es := l.map Ah) rfl rfl (.inr rfl) (by simp; omega) hfl) ?_;simp (disch := omega) only [hc, Ax, go_sem];have hp := V7 l x.id;refine Ab (Akj (l.map Ah) (Ah x) (H5 l x.id) (by simp; omega) (by simp; omega) (fun c hc => by obtain ⟨y, _, rfl⟩ := List.mem_map.1 hc; exact Ar y) hc (by decide) (by decide) (by decide) (by decide) rfl rfl) ?_;simp (disch := omega) only [go_sem];simp [Yc, List.map_take, List.map_drop]
theorem E1 (a : D7) : Ce [K1.int .i64, K1.int .u32] [.i .i64 a.1, .i .u32 a.2] = True := eq_true rfl
theorem Ql {a b : D7} (h : a = b) : V8 [.i .i64 a.1, .i .u32 a.2] [.i .i64 b.1, .i .u32 b.2] = true := by subst h; simp [V8]
theorem Qm {a b : D7} (h : a ≠ b) : V8 [.i .i64 a.1, .i .u32 a.2] [.i .i64 b.1, .i .u32 b.2] = false := Afv fun e => h (Prod.ext e.1 e.2)
def Jc (x : Ent) (k : Nat) : FS := mk [(3, .pv (.i .i64 k)), (1, .p 1 0)] [(1, some (.var (.vec 15 (Ah x))))]
theorem Pl (x : Ent) {h d} : FunOk Tryd.prog 12 [.vec 15 (Ah x)] h d (.pv (.b (decide (Rn x.gone fun _ => 0)))) [] := by
 refine A6 mixed fn12 (by simp) rfl rfl fun F => ?_;simp (disch := omega) only [ir12, go_sem];refine Au mixed (Jc x) (fun k => k ≤ 8 ∧ ∀ i, i < k → x.gone i = 0) (fun k => 8 - k) 0 (by simp) (Ao ?_ ?_) fun k hk => ?_
 · simp (disch := omega) only [go_sem]
 · simp (disch := omega) only [go_sem]
 obtain ⟨hk1, hk2⟩ := hk;by_cases hlt : k < 8
 · have hl := Agg x hlt;by_cases hc : x.gone k = 0
   · rw [hc] at hl;simp (disch := omega) only [Jc, hl, go_sem];refine Al (k + 1) _ _ rfl ⟨by omega, fun i hi => ?_⟩ (by omega) ?_ ?_
     · rcases Nat.lt_succ_iff_lt_or_eq.1 hi with h | rfl
       · exact hk2 i h
       · exact hc
     · simp (disch := omega) only [go_sem]
     · simp (disch := omega) only [go_sem]
   · have hz : ¬ (x.gone k : Int) = 0 := by omega
     have he : ¬ Rn x.gone fun _ => 0 := fun h => hc (h k hlt);simp (disch := omega) only [Jc, hl, hz, he, go_sem]
 · have he : Rn x.gone fun _ => 0 := fun i hi => hk2 i (by omega);simp (disch := omega) only [Jc, he, go_sem]
end Go.Proofs.YthleeikkpjiicaaDoor.Fw
namespace Go.Proofs.YthleeikkpjiicaaDoor.Fw
open Go.RowKit Go.Proofs
theorem S4 (x : Ent) : Ce [K1.int .i64, K1.int .u32, K1.int .i64, K1.int .u32, .str, K1.int .i64, K1.int .u32, .int .u32, .int .u32, .int .u32, .int .u32, .int .u32, .int .u32, .int .u32, .int .u32] (Ah x) = True := eq_true rfl
theorem Sa (c : List PV) : V8 c c = true := by simp [V8]
def M9 (f g : Bool) (l m : List Ent) (k : Nat) : FS := mk [(5, .pv (.i .i64 k)), (0, .pv (.sl f 15 (l.map Ah))), (1, .pv (.sl g 15 (m.map Ah)))] []
theorem Aa3 {x y : SV} {f g : Bool} {l m : List Ent} {h d} (hx : Bk h [x, y] = [.pv (.sl f 15 (l.map Ah)), .pv (.sl g 15 (m.map Ah))]) (hl : Az [x, y] = true) (he : l = m) (hn : l.length ≤ 1000) :
 FunOk Tryd.prog 15 [x, y] h d (.pv (.b true)) [] := by
 refine Cm mixed fn15 (by simp) hl rfl fun F => ?_;subst he;rw [hx];simp (disch := omega) only [ir15, List.length_map, go_sem];refine Au mixed (M9 f g l l) (fun k => k ≤ l.length) (fun k => l.length - k) 0 (by simp) (Ao ?_ ?_) fun k hk => ?_
 · simp (disch := omega) only [go_sem]
 · simp (disch := omega) only [go_sem]
 by_cases hlt : k < l.length
 · have h2 : (l.map Ah)[k]? = some (Ah l[k]) := by simp [hlt]
   generalize l[k] = v at *;have hp := Sa (Ah v);have hf := S4 v;simp (disch := omega) only [M9, List.length_map, h2, Ax, hp, hf, go_sem];refine Al (k + 1) _ _ rfl (by omega) (by omega) ?_ ?_
   · simp (disch := omega) only [go_sem]
   · simp (disch := omega) only [go_sem]
 · simp (disch := omega) only [M9, List.length_map, go_sem]
def Qa (l : List Ent) : Prop := ∀ i, (h : i + 1 < l.length) → Em l[i].id l[i + 1].id = true
open Classical in
noncomputable def Oa (l : List Ent) : Bool := decide (Qa l)
theorem S6 {l : List Ent} (h : Qa l) : Oa l = true := by simp [Oa, h]
theorem S7 {l : List Ent} (h : ¬ Qa l) : Oa l = false := by simp [Oa, h]
theorem N9 : ∀ {l : List Ent}, Qa l → Du l
 | [], _ => List.Pairwise.nil
 | [v], _ => List.pairwise_singleton _ _
 | v :: u :: l, h => by
   have h1 : Em v.id u.id = true := h 0 (by simp);have h2 := N9 (l := u :: l) fun i hi => h (i + 1) (by simpa using hi);refine List.Pairwise.cons (fun w hw => ?_) h2;rcases List.mem_cons.1 hw with rfl | hw
   · exact h1
   · exact Fv h1 (List.rel_of_pairwise_cons h2 hw)
def Md (f : Bool) (l : List Ent) (j : Nat) : FS := mk [(3, .pv (.i .i64 ((j + 1 : Nat) : Int))), (0, .pv (.sl f 15 (l.map Ah)))] []
theorem Af1 {x : SV} {f : Bool} {l : List Ent} {h d} (hx : Bk h [x] = [.pv (.sl f 15 (l.map Ah))]) (hl : Az [x] = true) (hn : l.length ≤ 1000) :
 FunOk Tryd.prog 22 [x] h d (.pv (.b (Oa l))) [] := by
 refine Cm mixed fn22 (by simp) hl rfl fun F => ?_;rw [hx];simp (disch := omega) only [ir22, List.length_map, go_sem];refine Au mixed (Md f l) (fun k => ∀ i, (hi : i + 1 < l.length) → i < k → Em l[i].id l[i + 1].id = true) (fun k => l.length - k) 0 (by simp) (Ao ?_ ?_) fun k hk => ?_
 · simp (disch := omega) only [go_sem]
 · simp (disch := omega) only [go_sem]
 by_cases hlt : k + 1 < l.length
 · have he : (l.map Ah)[k]? = some (Ah l[k]) := by simp [show k < l.length by omega]
   have he' : (l.map Ah)[k + 1]? = some (Ah l[k + 1]) := by simp [hlt]
   have ek : (((k + 1 : Nat) : Int) - 1).toNat = k := by omega
   by_cases hd : Em l[k].id l[k + 1].id = true
   · have hd' : G0 l[k].id.1 l[k].id.2 l[k + 1].id.1 l[k + 1].id.2 = true := hd;simp (disch := omega) only [Md, List.length_map, he, he', ek, Cv, go_sem];refine Ab (Wd _ _ _ _) ?_;simp (disch := omega) only [hd', go_sem];refine Al (k + 1) _ _ rfl (fun i hi hik => ?_) (by omega) ?_ ?_
     · by_cases e : i = k
       · subst e; exact hd
       · exact hk i hi (by omega)
     · simp (disch := omega) only [go_sem]
     · simp (disch := omega) only [go_sem]
   · have hf := S7 (l := l) fun h => hd (h k hlt);have hd' : G0 l[k].id.1 l[k].id.2 l[k + 1].id.1 l[k + 1].id.2 = false := by simpa using hd
     simp (disch := omega) only [Md, List.length_map, he, he', ek, Cv, go_sem];refine Ab (Wd _ _ _ _) ?_;simp (disch := omega) only [hd', hf, go_sem]
 · have hf := S6 (l := l) fun i hi => hk i hi (by omega);simp (disch := omega) only [Md, List.length_map, hf, go_sem]
def W0 (l : List Ent) : Prop := l.length ≤ 40 ∧ Qa l ∧ ∀ x ∈ l, x.name.length ≤ 40
open Classical in
noncomputable def N8 (l : List Ent) : Bool := decide (W0 l)
theorem S5 {l : List Ent} (h : W0 l) : N8 l = true := by simp [N8, h]
theorem J0 {l : List Ent} (h : ¬ W0 l) : N8 l = false := by simp [N8, h]
def Mc (f : Bool) (l : List Ent) (k : Nat) : FS := mk [(15, .pv (.i .i64 k)), (14, .pv (.i .i64 l.length)), (13, .pv (.sl f 15 (l.map Ah))), (0, .pv (.sl f 15 (l.map Ah)))] []
set_option maxHeartbeats 1000000 in
theorem Af0 {x : SV} {f : Bool} {l : List Ent} {h d} (hx : Bk h [x] = [.pv (.sl f 15 (l.map Ah))]) (hl : Az [x] = true) :
 FunOk Tryd.prog 11 [x] h d (.pv (.b (N8 l))) [] := by
 refine Cm mixed fn11 (by simp) hl rfl fun F => ?_;rw [hx];by_cases h40 : 40 < (l.length : Int)
 · have hf := J0 (l := l) fun h => by have := h.1; omega
   simp (disch := omega) only [ir11, List.length_map, hf, go_sem]
 simp (disch := omega) only [ir11, List.length_map, go_sem];refine Ab (Af1 (l := l) rfl rfl (by omega)) ?_;by_cases hF : Qa l
 · have e := S6 hF;simp (disch := omega) only [e, go_sem];refine Au mixed (Mc f l) (fun k => k ≤ l.length ∧ ∀ v ∈ l.take k, v.name.length ≤ 40) (fun k => l.length - k) 0 (by simp) (Ao ?_ ?_) fun k hk => ?_
   · simp (disch := omega) only [List.length_map, go_sem]
   · simp (disch := omega) only [go_sem]
   obtain ⟨hk1, hk2⟩ := hk;by_cases hlt : k < l.length
   · have he : (l.map Ah)[k]? = some (Ah l[k]) := by simp [hlt]
     have ht : l.take (k + 1) = l.take k ++ [l[k]] := by rw [List.take_add_one, List.getElem?_eq_getElem hlt]; rfl
     have hm : l[k] ∈ l := List.getElem_mem hlt;generalize l[k] = v at *;have hv := Ar v;by_cases hd : 40 < (v.name.length : Int)
     · have hf := J0 (l := l) fun h => by have := h.2.2 v hm; omega
       simp (disch := omega) only [Mc, List.length_map, he, Ax, hv, Bs, hf, go_sem]
     · simp (disch := omega) only [Mc, List.length_map, he, Ax, hv, Bs, go_sem];refine Al (k + 1) _ _ rfl ⟨by omega, fun u hu => ?_⟩ (by omega) ?_ ?_
       · rw [ht] at hu;rcases List.mem_append.1 hu with hu | hu
         · exact hk2 u hu
         · simp at hu; subst hu; omega
       · simp (disch := omega) only [List.length_map, go_sem]
       · simp (disch := omega) only [go_sem]
   · obtain rfl : k = l.length := by omega
     rw [List.take_length] at hk2;have hf := S5 (l := l) ⟨by omega, hF, hk2⟩;simp (disch := omega) only [Mc, List.length_map, hf, go_sem]
 · have e := S7 hF;have hf := J0 (l := l) fun h => hF h.2.1;simp (disch := omega) only [e, hf, go_sem]
theorem FunOk.same {P : Program} {f : Nat} {args : List SV} {h : Nat → Option Blk} {d : Nat} {x : SV} {n : Nat} {b : Blk} (hf : FunOk P f args h d x []) (hn : h n = some b) (hm : n ∈ Ay args) : FunOk P f args h d x [.upd n b] :=
 ⟨hf.1, fun F N ρ s a w hR hh vs hc => by
  have e : s.hup [.upd n b] = s := by
   refine FS.ext' (fun k => rfl) (fun k => ?_);show (if k = n then some b else s.h k) = s.h k;split
   · rename_i e; subst e; rw [hh k hm, hn]
   · rfl
  rw [e];exact hf.2 F N ρ s a w hR hh vs hc⟩
theorem Aij (s : List UInt8) {h d} : FunOk Tryd.prog 56 [.pv (.s s)] h d (.pv (.b false)) [] := by
 refine A6 mixed fn56 (by simp) rfl rfl fun F => ?_;simp (disch := omega) only [ir56, go_sem]
def Eo (a b : List UInt8) : Int := if Op.bytesLess a b = true then -1 else if a = b then 0 else 1
theorem Akm (a b : List UInt8) {h d} : FunOk Tryd.prog 39 [.pv (.s a), .pv (.s b)] h d (.pv (.i .i64 (Eo a b))) [] := by
 refine A6 mixed fn39 (by simp) rfl rfl fun F => ?_;simp (disch := omega) only [ir39, go_sem];refine Ab (Aij _) ?_;simp (disch := omega) only [go_sem];refine Ab (Aij _) ?_;by_cases h1 : Op.bytesLess a b = true
 · have e : Eo a b = -1 := by unfold Eo; rw [if_pos h1]
   simp (disch := omega) only [h1, e, go_sem]
 · have h1' : Op.bytesLess a b = false := by simpa using h1
   by_cases h2 : a = b
   · subst h2;have e : Eo a a = 0 := by unfold Eo; rw [if_neg h1, if_pos rfl]
     have ed : decide (a = a) = true := by simp
     simp (disch := omega) only [h1', ed, e, go_sem]
   · have e : Eo a b = 1 := by unfold Eo; rw [if_neg h1, if_neg h2]
     simp (disch := omega) only [h1', h2, e, go_sem]
theorem Nt (x y : Ent) {h d} : FunOk Tryd.prog 38 [.vec 15 (Ah x), .vec 15 (Ah y)] h d (.pv (.i .i64 (Eo x.name y.name))) [] := by
 refine A6 mixed fn38 (by simp) rfl rfl fun F => ?_;simp (disch := omega) only [ir38, Bs, go_sem];refine Ab (Akm _ _) ?_;simp (disch := omega) only [go_sem]
def fIn : SV := .fn (.func 38) []
theorem Pa (l : List UInt8) : Op.bytesLess l l = false := by
 induction l with
 | nil => rfl
 | cons c l ih => simp [Op.bytesLess, ih]
def T0 (x y : Ent) (k : Nat) : FS := mk [(8, .pv (.i .i64 k)), (0, .pv (.sl false 15 [Ah x, Ah y])), (1, .pv (.i .i64 0)), (2, .pv (.i .i64 2)), (3, .fn (.func 38) [])] []
def Vx (x y : Ent) (_ : Unit) : FS := mk [(9, .pv (.i .i64 1)), (8, .pv (.i .i64 1)), (0, .pv (.sl false 15 [Ah x, Ah y])), (1, .pv (.i .i64 0)), (2, .pv (.i .i64 2)), (3, .fn (.func 38) [])] []
theorem Akk {x y : Ent} (he : x.name = y.name) {a : SV} {h d} (hx : Bk h [a, .pv (.i .i64 0), .pv (.i .i64 2), .fn (.func 38) []] = [.pv (.sl false 15 [Ah x, Ah y]), .pv (.i .i64 0), .pv (.i .i64 2), .fn (.func 38) []]) (hl : Az [a, .pv (.i .i64 0), .pv (.i .i64 2), .fn (.func 38) []] = true) :
 FunOk Tryd.prog 67 [a, .pv (.i .i64 0), .pv (.i .i64 2), .fn (.func 38) []] h d (.tup []) [] := by
 refine Cm mixed fn67 (by simp) hl rfl fun F => ?_;rw [hx];simp (disch := omega) only [ir67, go_sem];refine Au mixed (T0 x y) (fun k => k = 1 ∨ k = 2) (fun k => 2 - k) 1 (.inl rfl) (Ao ?_ ?_) fun k hk => ?_
 · simp (disch := omega) only [go_sem]
 · simp (disch := omega) only [go_sem]
 rcases hk with rfl | rfl
 · simp (disch := omega) only [T0, go_sem];refine Au mixed (Vx x y) (fun _ => True) (fun _ => 0) () trivial (Ao ?_ ?_) fun _ _ => ?_
   · simp (disch := omega) only [go_sem]
   · simp (disch := omega) only [go_sem]
   have e0 : [Ah x, Ah y][((1 : Int) - 1).toNat]? = some (Ah x) := rfl;have e1 : [Ah x, Ah y][Int.toNat 1]? = some (Ah y) := rfl;have ec : Eo y.name x.name = 0 := by unfold Eo; rw [he, Pa]; simp
   simp (disch := omega) only [Vx, e0, e1, Ax, go_sem];refine Ab (Nt _ _) ?_;simp (disch := omega) only [ec, go_sem];refine Al (x := 1) 2 _ _ rfl (.inr rfl) (by omega) ?_ ?_
   · simp (disch := omega) only [go_sem]
   · simp (disch := omega) only [go_sem]
 · simp (disch := omega) only [T0, go_sem];rfl
def Vu (x y : Ent) (_ : Unit) : FS := mk [(8, .pv (.i .i64 20)), (7, .pv (.i .i64 0)), (6, .pv (.i .i64 20)), (0, .pv (.sl false 15 [Ah x, Ah y])), (1, .pv (.i .i64 2)), (2, .fn (.func 38) [])] []
theorem Xt {x y : Ent} (he : x.name = y.name) {a : SV} {h d} (hx : Bk h [a, .pv (.i .i64 2), .fn (.func 38) []] = [.pv (.sl false 15 [Ah x, Ah y]), .pv (.i .i64 2), .fn (.func 38) []]) (hl : Az [a, .pv (.i .i64 2), .fn (.func 38) []] = true) :
 FunOk Tryd.prog 55 [a, .pv (.i .i64 2), .fn (.func 38) []] h d (.tup []) [] := by
 refine Cm mixed fn55 (by simp) hl rfl fun F => ?_;rw [hx];simp (disch := omega) only [ir55, go_sem];refine Au mixed (Vu x y) (fun _ => True) (fun _ => 0) () trivial (Ao ?_ ?_) fun _ _ => ?_
 · simp (disch := omega) only [go_sem]
 · simp (disch := omega) only [go_sem]
 simp (disch := omega) only [Vu, go_sem];refine Ab (Akk he rfl rfl) ?_;simp (disch := omega) only [go_sem];refine Au mixed (Vu x y) (fun _ => True) (fun _ => 0) () trivial (Ao ?_ ?_) fun _ _ => ?_
 · simp (disch := omega) only [go_sem]
 · simp (disch := omega) only [go_sem]
 simp (disch := omega) only [Vu, go_sem];rfl
theorem Afy {x y : Ent} (he : x.name = y.name) {a : SV} {h d} (hx : Bk h [a, .fn (.func 38) []] = [.pv (.sl false 15 [Ah x, Ah y]), .fn (.func 38) []]) (hl : Az [a, .fn (.func 38) []] = true) :
 FunOk Tryd.prog 37 [a, .fn (.func 38) []] h d (.tup []) [] := by
 refine Cm mixed fn37 (by simp) hl rfl fun F => ?_;rw [hx];simp (disch := omega) only [ir37, go_sem];refine Ab (Xt he rfl rfl) ?_;simp (disch := omega) only [go_sem];rfl
end Go.Proofs.YthleeikkpjiicaaDoor.Fw
namespace Go.Proofs.YthleeikkpjiicaaDoor.Fw
open Go.RowKit Go.Proofs
def Gl (dir : D7) (x : Ent) : Bool := decide (x.dir = dir) && decide (Rn x.gone fun _ => 0)
def V0 (f : Bool) (l : List Ent) (dir : D7) (k : Nat) : FS := mk [(10, .pv (.i .i64 k)), (9, .pv (.i .i64 l.length)), (8, .pv (.sl f 15 (l.map Ah))), (5, .os 40), (3, .p 3 0)] [(40, some (.row 15 (((l.take k).filter (Gl dir)).map Ah))), (3, some (.var (.vec 2 [.i .i64 dir.1, .i .u32 dir.2])))]
theorem E2 {l : List Ent} {k : Nat} {y : Ent} (h : l[k]? = some y) (P : Ent → Bool) : (l.take (k + 1)).filter P = (l.take k).filter P ++ if P y = true then [y] else [] := by
 rw [List.take_add_one, h, List.filter_append];congr 1;cases hp : P y <;> simp [hp]
set_option maxHeartbeats 1000000 in
theorem Aik {x : SV} {f : Bool} {l M : List Ent} {dir : D7} {h d} (hq : ∀ {h d}, h 40 = some (.row 15 ((l.filter (Gl dir)).map Ah)) → FunOk Tryd.prog 37 [.os 40, .fn (.func 38) []] h d (.tup []) [.upd 40 (.row 15 (M.map Ah))])
 (hx : Bk h [x, .vec 2 [.i .i64 dir.1, .i .u32 dir.2]] = [.pv (.sl f 15 (l.map Ah)), .vec 2 [.i .i64 dir.1, .i .u32 dir.2]]) (hl : Az [x, .vec 2 [.i .i64 dir.1, .i .u32 dir.2]] = true) (hn : l.length ≤ 1000) :
 FunOk Tryd.prog 14 [x, .vec 2 [.i .i64 dir.1, .i .u32 dir.2]] h d (.os d) [.new d (.row 15 (M.map Ah))] := by
 refine Hx mixed fn14 (by simp) hl (.inr (F3 _)) fun F => ?_;rw [hx];simp (disch := omega) only [ir14, List.length_map, go_sem];refine Au mixed (V0 f l dir) (fun k => k ≤ l.length) (fun k => l.length - k) 0 (Nat.zero_le _) (My 5 40 15 rfl (by omega) (Ao ?_ ?_)) fun k hk => ?_
 · simp (disch := omega) only [go_sem]
 · simp (disch := omega) only [go_sem];rfl
 by_cases hlt : k < l.length
 · have hx' : l[k]? = some l[k] := List.getElem?_eq_getElem hlt;have he : (l.map Ah)[k]? = some (Ah l[k]) := by rw [List.getElem?_map, hx']; rfl
   have ht := E2 hx' (Gl dir);have hb : ((l.take k).filter (Gl dir)).length ≤ k := Nat.le_trans (List.length_filter_le _ _) (by simp; omega);generalize l[k] = y at *;have hcy := Ar y;by_cases hid : y.dir = dir
   · have hp := Ql hid;simp (disch := omega) only [V0, List.length_map, he, Ax, Hu, E1, hp, hcy, go_sem];refine Ab (Nu _) ?_;by_cases ha : Rn y.gone fun _ => 0
     · have hP : Gl dir y = true := by simp [Gl, hid, ha]
       rw [if_pos hP] at ht;simp (disch := omega) only [ha, Ax, hcy, List.length_map, go_sem];refine ⟨k + 1, by omega, by omega, E6 25 40 (by decide) rfl (Ao ?_ ?_)⟩
       · simp (disch := omega) only [go_sem]
       · simp (disch := omega) only [ht, go_sem];simp
     · have hP : ¬ Gl dir y = true := by simp [Gl, hid, ha]
       rw [if_neg hP, List.append_nil] at ht;simp (disch := omega) only [ha, go_sem];refine Al (k + 1) _ _ rfl (by omega) (by omega) ?_ ?_
       · simp (disch := omega) only [go_sem]
       · simp (disch := omega) only [ht, go_sem]
   · have hp := Qm hid;have hP : ¬ Gl dir y = true := by simp [Gl, hid]
     rw [if_neg hP, List.append_nil] at ht;simp (disch := omega) only [V0, List.length_map, he, Ax, Hu, E1, hp, hcy, go_sem];refine Al (k + 1) _ _ rfl (by omega) (by omega) ?_ ?_
     · simp (disch := omega) only [go_sem]
     · simp (disch := omega) only [ht, go_sem]
 · obtain rfl : k = l.length := by omega
   have e := List.take_length (l := l);simp (disch := omega) only [V0, List.length_map, e, go_sem];refine Ab (hq rfl) ?_;simp (disch := omega) only [go_sem]
def Iy (n : Nat) : List UInt8 := if h : n < 10 then [UInt8.ofNat (48 + n)] else Iy (n / 10) ++ [UInt8.ofNat (48 + n % 10)]
termination_by n
decreasing_by omega
def O9 (n : Int) : List UInt8 := if n < 0 then 45 :: Iy n.natAbs else Iy n.toNat
def Ks (s : List UInt8) (i : D7) : List UInt8 := s ++ [126] ++ O9 i.1 ++ [46] ++ Iy i.2
theorem Ac7 : Iy 1 = [49] := by unfold Iy; rfl
theorem Alv : Iy 2 = [50] := by unfold Iy; rfl
theorem Ac9 : O9 2 = [50] := by unfold O9; rw [if_neg (by omega)]; exact Alv
theorem Si (n : Nat) (hn : n = 1 ∨ n = 2) {h d} : FunOk Tryd.prog 72 [.pv (.i .i64 (n : Int))] h d (.pv (.s [UInt8.ofNat (48 + n)])) [] := by
 refine A6 mixed fn72 (by simp) rfl rfl fun F => ?_;rcases hn with rfl | rfl
 · simp (disch := omega) only [ir72, go_sem];rfl
 · simp (disch := omega) only [ir72, go_sem];rfl
theorem Akh {h d} : FunOk Tryd.prog 36 [.pv (.s [97]), .vec 2 [.i .i64 2, .i .u32 1]] h d (.pv (.s (Ks [97] (2, 1)))) [] := by
 have e : Ks [97] (2, 1) = [97, 126, 50, 46, 49] := by unfold Ks; rw [Ac9, Ac7]; rfl
 rw [e];have k1 : ∀ {h d}, FunOk Tryd.prog 71 [.pv (.i .i64 2), .pv (.i .i64 10)] h d (.pv (.s [50])) [] := fun {h d} => by
  refine A6 mixed fn71 (by simp) rfl rfl fun F => ?_;simp (disch := omega) only [ir71, go_sem];refine Ab (Si 2 (.inr rfl)) ?_;simp (disch := omega) only [go_sem];rfl
 have k2 : ∀ {h d}, FunOk Tryd.prog 65 [.pv (.i .i64 2)] h d (.pv (.s [50])) [] := fun {h d} => by
  refine A6 mixed fn65 (by simp) rfl rfl fun F => ?_;simp (disch := omega) only [ir65, go_sem];refine Ab k1 ?_;simp (disch := omega) only [go_sem]
 have k3 : ∀ {h d}, FunOk Tryd.prog 53 [.pv (.i .i64 2)] h d (.pv (.s [50])) [] := fun {h d} => by
  refine A6 mixed fn53 (by simp) rfl rfl fun F => ?_;simp (disch := omega) only [ir53, go_sem];refine Ab k2 ?_;simp (disch := omega) only [go_sem]
 have k4 : ∀ {h d}, FunOk Tryd.prog 66 [.pv (.i .u64 1), .pv (.i .i64 10)] h d (.pv (.s [49])) [] := fun {h d} => by
  refine A6 mixed fn66 (by simp) rfl rfl fun F => ?_;simp (disch := omega) only [ir66, go_sem];refine Ab (Si 1 (.inl rfl)) ?_;simp (disch := omega) only [go_sem];rfl
 have k5 : ∀ {h d}, FunOk Tryd.prog 54 [.pv (.i .u64 1), .pv (.i .i64 10)] h d (.pv (.s [49])) [] := fun {h d} => by
  refine A6 mixed fn54 (by simp) rfl rfl fun F => ?_;simp (disch := omega) only [ir54, go_sem];refine Ab k4 ?_;simp (disch := omega) only [go_sem]
 refine A6 mixed fn36 (by simp) rfl rfl fun F => ?_;simp (disch := omega) only [ir36, go_sem];refine Ab k3 ?_;simp (disch := omega) only [go_sem];refine Ab k5 ?_;simp (disch := omega) only [go_sem]
def Ef (t : List UInt8) : List PV := [.s t]
def Fi (l : List Ent) (k : Nat) (x : Ent) : Prop := 0 < k ∧ ∃ y, l[k - 1]? = some y ∧ y.name = x.name
open Classical in
noncomputable def O3 (l : List Ent) (k : Nat) : List UInt8 := match l[k]? with
 | some x => if Fi l k x then Ks x.name x.id else x.name
 | none => []
noncomputable def L5 (l : List Ent) (k : Nat) : List (List UInt8) := (List.range k).map (O3 l)
theorem Pg (l : List Ent) (k : Nat) : L5 l (k + 1) = L5 l k ++ [O3 l k] := by simp [L5, List.range_succ]
theorem Nd (l : List Ent) (k : Nat) : (L5 l k).length = k := by simp [L5]
theorem Ajq {l : List Ent} {k : Nat} {x : Ent} (h : l[k]? = some x) (hs : Fi l k x) : O3 l k = Ks x.name x.id := by unfold O3; rw [h]; simp only; rw [if_pos hs]
theorem Ajr {l : List Ent} {k : Nat} {x : Ent} (h : l[k]? = some x) (hs : ¬ Fi l k x) : O3 l k = x.name := by unfold O3; rw [h]; simp only; rw [if_neg hs]
theorem Pd (l : List (List UInt8)) : ∀ c ∈ l.map Ef, c.all PV.flat = true := by
 intro c hc;obtain ⟨v, _, rfl⟩ := List.mem_map.1 hc;rfl
def Jb (f : Bool) (l : List Ent) (L : List (List UInt8)) (k : Nat) : FS := mk [(8, .pv (.i .i64 k)), (7, .pv (.i .i64 l.length)), (6, .pv (.sl f 15 (l.map Ah))), (3, .os 60), (0, .pv (.sl f 15 (l.map Ah)))] [(60, some (.row 1 (L.map Ef)))]
set_option maxHeartbeats 1000000 in
theorem Wc {x : SV} {f : Bool} {l : List Ent} {h d} (htag : ∀ k y, l[k]? = some y → Fi l k y → ∀ {h d}, FunOk Tryd.prog 36 [.pv (.s y.name), .vec 2 [.i .i64 y.id.1, .i .u32 y.id.2]] h d (.pv (.s (Ks y.name y.id))) [])
 (hx : Bk h [x] = [.pv (.sl f 15 (l.map Ah))]) (hl : Az [x] = true) (hn : l.length ≤ 1000) :
 FunOk Tryd.prog 13 [x] h d (.os d) [.new d (.row 1 ((L5 l l.length).map Ef))] := by
 refine Hx mixed fn13 (by simp) hl (.inr (Pd _)) fun F => ?_;rw [hx];simp (disch := omega) only [ir13, List.length_map, go_sem];refine Au mixed (fun k => Jb f l (L5 l k) k) (fun k => k ≤ l.length) (fun k => l.length - k) 0 (Nat.zero_le _) (My 3 60 1 rfl (by omega) (Ao ?_ ?_)) fun k hk => ?_
 · simp (disch := omega) only [go_sem]
 · simp (disch := omega) only [go_sem];rfl
 by_cases hlt : k < l.length
 · have hx' : l[k]? = some l[k] := List.getElem?_eq_getElem hlt;have he : (l.map Ah)[k]? = some (Ah l[k]) := by rw [List.getElem?_map, hx']; rfl
   have hm : l[k] ∈ l := List.getElem_mem hlt;have ht := Pg l k;have hLn := Nd l k;have s1 := Ajq hx';have s2 := Ajr hx';have htg := fun q h d => htag k _ hx' q (h := h) (d := d);generalize l[k] = y at *;have hcy := Ar y;by_cases h0 : 0 < k
   · have hp : l[k - 1]? = some l[k - 1] := List.getElem?_eq_getElem (by omega);have hpe : (l.map Ah)[((k : Int) - 1).toNat]? = some (Ah l[k - 1]) := by rw [show ((k : Int) - 1).toNat = k - 1 by omega, List.getElem?_map, hp]; rfl
     by_cases hsn : l[k - 1].name = y.name
     · have hsm : Fi l k y := ⟨h0, _, hp, hsn⟩
       rw [s1 hsm] at ht;generalize l[k - 1] = z at *;simp (disch := omega) only [Jb, List.length_map, he, hpe, Ax, Bs, Cv, hcy, hsn, go_sem];refine Ab (htg hsm _ _) ?_;simp (disch := omega) only [List.length_map, hLn, go_sem];refine ⟨k + 1, by omega, by omega, E6 33 60 (by decide) rfl (Ao ?_ ?_)⟩
       · simp (disch := omega) only [go_sem]
       · simp (disch := omega) only [go_sem];simp [ht, Ef]
     · rw [s2 (by rintro ⟨_, z, h1, h2⟩; rw [hp] at h1; cases h1; exact hsn h2)] at ht;simp (disch := omega) only [Jb, List.length_map, he, hpe, Ax, Bs, Cv, hcy, hsn, hLn, go_sem];refine ⟨k + 1, by omega, by omega, E6 38 60 (by decide) rfl (Ao ?_ ?_)⟩
       · simp (disch := omega) only [go_sem]
       · simp (disch := omega) only [go_sem];simp [ht, Ef]
   · rw [s2 (fun h => h0 h.1)] at ht;simp (disch := omega) only [Jb, List.length_map, he, Ax, Bs, Cv, hcy, hLn, go_sem];refine ⟨k + 1, by omega, by omega, E6 38 60 (by decide) rfl (Ao ?_ ?_)⟩
     · simp (disch := omega) only [go_sem]
     · simp (disch := omega) only [go_sem];simp [ht, Ef]
 · obtain rfl : k = l.length := by omega
   simp (disch := omega) only [Jb, List.length_map, go_sem]
theorem Aa5 (r : Int) (q : Nat) {h d} : FunOk Tryd.prog 35 [.pv (.i .i64 r), .pv (.i .u32 q)] h d (.agg [.pv (.i .i64 r), .pv (.i .u32 q)]) [] := by
 refine A6 mixed fn35 (by simp) rfl rfl fun F => ?_;simp (disch := omega) only [ir35, go_sem]
def J2 : Ent := ⟨(2, 1), (0, 0), [97], (0, 0), fun _ => 0⟩
def I7 : Ent := ⟨(1, 1), (0, 0), [97], (0, 0), fun _ => 0⟩
theorem Agr {f : Bool} {y z : Nat} : Imp (.pv (.sl f y [])) (.pv (.sl f z [])) := by
 intro V ρ v h;simp only [Conc] at h ⊢;cases h with
 | sl full sz es a cap cs bl off arr hcap hfull hsz ha hcs hel =>
   exact .sl f z [] a cap cs bl off arr hcap hfull (by simp) (by simp) (by simp) (by simp)
theorem Asj : Vn [J2] I7 = [I7, J2] := by
 have h1 : X8 [J2] I7.id = false := by unfold X8; rfl
 unfold Vn;rw [if_neg (by rw [h1]; simp)];rw [Yb, if_neg (by show ¬ Em (2, 1) (1, 1) = true; rw [Jt]; decide)]
theorem in2 : [I7, J2].filter (Gl (0, 0)) = [I7, J2] := by
 have h1 : Gl (0, 0) I7 = true := by simp [Gl, I7, Rn]
 have h2 : Gl (0, 0) J2 = true := by simp [Gl, J2, Rn]
 simp [h1, h2]
theorem sh2 : L5 [I7, J2] 2 = [[97], [97, 126, 50, 46, 49]] := by
 have h0 : O3 [I7, J2] 0 = [97] := Ajr (x := I7) rfl fun h => absurd h.1 (by omega);have h1 : O3 [I7, J2] 1 = Ks [97] (2, 1) := Ajq (x := J2) rfl ⟨by omega, I7, rfl, rfl⟩;have e : Ks [97] (2, 1) = [97, 126, 50, 46, 49] := by unfold Ks; rw [Ac9, Ac7]; rfl
 show [O3 [I7, J2] 0, O3 [I7, J2] 1] = _;rw [h0, h1, e]
set_option maxHeartbeats 1000000 in
theorem Wl {h d} : FunOk Tryd.prog 10 [] h d (.pv (.b true)) [] := by
 refine A6 mixed fn10 (by simp) rfl rfl fun F => ?_;simp (disch := omega) only [ir10, go_sem];refine Ab (Aa5 2 1) ?_;simp (disch := omega) only [go_sem];have k1 : ∀ {h d}, FunOk Tryd.prog 23 [.pv (.sl true 0 []), .agg [.pv (.i .i64 2), .pv (.i .u32 1), .pv (.i .i64 0), .pv (.i .u32 0), .pv (.s [97]), .pv (.i .i64 0), .pv (.i .u32 0), .vec 8 (List.replicate 8 (.i .u32 0))]] h d (.os d) [.new d (.row 15 ([J2].map Ah))] := fun {h d} =>
  (Aa7 (a := .pv (.sl true 15 [])) (f := true) (l := []) J2 rfl rfl List.Pairwise.nil (Nat.zero_le _)).imp ⟨Agr, Q8 rfl rfl, trivial⟩ (by simp [Ay, tn])
 refine Ab k1 ?_;simp (disch := omega) only [go_sem];refine Ab (Aa5 1 1) ?_;simp (disch := omega) only [go_sem];have k2 : ∀ {h d}, h 5 = some (.row 15 ([J2].map Ah)) → FunOk Tryd.prog 23 [.os 5, .agg [.pv (.i .i64 1), .pv (.i .u32 ((1 : Nat) : Int)), .pv (.i .i64 0), .pv (.i .u32 0), .pv (.s [97]), .pv (.i .i64 0), .pv (.i .u32 0), .vec 8 (vE fun _ => 0)]] h d (.os d) [.new d (.row 15 ([I7, J2].map Ah))] := fun {h d} h5 => by
  rw [← Asj];exact (Aa7 (a := .os 5) (f := false) (l := [J2]) I7 (by simp only [Bk, Mk _ _ _ _ h5]; rfl) rfl (List.pairwise_singleton _ _) (by decide)).imp ⟨Imp.refl _, Q8 rfl rfl, trivial⟩ (fun n hn => hn)
 refine Ab (k2 rfl) ?_;simp (disch := omega) only [go_sem];have k3 : ∀ {h d}, h 8 = some (.row 15 ([I7, J2].map Ah)) → FunOk Tryd.prog 14 [.os 8, .agg [.pv (.i .i64 0), .pv (.i .u32 0)]] h d (.os d) [.new d (.row 15 ([I7, J2].map Ah))] := fun {h d} h8 =>
  (Aik (x := .os 8) (f := false) (l := [I7, J2]) (M := [I7, J2]) (dir := (0, 0)) (fun {h d} hh => by
    rw [in2] at hh;exact FunOk.same (Afy (x := I7) (y := J2) rfl (by simp only [Bk, Mk _ _ _ _ hh]; rfl) rfl) hh (by simp [Ay, tn])) (by simp only [Bk, Mk _ _ _ _ h8]; rfl) rfl (by decide)).imp ⟨Imp.refl _, Q8 rfl rfl, trivial⟩ (fun n hn => hn)
 refine Ab (k3 rfl) ?_;simp (disch := omega) only [go_sem];have k4 : ∀ {h d}, h 11 = some (.row 15 ([I7, J2].map Ah)) → FunOk Tryd.prog 13 [.os 11] h d (.os d) [.new d (.row 1 ([[97], [97, 126, 50, 46, 49]].map Ef))] := fun {h d} h11 => by
  rw [← sh2];refine Wc (x := .os 11) (f := false) (l := [I7, J2]) (fun k y hy hs {h d} => ?_) (by simp only [Bk, Mk _ _ _ _ h11]) rfl (by decide);have : k = 1 ∧ y = J2 := by
   obtain ⟨h0, _⟩ := hs;have hk : k < 2 := (List.getElem?_eq_some_iff.1 hy).1;obtain rfl : k = 1 := by omega
   cases hy; exact ⟨rfl, rfl⟩
  obtain ⟨rfl, rfl⟩ := this;exact Akh
 refine Ab (k4 rfl) ?_;have n1 : (((([I7, J2].map Ah).length : Nat) : Int) = 2) = True := eq_true rfl;have n2 : (((([[97], [97, 126, 50, 46, 49]].map Ef).length : Nat) : Int) = 2) = True := eq_true rfl;have n3 : ((0 : Int) < ((([[97], [97, 126, 50, 46, 49]].map Ef).length : Nat) : Int)) = True := eq_true (by decide);have n4 : ((1 : Int) < ((([[97], [97, 126, 50, 46, 49]].map Ef).length : Nat) : Int)) = True := eq_true (by decide);have n5 : ((0 : Int) < ((([I7, J2].map Ah).length : Nat) : Int)) = True := eq_true (by decide);have g1 : ([[97], [97, 126, 50, 46, 49]].map Ef)[0]? = some [PV.s [97]] := rfl;have g2 : ([[97], [97, 126, 50, 46, 49]].map Ef)[Int.toNat 1]? = some [PV.s [97, 126, 50, 46, 49]] := rfl;have g3 : ([I7, J2].map Ah)[0]? = some (Ah I7) := rfl;have hz : Rn I7.gone (fun _ => 0) := fun i _ => rfl;have q1 : ∀ K : KK, LoadK (some [PV.s [97]]) 0 1 false K = K (.pv (.s [97])) [] := fun K => by simp [LoadK, Ml]
 have q2 : ∀ K : KK, LoadK (some [PV.s [97, 126, 50, 46, 49]]) 0 1 false K = K (.pv (.s [97, 126, 50, 46, 49])) [] := fun K => by simp [LoadK, Ml]
 simp (disch := omega) only [n1, n2, n3, n4, n5, g1, g2, g3, q1, q2, Ax, go_sem];refine Ab (Nu I7) ?_;have hz' : decide (Rn I7.gone fun _ => 0) = true := by simp [hz]
 simp (disch := omega) only [hz', go_sem]
end Go.Proofs.YthleeikkpjiicaaDoor.Fw
namespace Go.Proofs.YthleeikkpjiicaaDoor.Fw
open Go.RowKit Go.Proofs Go.Shelf Go.Sort Go.Lib
set_option maxHeartbeats 6400000 in
theorem Ar2 (u : Nat) (hu64 : u < 18446744073709551616) (w : World) (htab : Lib.TabIs Tryd.prog w "internal/strconv.uint64pow10" .u64 Lib.pow10Tab) :
 Calls Tryd.prog 66 #[.int .u64 u, .int .i64 10] w fun e w' => e = .returned (.string ⟨(Lib.decDigits u).toArray⟩) ∧ ∃ k os, w' = Sort.grow (w.drewN k) os := by
 have mixed := N4.mixed;have t0 := Tryd.underlying0; have a0 := Tryd.isAgg0; have z0 := Tryd.sizeOf0; have v0 := Tryd.zeroValue0;have t3 := Tryd.underlying3; have a3 := Tryd.isAgg3; have z3 := Tryd.sizeOf3; have v3 := Tryd.zeroValue3;have t4 := Tryd.underlying4; have a4 := Tryd.isAgg4; have z4 := Tryd.sizeOf4; have v4 := Tryd.zeroValue4;have t5 := Tryd.underlying5; have a5 := Tryd.isAgg5; have z5 := Tryd.sizeOf5; have v5 := Tryd.zeroValue5;have t9 := Tryd.underlying9; have a9 := Tryd.isAgg9; have z9 := Tryd.sizeOf9; have v9 := Tryd.zeroValue9;have t76 := Tryd.underlying76; have a76 := Tryd.isAgg76; have z76 := Tryd.sizeOf76; have v76 := Tryd.zeroValue76;have t88 := Tryd.underlying88; have a88 := Tryd.isAgg88; have z88 := Tryd.sizeOf88; have v88 := Tryd.zeroValue88;have t91 := Tryd.underlying91; have a91 := Tryd.isAgg91; have z91 := Tryd.sizeOf91; have v91 := Tryd.zeroValue91;have e72 : ∀ args w, (callFunc 72 args).run Tryd.prog w = .ok (.enter 72 args) w := enters_of Tryd.func72 (by kernel_rfl) rfl;have e73 : ∀ args w, (callFunc 73 args).run Tryd.prog w = .ok (.enter 73 args) w := enters_of Tryd.func73 (by kernel_rfl) rfl;have e74 : ∀ args w, (callFunc 74 args).run Tryd.prog w = .ok (.enter 74 args) w := enters_of Tryd.func74 (by kernel_rfl) rfl;have k72 : ∀ (i : Nat), i < 100 → ∀ w, Calls Tryd.prog 72 #[.int .i64 i] w fun e w' => e = .returned (.string ⟨(Lib.decDigits i).toArray⟩) ∧ w' = w := fun i hi w => Any.internal_strconv_small (ρ := N3) { N4 with } i hi w;by_cases hs : u < 100
 · go_enter Tryd.func66, Tryd.ntmps66
   go_wp2_with (go_at_fn 72; refine (k72 u hs _).mono ?_; rintro e w' ⟨rfl, rfl⟩)
   go_ret
   exact ⟨rfl, 0, #[], by simp [World.drewN_zero]⟩
 · have hu1 : 1 ≤ u := by omega
   have hnd20 : Lib.nDigits u ≤ 20 := by have := Lib.numDigits_eq u hu1 hu64; split at this <;> omega
   have hb3 : Lib.nDigits u ≤ 24 := by omega
   have k73 : ∀ w, Lib.TabIs Tryd.prog w "internal/strconv.uint64pow10" .u64 Lib.pow10Tab → Calls Tryd.prog 73 #[.int .u64 u] w fun e w' => e = .returned (.int .i64 (Lib.nDigits u)) ∧ w' = w := fun w ht => Any.internal_strconv_numDigits (ρ := N3) { N4 with } u hu1 hu64 w ht;have hal : Tryd.prog.arrayLen 88 = 24 := by simp [Program.arrayLen, t88]
   have hsl1 : ∀ W, (Instr.sliceAt 88 (.pointer (some ⟨w.heap.size, 0, none⟩)) none (some (.int .i64 (Lib.nDigits u : Int))) none).run Tryd.prog W = .ok (.slice (some ⟨w.heap.size, 0, none⟩) (Lib.nDigits u) 24) W := fun W => by
    rw [run_sliceAt_array_h W 88 ⟨w.heap.size, 0, none⟩ (by simp [Program.arrayLen, Program.elem, t88]) .i64 (Lib.nDigits u : Int) (by omega) (by rw [hal]; omega)]
    go_simp
    try omega
   have hH0 := Lib.holds_zero0 w 88 (Lib.nDigits u) (by omega);have hfmt : Calls Tryd.prog 74 #[.slice (some ⟨w.heap.size, 0, none⟩) (Array.replicate (Lib.nDigits u) (0 : UInt8)).size 24, .int .u64 u] (w.alloc (.cells Lib.zeros24 88)) _ := Any.internal_strconv_formatBase10 (ρ := N3) { N4 with } w.heap.size 0 24 u (Array.replicate (Lib.nDigits u) 0) (w.alloc (.cells Lib.zeros24 88)) hH0 (by rw [Array.size_replicate]; exact Lib.lt_pow_nDigits u) hu64 (by rw [Array.size_replicate]; omega);rw [Array.size_replicate] at hfmt;have HH0 := Lib.hid hH0;clear hH0 hal
   go_enter Tryd.func66, Tryd.ntmps66
   go_wp2_with (go_at_fn 73; refine (k73 _ (Lib.tabIs_alloc htab _)).mono ?_; rintro e w' ⟨rfl, rfl⟩)
   go_at_fn 74
   refine hfmt.mono ?_;rintro e w' ⟨rfl, k, v', dk, rfl, hF⟩;have hcv : (convert 91 9 (.slice (some ⟨w.heap.size, 0, none⟩) (Lib.nDigits u) 24)).run Tryd.prog ((putRow (fun (b : UInt8) => Value.int .u8 (b.toNat : Int)) (w.alloc (.cells Lib.zeros24 88)) w.heap.size 0 dk).drewN k) = .ok (.string ⟨(Lib.decDigits u).toArray⟩) ((putRow (fun (b : UInt8) => Value.int .u8 (b.toNat : Int)) (w.alloc (.cells Lib.zeros24 88)) w.heap.size 0 dk).drewN k) := by
    have h := run_convert_bytes_back (P := Tryd.prog) ((putRow (fun (b : UInt8) => Value.int .u8 (b.toNat : Int)) (w.alloc (.cells Lib.zeros24 88)) w.heap.size 0 dk).drewN k) 91 9 5 ⟨w.heap.size, 0, none⟩ 24 (Lib.decDigits u) t91 t5 t9 (fun j hj => by
     rw [Lib.row_is_numeral hF j hj, Lib.add_plain, World.cell?_drewN];exact cell?_putRow (fun (b : UInt8) => Value.int .u8 (b.toNat : Int)) _ w.heap.size 0 _ dk HH0.out (by rw [hF.size, Array.size_replicate]) j (by rw [hF.size]; rw [Lib.decDigits_length] at hj; exact hj))
    rw [Lib.decDigits_length] at h;exact h
   go_wp2
   go_ret
   refine ⟨rfl, k, ?_⟩;rw [Sort.alloc_eq_grow];obtain ⟨os', _, e⟩ := Sort.putRow_grow_new (fun (b : UInt8) => Value.int .u8 (b.toNat : Int)) w #[.cells Lib.zeros24 88] w.heap.size 0 dk (Nat.le_refl _);exact ⟨os', by rw [e]; rfl⟩
end Go.Proofs.YthleeikkpjiicaaDoor.Fw
namespace Go.Proofs.YthleeikkpjiicaaDoor.Fw
open Go.RowKit Go.Proofs
theorem J4 (n : Nat) : Iy n = Lib.decDigits n := by
 refine Nat.strongRecOn (motive := fun n => Iy n = Lib.decDigits n) n fun n ih => ?_;unfold Iy Lib.decDigits;split
 · rfl
 · rw [ih (n / 10) (by omega)]
theorem Ac8 (n : Int) : O9 n = Lib.itoa n := by unfold O9 Lib.itoa; rw [J4, J4]
theorem Zx {w : World} (h : Vo w) : Lib.TabIs Tryd.prog w "internal/strconv.uint64pow10" .u64 Lib.pow10Tab := by
 have h1 := h _ List.mem_cons_self;have hg : Tryd.prog.globalNamed "internal/strconv.uint64pow10" = some 0 := by kernel_rfl
 unfold Lib.TabIs World.var?;rw [hg];unfold Bn at h1;exact h1
theorem Pw (w : World) (k : Nat) (os : Array Obj) : Grew w (Sort.grow (w.drewN k) os) :=
 ⟨rfl, rfl, rfl, by show _ ≤ (w.heap ++ os).size; simp, fun b hb => by show (w.heap ++ os)[b]? = _; rw [Array.getElem?_append_left hb]⟩
theorem Qq (n : Int) (h0 : -9223372036854775808 ≤ n) (h1 : n ≤ 9223372036854775807) {h d} : FunOk Tryd.prog 53 [.pv (.i .i64 n)] h d (.pv (.s (O9 n))) [] := by
 refine ⟨Bv fn53, fun F N ρ s a w hR hh vs hc => ?_⟩;simp only [ConcL] at hc;obtain ⟨v, us, rfl, hv, rfl⟩ := hc;obtain rfl := Bz hv;refine Calls.mono (Any.strconv_Itoa (ρ := N3) N4 n h0 h1 w (Zx hR.tabW)) fun e w' he => ?_;obtain ⟨rfl, k, os, rfl⟩ := he;rw [← Ac8];exact ⟨_, ρ, rfl, hR.grew (Pw w k os), by simp only [Conc]; exact .s _⟩
theorem Afz (u : Nat) (hu : u < 18446744073709551616) {h d} : FunOk Tryd.prog 66 [.pv (.i .u64 (u : Int)), .pv (.i .i64 10)] h d (.pv (.s (Iy u))) [] := by
 refine ⟨Bv fn66, fun F N ρ s a w hR hh vs hc => ?_⟩;simp only [ConcL] at hc;obtain ⟨v, us, rfl, hv, v2, us2, rfl, hv2, rfl⟩ := hc;obtain rfl := Bz hv;obtain rfl := Bz hv2;refine Calls.mono (Ar2 u hu w (Zx hR.tabW)) fun e w' he => ?_;obtain ⟨rfl, k, os, rfl⟩ := he;rw [← J4];exact ⟨_, ρ, rfl, hR.grew (Pw w k os), by simp only [Conc]; exact .s _⟩
theorem Akl (u : Nat) (hu : u < 18446744073709551616) {h d} : FunOk Tryd.prog 54 [.pv (.i .u64 (u : Int)), .pv (.i .i64 10)] h d (.pv (.s (Iy u))) [] := by
 refine A6 mixed fn54 (by simp) rfl rfl fun F => ?_;simp (disch := omega) only [ir54, go_sem];refine Ab (Afz u hu) ?_;simp (disch := omega) only [go_sem]
theorem J5 {u : Nat} (h : u < 18446744073709551616) : (Iy u).length ≤ 20 := by
 rw [J4, Lib.decDigits_length];by_cases h1 : 1 ≤ u
 · have := Lib.numDigits_eq u h1 h;split at this <;> omega
 · obtain rfl : u = 0 := by omega
   unfold Lib.nDigits; simp
theorem Tb {n : Int} (h0 : -9223372036854775808 ≤ n) (h1 : n ≤ 9223372036854775807) : (O9 n).length ≤ 21 := by
 unfold O9;split
 · have := J5 (u := n.natAbs) (by omega);simp only [List.length_cons]; omega
 · have := J5 (u := n.toNat) (by omega);omega
structure IdR (i : D7) : Prop where
 lo : -9223372036854775808 ≤ i.1
 hi : i.1 ≤ 9223372036854775807
 sq : i.2 < 4294967296
theorem Anx {s : List UInt8} (hs : s.length ≤ 1000) {i : D7} (hi : IdR i) {h d} : FunOk Tryd.prog 36 [.pv (.s s), .vec 2 [.i .i64 i.1, .i .u32 i.2]] h d (.pv (.s (Ks s i))) [] := by
 obtain ⟨a, b⟩ := i;have h1 := hi.lo;have h2 := hi.hi;have h3 := hi.sq;simp only at h1 h2 h3;have q1 := Tb h1 h2;have q2 := J5 (u := b) (by omega);refine A6 mixed fn36 (by simp) rfl rfl fun F => ?_
 (try simp only [Km, Kl, Kk, Kj, Ki, Kh, Kg, Kf]); simp (disch := omega) only [ir36, List.length_append, List.length_cons, List.length_nil, go_sem]
 refine Ab (Qq a h1 h2) ?_;simp (disch := omega) only [List.length_append, List.length_cons, List.length_nil, go_sem];refine Ab (Akl b (by omega)) ?_;simp (disch := omega) only [Ks, List.length_append, List.length_cons, List.length_nil, go_sem]
theorem Akg {s : List UInt8} (hs : s.length ≤ 1000) {i : D7} (hi : IdR i) {h d} : FunOk Tryd.prog 40 [.pv (.s s), .vec 2 [.i .i64 i.1, .i .u32 i.2]] h d (.pv (.s (Ks s i))) [] := by
 obtain ⟨a, b⟩ := i;have h1 := hi.lo;have h2 := hi.hi;have h3 := hi.sq;simp only at h1 h2 h3;have q1 := Tb h1 h2;have q2 := J5 (u := b) (by omega);have e : O9 (b : Int) = Iy b := by unfold O9; rw [if_neg (by omega)]; rfl
 refine A6 mixed fn40 (by simp) rfl rfl fun F => ?_
 (try simp only [Km, Kl, Kk, Kj, Ki, Kh, Kg, Kf]); simp (disch := omega) only [ir40, List.length_append, List.length_cons, List.length_nil, go_sem]
 refine Ab (Qq a h1 h2) ?_;simp (disch := omega) only [List.length_append, List.length_cons, List.length_nil, go_sem];refine Ab (Qq b (by omega) (by omega)) ?_;simp (disch := omega) only [Ks, e, List.length_append, List.length_cons, List.length_nil, go_sem]
theorem Ama (l : List UInt8) : ¬ Op.bytesLess l l = true := by
 induction l with
 | nil => simp [Op.bytesLess]
 | cons c l ih => simp [Op.bytesLess, ih]
theorem Th : ∀ {a b c : List UInt8}, Op.bytesLess a b = true → Op.bytesLess b c = true → Op.bytesLess a c = true
 | [], b, [], _, k => by cases b <;> simp [Op.bytesLess] at k
 | [], _, c :: cs, _, _ => by simp [Op.bytesLess]
 | a :: la, [], _, h, _ => by simp [Op.bytesLess] at h
 | a :: la, b :: bs, [], _, k => by simp [Op.bytesLess] at k
 | a :: la, b :: bs, c :: cs, h, k => by
   simp only [Op.bytesLess, Bool.or_eq_true, decide_eq_true_eq, Bool.and_eq_true, beq_iff_eq] at h k ⊢;rcases h with h | ⟨rfl, h⟩
   · rcases k with k | ⟨rfl, k⟩
     · exact .inl (UInt8.lt_trans h k)
     · exact .inl h
   · rcases k with k | ⟨rfl, k⟩
     · exact .inl k
     · exact .inr ⟨rfl, Th h k⟩
theorem Adm : ∀ {a b : List UInt8}, ¬ Op.bytesLess a b = true → a ≠ b → Op.bytesLess b a = true
 | [], [], _, h => absurd rfl h
 | [], _ :: _, h, _ => absurd (by simp [Op.bytesLess]) h
 | _ :: _, [], _, _ => by simp [Op.bytesLess]
 | a :: la, b :: bs, h, k => by
   simp only [Op.bytesLess, Bool.or_eq_true, decide_eq_true_eq, Bool.and_eq_true, beq_iff_eq, not_or, not_and] at h ⊢;by_cases e : a = b
   · subst e;exact .inr ⟨rfl, Adm (h.2 rfl) fun q => k (by rw [q])⟩
   · exact .inl (by
      have h1 := h.1;rw [UInt8.lt_iff_toNat_lt] at h1 ⊢;have : a.toNat ≠ b.toNat := fun q => e (UInt8.toNat_inj.1 q);omega)
def C3 (x y : Ent) : Prop := Op.bytesLess x.name y.name = true ∨ x.name = y.name ∧ Em x.id y.id = true
instance (x y : Ent) : Decidable (C3 x y) := inferInstanceAs (Decidable (_ ∨ _))
theorem Qt {x : Ent} : ¬ C3 x x := by
 rintro (h | h)
 · exact Ama _ h
 · exact Ea h.2
theorem Fp {x y z : Ent} (h : C3 x y) (k : C3 y z) : C3 x z := by
 rcases h with h | ⟨e, h⟩ <;> rcases k with k | ⟨f, k⟩
 · exact .inl (Th h k)
 · exact .inl (f ▸ h)
 · exact .inl (e ▸ k)
 · exact .inr ⟨e.trans f, Fv h k⟩
theorem Akt {x y : Ent} (h : C3 x y) : ¬ C3 y x := fun k => Qt (Fp h k)
theorem Mf {x y : Ent} (h : ¬ C3 x y) (k : x.id ≠ y.id) : C3 y x := by
 by_cases e : x.name = y.name
 · refine .inr ⟨e.symm, Q9 (fun q => h (.inr ⟨e, q⟩)) k⟩
 · exact .inl (Adm (fun q => h (.inl q)) e)
theorem Bu {x y : Ent} (h : Em x.id y.id = true) : C3 y x ↔ Op.bytesLess y.name x.name = true := by
 constructor
 · rintro (k | ⟨_, k⟩)
   · exact k
   · exact absurd k (Alb h)
 · exact .inl
def Dif (l : List Ent) : Prop := l.Pairwise fun a b => a.id ≠ b.id
abbrev Ct (l : List Ent) : Prop := l.Pairwise C3
theorem Pf : ∀ {l m : List Ent}, Ct l → Ct m → (∀ x, x ∈ l ↔ x ∈ m) → l = m
 | [], [], _, _, _ => rfl
 | [], y :: m, _, _, h => by have := (h y).2 List.mem_cons_self; cases this
 | x :: l, [], _, _, h => by have := (h x).1 List.mem_cons_self; cases this
 | x :: l, y :: m, hl, hm, h => by
   obtain ⟨l1, l2⟩ := List.pairwise_cons.1 hl;obtain ⟨m1, m2⟩ := List.pairwise_cons.1 hm;have e : x = y := by
    rcases List.mem_cons.1 ((h x).1 List.mem_cons_self) with q | q
    · exact q
    · rcases List.mem_cons.1 ((h y).2 List.mem_cons_self) with p | p
      · exact p.symm
      · exact absurd (l1 y p) (Akt (m1 x q))
   subst e;congr 1;refine Pf l2 m2 fun z => ?_;constructor
   · intro q;rcases List.mem_cons.1 ((h z).1 (List.mem_cons_of_mem _ q)) with p | p
     · subst p; exact absurd (l1 z q) Qt
     · exact p
   · intro q;rcases List.mem_cons.1 ((h z).2 (List.mem_cons_of_mem _ q)) with p | p
     · subst p; exact absurd (m1 z q) Qt
     · exact p
def Ya (x : Ent) : List Ent → List Ent
 | [] => [x]
 | y :: l => if C3 y x then y :: Ya x l else x :: y :: l
def Am : List Ent → List Ent
 | [] => []
 | x :: l => Ya x (Am l)
theorem K9 (x : Ent) : ∀ l : List Ent, (Ya x l).Perm (x :: l)
 | [] => List.Perm.refl _
 | y :: l => by
   unfold Ya;split
   · exact ((K9 x l).cons y).trans (List.Perm.swap x y l)
   · exact List.Perm.refl _
theorem A7 : ∀ l : List Ent, (Am l).Perm l
 | [] => List.Perm.refl _
 | x :: l => (K9 x _).trans ((A7 l).cons x)
theorem Pr {x : Ent} : ∀ {l : List Ent}, Ct l → (∀ y ∈ l, y.id ≠ x.id) → Ct (Ya x l)
 | [], _, _ => List.pairwise_singleton _ _
 | y :: l, h, hd => by
   obtain ⟨h1, h2⟩ := List.pairwise_cons.1 h;unfold Ya;split
   · rename_i hy;refine List.pairwise_cons.2 ⟨fun z hz => ?_, Pr h2 fun z hz => hd z (List.mem_cons_of_mem _ hz)⟩;rcases List.mem_cons.1 ((K9 x l).mem_iff.1 hz) with rfl | hz
     · exact hy
     · exact h1 z hz
   · rename_i hy;have hxy := Mf hy (hd y List.mem_cons_self);refine List.pairwise_cons.2 ⟨fun z hz => ?_, h⟩;rcases List.mem_cons.1 hz with rfl | hz
     · exact hxy
     · exact Fp hxy (h1 z hz)
theorem B9 : ∀ {l : List Ent}, Dif l → Ct (Am l)
 | [], _ => List.Pairwise.nil
 | x :: l, h => by
   obtain ⟨h1, h2⟩ := List.pairwise_cons.1 h;exact Pr (B9 h2) fun y hy => fun q => h1 y ((A7 l).mem_iff.1 hy) q.symm
theorem Dif.perm {l m : List Ent} (h : Dif l) (p : l.Perm m) : Dif m := p.pairwise h fun hab q => hab q.symm
theorem Eg {l m : List Ent} (hm : Ct m) (hd : Dif l) (h : m.Perm l) : m = Am l :=
 Pf hm (B9 hd) fun x => h.mem_iff.trans (A7 l).mem_iff.symm
theorem Nb {l : List Ent} (h : Ct l) (hd : Dif l) : Am l = l := (Eg h hd (List.Perm.refl _)).symm
theorem Fh {l : List Ent} (h : Du l) : Dif l := List.Pairwise.imp (fun hab q => by rw [q] at hab; exact Ea hab) h
theorem Xc {l m : List Ent} (hl : Ct l) (hm : Ct m) (h : ∀ x ∈ l, ∀ y ∈ m, C3 x y) : Ct (l ++ m) := List.pairwise_append.2 ⟨hl, hm, h⟩
theorem Me {α : Type} (P : List α) (x y : α) (S : List α) : (P ++ x :: S).set P.length y = P ++ y :: S := by
 rw [List.set_append_right _ _ (Nat.le_refl _), Nat.sub_self]; rfl
theorem Ra {α : Type} (P : List α) (x : α) (S : List α) : (P ++ x :: S)[P.length]? = some x := by
 rw [List.getElem?_append_right (Nat.le_refl _), Nat.sub_self]; rfl
theorem M8 {α : Type} (P Q S : List α) (x y : α) {i j : Nat} (hi : i = P.length) (hj : j = P.length + 1 + Q.length) :
 (P ++ x :: (Q ++ y :: S))[i]? = some x ∧ (P ++ x :: (Q ++ y :: S))[j]? = some y ∧ ((P ++ x :: (Q ++ y :: S)).set i y).set j x = P ++ y :: (Q ++ x :: S) ∧ ((P ++ x :: (Q ++ y :: S)).set j x).set i y = P ++ y :: (Q ++ x :: S) := by
 subst hi; subst hj;have e1 : ∀ z : α, P ++ z :: (Q ++ y :: S) = (P ++ z :: Q) ++ y :: S := fun z => by simp
 have e2 : (P ++ x :: Q).length = P.length + 1 + Q.length := by simp; omega
 have e3 : ∀ z : α, (P ++ z :: Q).length = P.length + 1 + Q.length := fun z => by simp; omega
 refine ⟨Ra _ _ _, ?_, ?_, ?_⟩
 · rw [e1, ← e2]; exact Ra _ _ _
 · rw [Me, e1, ← e3 y, Me]; simp
 · rw [e1, ← e3 x, Me, ← e1' P Q S x];exact Me _ _ _ _
where e1' {α : Type} (P Q S : List α) (x : α) : P ++ x :: (Q ++ x :: S) = (P ++ x :: Q) ++ x :: S := by simp
def Ey {α : Type} (S : List α) (x : α) (q : Nat) : List α := S.take q ++ x :: S.drop q
theorem Qu {α : Type} (S : List α) (x : α) (q : Nat) : (Ey S x q).length = S.length + 1 := by
 unfold Ey; simp only [List.length_append, List.length_cons, List.length_take, List.length_drop]; omega
theorem Jn {α : Type} (S : List α) (x : α) (q : Nat) : (Ey S x q).Perm (x :: S) := by
 unfold Ey;exact (List.perm_middle).trans (by rw [List.take_append_drop])
theorem Nw {α : Type} (A S T : List α) (x s : α) {q i : Nat} (hs : S[q]? = some s) (hi : i = A.length + q) :
 (A ++ (Ey S x q ++ T))[i]? = some x ∧ (A ++ (Ey S x q ++ T))[i + 1]? = some s ∧ (A ++ (Ey S x (q + 1) ++ T))[i]? = some s ∧ (A ++ (Ey S x (q + 1) ++ T))[i + 1]? = some x ∧
 ((A ++ (Ey S x q ++ T)).set i s).set (i + 1) x = A ++ (Ey S x (q + 1) ++ T) ∧ ((A ++ (Ey S x q ++ T)).set (i + 1) x).set i s = A ++ (Ey S x (q + 1) ++ T) ∧
 ((A ++ (Ey S x (q + 1) ++ T)).set i x).set (i + 1) s = A ++ (Ey S x q ++ T) ∧ ((A ++ (Ey S x (q + 1) ++ T)).set (i + 1) s).set i x = A ++ (Ey S x q ++ T) := by
 obtain ⟨hq, rfl⟩ := List.getElem?_eq_some_iff.1 hs;have d1 : S.drop q = S[q] :: S.drop (q + 1) := List.drop_eq_getElem_cons hq;have d2 : S.take (q + 1) = S.take q ++ [S[q]] := by rw [List.take_add_one, hs]; rfl
 have hl : (A ++ S.take q).length = A.length + q := by simp; omega
 have f1 : A ++ (Ey S x q ++ T) = (A ++ S.take q) ++ x :: ([] ++ S[q] :: (S.drop (q + 1) ++ T)) := by unfold Ey; rw [d1]; simp only [List.append_assoc, List.cons_append, List.nil_append, List.singleton_append]
 have f2 : A ++ (Ey S x (q + 1) ++ T) = (A ++ S.take q) ++ S[q] :: ([] ++ x :: (S.drop (q + 1) ++ T)) := by unfold Ey; rw [d2]; simp only [List.append_assoc, List.cons_append, List.nil_append, List.singleton_append]
 obtain ⟨a1, a2, a3, a4⟩ := M8 (A ++ S.take q) [] (S.drop (q + 1) ++ T) x S[q] (i := i) (j := i + 1) (by rw [hl]; exact hi) (by rw [hl]; simp; omega);obtain ⟨b1, b2, b3, b4⟩ := M8 (A ++ S.take q) [] (S.drop (q + 1) ++ T) S[q] x (i := i) (j := i + 1) (by rw [hl]; exact hi) (by rw [hl]; simp; omega);rw [f1, f2];exact ⟨a1, a2, b1, b2, a3, a4, b3, b4⟩
def S8 {α : Type} (A X C Y B : List α) (k : Nat) : List α := A ++ ((Y.take k ++ X.drop k) ++ (C ++ ((X.take k ++ Y.drop k) ++ B)))
theorem Ap0 {α : Type} (A X C Y B : List α) : S8 A X C Y B 0 = A ++ (X ++ (C ++ (Y ++ B))) := by simp [S8]
theorem Apz {α : Type} (A X C Y B : List α) (h : X.length = Y.length) : S8 A X C Y B X.length = A ++ (Y ++ (C ++ (X ++ B))) := by
 unfold S8;rw [List.take_length, List.drop_length, h, List.take_length, List.drop_length]; simp
theorem Acr {α : Type} (A X C Y B : List α) {k i j : Nat} {x y : α} (hx : X[k]? = some x) (hy : Y[k]? = some y) (h : X.length = Y.length) (hi : i = A.length + k) (hj : j = A.length + X.length + C.length + k) :
 (S8 A X C Y B k)[i]? = some x ∧ (S8 A X C Y B k)[j]? = some y ∧ ((S8 A X C Y B k).set i y).set j x = S8 A X C Y B (k + 1) ∧ ((S8 A X C Y B k).set j x).set i y = S8 A X C Y B (k + 1) := by
 obtain ⟨hkx, rfl⟩ := List.getElem?_eq_some_iff.1 hx;obtain ⟨hky, rfl⟩ := List.getElem?_eq_some_iff.1 hy;have dx : X.drop k = X[k] :: X.drop (k + 1) := List.drop_eq_getElem_cons hkx;have dy : Y.drop k = Y[k] :: Y.drop (k + 1) := List.drop_eq_getElem_cons hky;have tx : X.take (k + 1) = X.take k ++ [X[k]] := by rw [List.take_add_one, hx]; rfl
 have ty : Y.take (k + 1) = Y.take k ++ [Y[k]] := by rw [List.take_add_one, hy]; rfl
 have f1 : S8 A X C Y B k = (A ++ Y.take k) ++ X[k] :: ((X.drop (k + 1) ++ C ++ X.take k) ++ Y[k] :: (Y.drop (k + 1) ++ B)) := by unfold S8; rw [dx, dy]; simp only [List.append_assoc, List.cons_append, List.nil_append, List.singleton_append]
 have f2 : S8 A X C Y B (k + 1) = (A ++ Y.take k) ++ Y[k] :: ((X.drop (k + 1) ++ C ++ X.take k) ++ X[k] :: (Y.drop (k + 1) ++ B)) := by unfold S8; rw [tx, ty]; simp only [List.append_assoc, List.cons_append, List.nil_append, List.singleton_append]
 obtain ⟨a1, a2, a3, a4⟩ := M8 (A ++ Y.take k) (X.drop (k + 1) ++ C ++ X.take k) (Y.drop (k + 1) ++ B) X[k] Y[k] (i := i) (j := j) (by simp; omega) (by simp; omega);rw [f1, f2];exact ⟨a1, a2, a3, a4⟩
theorem C7 {rs : List Rv} {R : SV → FS → Prop} {s : FS} (h : Fk s rs fun l => R (one l) s) : Nk rs R s := ⟨s, .same s, h⟩
theorem Dm {l : List Ent} {i : Nat} {x : Ent} (h : l[i]? = some x) {j : Int} (hj : j.toNat = i) : (l.map Ah)[j.toNat]? = some (Ah x) := by rw [hj, List.getElem?_map, h]; rfl
theorem V2 {L : List (List PV)} (hL : ∀ c ∈ L, c.length ≤ 15) (i : Nat) (x : Ent) : splice (L.getD i []) 0 (Ah x) = Ah x := by
 have : (L.getD i []).length ≤ 15 := by
  rw [List.getD_eq_getElem?_getD];cases h : L[i]? with
  | none => simp
  | some c => exact hL c (List.mem_of_getElem? h)
 unfold splice;rw [List.drop_eq_nil_of_le (by rw [Ar]; omega)]; simp
theorem Ws (l : List Ent) : ∀ c ∈ l.map Ah, c.length ≤ 15 := fun c hc => by
 obtain ⟨x, _, rfl⟩ := List.mem_map.1 hc;rw [Ar]; exact Nat.le_refl _
theorem J1 {l m : List Ent} {i j : Nat} {x y : Ent} (h : (l.set i x).set j y = m) {i' j' : Int} (hi : i'.toNat = i) (hj : j'.toNat = j) :
 ((l.map Ah).set i'.toNat (splice ((l.map Ah).getD i'.toNat []) 0 (Ah x))).set j'.toNat (splice (((l.map Ah).set i'.toNat (splice ((l.map Ah).getD i'.toNat []) 0 (Ah x))).getD j'.toNat []) 0 (Ah y)) = m.map Ah := by
 have e1 := V2 (Ws l) i'.toNat x;rw [e1];have e2 : (l.map Ah).set i'.toNat (Ah x) = (l.set i x).map Ah := by rw [hi, List.map_set]
 rw [e2, V2 (Ws _), ← h, hj, List.map_set (f := Ah) (l := l.set i x)]
def Ai8 (A X C Y B : List Ent) (k : Nat) : FS := mk [(10, .pv (.i .i64 k)), (0, .os 900), (1, .pv (.i .i64 A.length)), (2, .pv (.i .i64 ((A.length + X.length + C.length : Nat) : Int))), (3, .pv (.i .i64 X.length)), (1000000, .os 900)] [(900, some (.row 15 ((S8 A X C Y B k).map Ah)))]
theorem Qp {A X C Y B L M : List Ent} {a b n : Int} {h d} (hL : L = A ++ (X ++ (C ++ (Y ++ B)))) (hM : M = A ++ (Y ++ (C ++ (X ++ B)))) (ha : a = A.length) (hb : b = ((A.length + X.length + C.length : Nat) : Int)) (hn : n = X.length) (hXY : X.length = Y.length) (hsz : L.length ≤ 1000)
 (hg : h 900 = some (.row 15 (L.map Ah))) : FunOk Tryd.prog 83 [.os 900, .pv (.i .i64 a), .pv (.i .i64 b), .pv (.i .i64 n), fIn] h d (.tup []) [.upd 900 (.row 15 (M.map Ah))] := by
 subst ha hb hn hL hM;unfold fIn;refine Hy (g := 900) mixed fn83 (by simp) (by simp [Ay, tn]) (by simp [Ay, tn]) hg rfl (by simp [Blk.ptr, SV.kill]) rfl (fun _ => rfl) fun F => ?_;have hl : A.length + X.length + C.length + Y.length + B.length ≤ 1000 := by simp at hsz; omega
 have e0 := Ap0 A X C Y B;have en := Apz A X C Y B hXY;have hlen : ∀ k, (S8 A X C Y B k).length = A.length + X.length + C.length + Y.length + B.length := fun k => by
  unfold S8; simp only [List.length_append, List.length_take, List.length_drop]; omega
 simp (disch := omega) only [ir83, Blk.ptr, go_sem];refine Au mixed (Ai8 A X C Y B) (fun k => k ≤ X.length) (fun k => X.length - k) 0 (Nat.zero_le _) (Ao ?_ ?_) fun k hk => ?_
 · simp (disch := omega) only [go_sem]
 · simp (disch := omega) only [e0, go_sem]
 by_cases hlt : k < X.length
 · have hx : X[k]? = some X[k] := List.getElem?_eq_getElem hlt;have hy : Y[k]? = some Y[k] := List.getElem?_eq_getElem (by omega);generalize X[k] = x at hx;generalize Y[k] = y at hy;obtain ⟨q1, q2, q3, q4⟩ := Acr A X C Y B hx hy hXY rfl rfl;have g1 := Dm q1 (j := (A.length : Int) + (k : Int)) (by omega);have g2 := Dm q2 (j := ((A.length + X.length + C.length : Nat) : Int) + (k : Int)) (by omega);have g3 := J1 q3 (i' := (A.length : Int) + (k : Int)) (j' := ((A.length + X.length + C.length : Nat) : Int) + (k : Int)) (by omega) (by omega);have hcx := Ar x;have hcy := Ar y;have hk' := hlen k;simp (disch := omega) only [Ai8, g1, g2, List.length_set, List.length_map, hk', Ax, go_sem];refine Al (k + 1) _ _ rfl (by omega) (by omega) ?_ ?_
   · simp (disch := omega) only [go_sem]
   · simp (disch := omega) only [g3, go_sem]
 · obtain rfl : k = X.length := by omega
   simp (disch := omega) only [Ai8, en, go_sem];refine C7 ?_;simp (disch := omega) only [go_sem];rfl
abbrev Pt := List Ent × List Ent × List Ent × List Ent
def V6 (x : Pt) : List Ent := x.1 ++ (x.2.1 ++ (x.2.2.1 ++ x.2.2.2))
def Afd (m : Nat) (x : Pt) : FS := mk [(10, .pv (.i .i64 x.2.1.length)), (11, .pv (.i .i64 x.2.2.1.length)), (0, .os 900), (2, .pv (.i .i64 m)), (4, .fn (.func 38) []), (1000000, .os 900)] [(900, some (.row 15 ((V6 x).map Ah)))]
structure RoOk (m n : Nat) (M : List Ent) (x : Pt) : Prop where
 at_m : x.1.length + x.2.1.length = m
 u : 1 ≤ x.2.1.length
 v : 1 ≤ x.2.2.1.length
 goal : M = x.1 ++ (x.2.2.1 ++ (x.2.1 ++ x.2.2.2))
 all : x.1.length + x.2.1.length + x.2.2.1.length + x.2.2.2.length = n
theorem K0 {A U V B L M : List Ent} {a m b : Int} {h d} (hL : L = A ++ (U ++ (V ++ B))) (hM : M = A ++ (V ++ (U ++ B))) (ha : a = A.length) (hm : m = ((A.length + U.length : Nat) : Int)) (hb : b = ((A.length + U.length + V.length : Nat) : Int)) (hU : 1 ≤ U.length) (hV : 1 ≤ V.length) (hsz : L.length ≤ 1000)
 (hg : h 900 = some (.row 15 (L.map Ah))) : FunOk Tryd.prog 76 [.os 900, .pv (.i .i64 a), .pv (.i .i64 m), .pv (.i .i64 b), fIn] h d (.tup []) [.upd 900 (.row 15 (M.map Ah))] := by
 subst ha hm hb hL;unfold fIn;refine Hy (g := 900) mixed fn76 (by simp) (by simp [Ay, tn]) (by simp [Ay, tn]) hg rfl (by simp [Blk.ptr, SV.kill]) rfl (fun _ => rfl) fun F => ?_;have hl : A.length + U.length + V.length + B.length ≤ 1000 := by simp at hsz; omega
 have s1 : ((A.length + U.length : Nat) : Int) - (A.length : Int) = (U.length : Nat) := by omega
 have s2 : ((A.length + U.length + V.length : Nat) : Int) - ((A.length + U.length : Nat) : Int) = (V.length : Nat) := by omega
 simp (disch := omega) only [ir76, Blk.ptr, s1, s2, go_sem];refine Au mixed (Afd (A.length + U.length)) (RoOk (A.length + U.length) (A.length + U.length + V.length + B.length) M) (fun x => x.2.1.length + x.2.2.1.length) (A, U, V, B) ⟨rfl, hU, hV, hM, rfl⟩ (Ao ?_ ?_) fun x hx => ?_
 · (try simp only [Km, Kl, Kk, Kj, Ki, Kh, Kg, Kf]); simp (disch := omega) only [go_sem]
 · simp (disch := omega) only [V6, go_sem]
 obtain ⟨P, U', V', S⟩ := x;obtain ⟨h1, h2, h3, h4, h5⟩ := hx;simp only at h1 h2 h3 h4 h5;have hP : (V6 (P, U', V', S)).length ≤ 1000 := by unfold V6; simp only [List.length_append]; omega
 by_cases he : U'.length = V'.length
 · have n1 : (U'.length : Int) = (V'.length : Int) := by omega
   have e : ((U'.length : Nat) : Int) = ((V'.length : Nat) : Int) := n1;simp (disch := omega) only [Afd, n1, go_sem];refine Ab (Qp (A := P) (X := U') (C := []) (Y := V') (B := S) (L := V6 (P, U', V', S)) (M := M) (by simp [V6]) (by simp [h4]) (by omega) (by simp; omega) (by omega) he hP rfl) ?_;simp (disch := omega) only [go_sem];refine C7 ?_;simp (disch := omega) only [go_sem];rfl
 · by_cases hgt : V'.length < U'.length
   · simp (disch := omega) only [Afd, go_sem];have t1 : (U'.take V'.length).length = V'.length := by rw [List.length_take]; omega
     have t2 : (U'.drop V'.length).length = U'.length - V'.length := List.length_drop;have t3 := List.take_append_drop V'.length U';have t4 : V6 (P, U', V', S) = P ++ (U'.take V'.length ++ (U'.drop V'.length ++ (V' ++ S))) := by
      rw [← List.append_assoc (U'.take V'.length), t3]; rfl
     refine Ab (Qp (A := P) (X := U'.take V'.length) (C := U'.drop V'.length) (Y := V') (B := S) (L := V6 (P, U', V', S)) (M := V6 (P ++ V', U'.drop V'.length, U'.take V'.length, S)) t4 (by simp only [V6, List.append_assoc]) (by omega) (by omega) (by omega) t1 hP rfl) ?_;have u1 : (U'.length : Int) - (V'.length : Int) = ((U'.drop V'.length).length : Nat) := by omega
     simp (disch := omega) only [go_sem];refine Al (x := (P, U', V', S)) (P ++ V', U'.drop V'.length, U'.take V'.length, S) _ _ rfl ⟨?_, ?_, ?_, ?_, ?_⟩ ?_ ?_ ?_
     · simp only [List.length_append]; omega
     · simp only; omega
     · simp only; omega
     · rw [h4]; simp only [List.append_assoc]
       conv => lhs; rw [← t3]
       simp only [List.append_assoc]
     · simp only [List.length_append]; omega
     · simp only; omega
     · (try simp only [Km, Kl, Kk, Kj, Ki, Kh, Kg, Kf]); simp (disch := omega) only [u1, t1, go_sem]
     · simp (disch := omega) only [go_sem]
   · simp (disch := omega) only [Afd, go_sem];have t1 : (V'.drop (V'.length - U'.length)).length = U'.length := by rw [List.length_drop]; omega
     have t2 : (V'.take (V'.length - U'.length)).length = V'.length - U'.length := by rw [List.length_take]; omega
     have t3 := List.take_append_drop (V'.length - U'.length) V';have t4 : V6 (P, U', V', S) = P ++ (U' ++ (V'.take (V'.length - U'.length) ++ (V'.drop (V'.length - U'.length) ++ S))) := by
      rw [← List.append_assoc (V'.take _), t3]; rfl
     refine Ab (Qp (A := P) (X := U') (C := V'.take (V'.length - U'.length)) (Y := V'.drop (V'.length - U'.length)) (B := S) (L := V6 (P, U', V', S)) (M := V6 (P, V'.drop (V'.length - U'.length), V'.take (V'.length - U'.length), U' ++ S)) t4 (by simp only [V6, List.append_assoc]) (by omega) (by omega) (by omega) t1.symm hP rfl) ?_;have u1 : (V'.length : Int) - (U'.length : Int) = ((V'.take (V'.length - U'.length)).length : Nat) := by omega
     simp (disch := omega) only [go_sem];refine Al (x := (P, U', V', S)) (P, V'.drop (V'.length - U'.length), V'.take (V'.length - U'.length), U' ++ S) _ _ rfl ⟨?_, ?_, ?_, ?_, ?_⟩ ?_ ?_ ?_
     · simp only; omega
     · simp only; omega
     · simp only; omega
     · rw [h4]; simp only
       conv => lhs; rw [← t3]
       simp only [List.append_assoc]
     · simp only [List.length_append]; omega
     · simp only; omega
     · (try simp only [Km, Kl, Kk, Kj, Ki, Kh, Kg, Kf]); simp (disch := omega) only [u1, t1, go_sem]
     · simp (disch := omega) only [go_sem]
theorem Dn {a b : List UInt8} : Eo a b < 0 ↔ Op.bytesLess a b = true := by
 unfold Eo;split
 · rename_i h; simp [h]
 · rename_i h;split <;> simp [h]
theorem Mg {S : List Ent} {x : Ent} {q : Nat} (hS : Ct S) (h1 : ∀ y ∈ S.take q, C3 y x) (h2 : ∀ y ∈ S.drop q, C3 x y) : Ct (Ey S x q) := by
 unfold Ey;refine List.pairwise_append.2 ⟨hS.sublist (List.take_sublist _ _), List.pairwise_cons.2 ⟨h2, hS.sublist (List.drop_sublist _ _)⟩, fun y hy z hz => ?_⟩;rcases List.mem_cons.1 hz with rfl | hz
 · exact h1 y hy
 · have := hS;rw [← List.take_append_drop q S] at this;exact (List.pairwise_append.1 this).2.2 y hy z hz
theorem Cq (l : List Ent) : (Am l).length = l.length := (A7 l).length_eq
theorem De {l : List Ent} {y : Ent} : y ∈ Am l ↔ y ∈ l := (A7 l).mem_iff
theorem Abj {K : List Ent} {k q : Nat} {x : Ent} (hx : K[k]? = some x) (hK : Dif K) (h : Ct (Ey (Am (K.take k)) x q)) : Ey (Am (K.take k)) x q = Am (K.take (k + 1)) := by
 refine Eg h (List.Pairwise.sublist (List.take_sublist _ _) hK) ?_;have e : K.take (k + 1) = K.take k ++ [x] := by rw [List.take_add_one, hx]; rfl
 rw [e];exact (Jn _ _ _).trans (((A7 _).cons x).trans (List.perm_append_singleton x _).symm)
def Z5 (A K B : List Ent) (k : Nat) : FS := mk [(8, .pv (.i .i64 ((A.length + k : Nat) : Int))), (0, .os 900), (1, .pv (.i .i64 A.length)), (2, .pv (.i .i64 ((A.length + K.length : Nat) : Int))), (3, .fn (.func 38) []), (1000000, .os 900)] [(900, some (.row 15 ((A ++ (Am (K.take k) ++ (K.drop k ++ B))).map Ah)))]
def Vz (A S T : List Ent) (x : Ent) (b k q : Nat) : FS := mk [(9, .pv (.i .i64 ((A.length + q : Nat) : Int))), (8, .pv (.i .i64 ((A.length + k : Nat) : Int))), (0, .os 900), (1, .pv (.i .i64 A.length)), (2, .pv (.i .i64 ((b : Nat) : Int))), (3, .fn (.func 38) []), (1000000, .os 900)] [(900, some (.row 15 ((A ++ (Ey S x q ++ T)).map Ah)))]
set_option maxHeartbeats 1000000 in
theorem K2 {A K B L M : List Ent} {a b : Int} {h d} (hL : L = A ++ (K ++ B)) (hM : M = A ++ (Am K ++ B)) (ha : a = A.length) (hb : b = ((A.length + K.length : Nat) : Int)) (hK : Du K) (hsz : L.length ≤ 1000)
 (hg : h 900 = some (.row 15 (L.map Ah))) : FunOk Tryd.prog 67 [.os 900, .pv (.i .i64 a), .pv (.i .i64 b), fIn] h d (.tup []) [.upd 900 (.row 15 (M.map Ah))] := by
 subst ha hb hL hM;unfold fIn;refine Hy (g := 900) mixed fn67 (by simp) (by simp [Ay, tn]) (by simp [Ay, tn]) hg rfl (by simp [Blk.ptr, SV.kill]) rfl (fun _ => rfl) fun F => ?_;have hl : A.length + K.length + B.length ≤ 1000 := by simp at hsz; omega
 have e1 : Am (K.take 1) ++ (K.drop 1 ++ B) = K ++ B := by
  cases K with
  | nil => rfl
  | cons x K => rfl
 simp (disch := omega) only [ir67, Blk.ptr, go_sem];refine Au mixed (Z5 A K B) (fun k => 1 ≤ k ∧ (k ≤ K.length ∨ k = 1)) (fun k => K.length + 1 - k) 1 ⟨by omega, .inr rfl⟩ (Ao ?_ ?_) fun k hk => ?_
 · simp (disch := omega) only [go_sem]
 · simp (disch := omega) only [e1, go_sem]
 by_cases hlt : k < K.length
 · have hx : K[k]? = some K[k] := List.getElem?_eq_getElem hlt;have hd : K.drop k = K[k] :: K.drop (k + 1) := List.drop_eq_getElem_cons hlt;generalize K[k] = x at hx hd;have hS := B9 (Fh (List.Pairwise.sublist (List.take_sublist k K) hK));have hSl : (Am (K.take k)).length = k := by rw [Cq, List.length_take]; omega
   have hid : ∀ y ∈ Am (K.take k), Em y.id x.id = true := fun y hy => by
    have hK' := hK;rw [← List.take_append_drop k K, hd] at hK';exact (List.pairwise_append.1 hK').2.2 y (De.1 hy) x List.mem_cons_self
   have hfin := fun q => Abj (q := q) hx (Fh hK);generalize hSe : Am (K.take k) = S at *;have e0 : S ++ (K.drop k ++ B) = Ey S x k ++ (K.drop (k + 1) ++ B) := by
    unfold Ey;rw [hd, ← hSl, List.take_length, List.drop_length]; simp
   have hT : (K.drop (k + 1) ++ B).length = K.length - (k + 1) + B.length := by simp
   have hlen : ∀ q, (A ++ (Ey S x q ++ (K.drop (k + 1) ++ B))).length = A.length + K.length + B.length := fun q => by
    rw [List.length_append, List.length_append, hT, Qu]; omega
   simp (disch := omega) only [Z5, go_sem];refine Au mixed (Vz A S (K.drop (k + 1) ++ B) x (A.length + K.length) k) (fun q => q ≤ k ∧ ∀ y ∈ S.drop q, C3 x y) (fun q => q) k ⟨Nat.le_refl _, fun y hy => by rw [← hSl, List.drop_length] at hy; cases hy⟩ (Ao ?_ ?_) fun q hq => ?_
   · simp (disch := omega) only [go_sem]
   · simp (disch := omega) only [hSe, e0, go_sem]
   obtain ⟨hqk, hq⟩ := hq;have done : (∀ y ∈ S.take q, C3 y x) → A ++ (Ey S x q ++ (K.drop (k + 1) ++ B)) = A ++ (Am (K.take (k + 1)) ++ (K.drop (k + 1) ++ B)) := fun hh => by rw [hfin q (Mg hS hh hq)]
   rcases q with _ | p
   · have e2 := done (by simp);simp (disch := omega) only [Vz, go_sem];refine Al (x := k) (k + 1) _ _ rfl ⟨by omega, .inl (by omega)⟩ (by omega) ?_ ?_
     · simp (disch := omega) only [go_sem]
     · simp (disch := omega) only [e2, go_sem]
   · have hs : S[p]? = some S[p] := List.getElem?_eq_getElem (by omega);have hsm : S[p] ∈ S := List.getElem_mem _;have hdp : S.drop p = S[p] :: S.drop (p + 1) := List.drop_eq_getElem_cons (by omega);have htp : S.take (p + 1) = S.take p ++ [S[p]] := by rw [List.take_add_one, hs]; rfl
     have hsx : Em (S[p]).id x.id = true := hid _ hsm;generalize S[p] = s at hs hsm hdp htp hsx;obtain ⟨q1, q2, q3, q4, q5, q6, q7, q8⟩ := Nw A S (K.drop (k + 1) ++ B) x s hs rfl;have g1 := Dm q3 (j := ((A.length + (p + 1) : Nat) : Int) - 1) (by omega);have g2 := Dm q4 (j := ((A.length + (p + 1) : Nat) : Int)) (by omega);rw [Int.toNat_natCast] at g2;have g3 := J1 q8 (i' := ((A.length + (p + 1) : Nat) : Int)) (j' := ((A.length + (p + 1) : Nat) : Int) - 1) (by omega) (by omega);rw [Int.toNat_natCast] at g3;have hcx := Ar x;have hcs := Ar s;have hk' := hlen (p + 1);by_cases hc : C3 x s
     · have hc' : (Eo x.name s.name < 0) = True := eq_true (Dn.2 ((Bu hsx).1 hc));simp (disch := omega) only [Vz, g1, g2, List.length_set, List.length_map, hk', Ax, go_sem];refine Ab (Nt _ _) ?_;simp (disch := omega) only [hc', g1, g2, List.length_set, List.length_map, hk', Ax, go_sem];refine Al (x := p + 1) p _ _ rfl ⟨by omega, fun y hy => ?_⟩ (by omega) ?_ ?_
       · rw [hdp] at hy;rcases List.mem_cons.1 hy with rfl | hy
         · exact hc
         · exact hq y hy
       · simp (disch := omega) only [go_sem]
       · simp (disch := omega) only [g3, go_sem]
     · have hc' : (Eo x.name s.name < 0) = False := eq_false fun h => hc ((Bu hsx).2 (Dn.1 h));have hsx' : C3 s x := Mf hc fun e => by rw [e] at hsx; exact Ea hsx
       have e2 := done fun y hy => by
        rw [htp] at hy;rcases List.mem_append.1 hy with hy | hy
        · refine Fp ?_ hsx';have h' := hS;rw [← List.take_append_drop p S, hdp] at h';exact (List.pairwise_append.1 h').2.2 y hy s List.mem_cons_self
        · rw [List.mem_singleton.1 hy]; exact hsx'
       simp (disch := omega) only [Vz, g1, g2, List.length_set, List.length_map, hk', Ax, go_sem];refine Ab (Nt _ _) ?_;simp (disch := omega) only [hc', go_sem];refine Al (x := k) (k + 1) _ _ rfl ⟨by omega, .inl (by omega)⟩ (by omega) ?_ ?_
       · simp (disch := omega) only [go_sem]
       · simp (disch := omega) only [e2, go_sem]
 · have e2 : A ++ (Am (K.take k) ++ (K.drop k ++ B)) = A ++ (Am K ++ B) := by
    rw [List.take_of_length_le (by omega), List.drop_eq_nil_of_le (by omega)]; rfl
   simp (disch := omega) only [Z5, e2, go_sem];refine C7 ?_;simp (disch := omega) only [go_sem];rfl
structure MrgIn (L R : List Ent) : Prop where
 l1 : 1 ≤ L.length
 r1 : 1 ≤ R.length
 sl : Ct L
 sr : Ct R
 dif : Dif (L ++ R)
 crs : ∀ x ∈ L, ∀ y ∈ R, Em x.id y.id = true
theorem Mb {R : List Ent} (hR : Ct R) {h : Nat} {v x : Ent} (hv : R[h]? = some v) (hx : C3 v x) : ∀ y ∈ R.take (h + 1), C3 y x := fun y hy => by
 have hlt : h < R.length := (List.getElem?_eq_some_iff.1 hv).1;have hd : R.drop h = v :: R.drop (h + 1) := by
  rw [List.drop_eq_getElem_cons hlt]; congr 1; exact (List.getElem?_eq_some_iff.1 hv).2
 have e : R.take (h + 1) = R.take h ++ [v] := by rw [List.take_add_one, hv]; rfl
 rw [e] at hy;rcases List.mem_append.1 hy with hy | hy
 · have h' := hR;rw [← List.take_append_drop h R, hd] at h';exact Fp ((List.pairwise_append.1 h').2.2 y hy v List.mem_cons_self) hx
 · rw [List.mem_singleton.1 hy]; exact hx
theorem Rh {R : List Ent} (hR : Ct R) {h : Nat} {v x : Ent} (hv : R[h]? = some v) (hx : C3 x v) : ∀ y ∈ R.drop h, C3 x y := fun y hy => by
 have hlt : h < R.length := (List.getElem?_eq_some_iff.1 hv).1;have hd : R.drop h = v :: R.drop (h + 1) := by
  rw [List.drop_eq_getElem_cons hlt]; congr 1; exact (List.getElem?_eq_some_iff.1 hv).2
 have h' : Ct (R.drop h) := hR.sublist (List.drop_sublist _ _);rw [hd] at hy h';rcases List.mem_cons.1 hy with rfl | hy
 · exact hx
 · exact Fp hx ((List.pairwise_cons.1 h').1 y hy)
theorem H0 {L R : List Ent} (hL : Ct L) (hR : Ct R) {i j : Nat} {x y : Ent} (hx : L[i]? = some x) (hy : R[j]? = some y) (h : C3 x y) : ∀ u ∈ L.take (i + 1), ∀ v ∈ R.drop j, C3 u v :=
 fun u hu v hv => Mb hL hx (Rh hR hy h v hv) u hu
theorem MrgIn.lt {L R : List Ent} (h : MrgIn L R) {x y : Ent} (hx : x ∈ L) (hy : y ∈ R) (hn : ¬ C3 y x) : C3 x y := by
 refine Mf hn fun e => ?_;have := h.crs x hx y hy;rw [e] at this; exact Ea this
theorem Arq {x : Ent} {R : List Ent} (h : MrgIn [x] R) {p : Nat} (h1 : ∀ y ∈ R.take p, C3 y x) (h2 : ∀ y ∈ R.drop p, C3 x y) : Ey R x p = Am ([x] ++ R) :=
 Eg (Mg h.sr h1 h2) h.dif (Jn _ _ _)
theorem Arp {y : Ent} {L : List Ent} (h : MrgIn L [y]) {p : Nat} (h1 : ∀ x ∈ L.take p, C3 x y) (h2 : ∀ x ∈ L.drop p, C3 y x) : Ey L y p = Am (L ++ [y]) :=
 Eg (Mg h.sl h1 h2) h.dif ((Jn _ _ _).trans (List.perm_append_singleton y L).symm)
theorem Qv {L R : List Ent} (s t : Nat) : (L.take s ++ R.take t).Sublist (L ++ R) := (List.take_sublist _ _).append (List.take_sublist _ _)
theorem Nx {L R : List Ent} (s t : Nat) : (L.drop s ++ R.drop t).Sublist (L ++ R) := (List.drop_sublist _ _).append (List.drop_sublist _ _)
theorem MrgIn.fst {L R : List Ent} (h : MrgIn L R) {s t : Nat} (hs : 0 < s) (ht : 0 < t) : MrgIn (L.take s) (R.take t) :=
 ⟨by have := h.l1; rw [List.length_take]; omega, by have := h.r1; rw [List.length_take]; omega, h.sl.sublist (List.take_sublist _ _), h.sr.sublist (List.take_sublist _ _), List.Pairwise.sublist (Qv s t) h.dif,
  fun x hx y hy => h.crs x (List.mem_of_mem_take hx) y (List.mem_of_mem_take hy)⟩
theorem MrgIn.snd {L R : List Ent} (h : MrgIn L R) {s t : Nat} (hs : s < L.length) (ht : t < R.length) : MrgIn (L.drop s) (R.drop t) :=
 ⟨by rw [List.length_drop]; omega, by rw [List.length_drop]; omega, h.sl.sublist (List.drop_sublist _ _), h.sr.sublist (List.drop_sublist _ _), List.Pairwise.sublist (Nx s t) h.dif,
  fun x hx y hy => h.crs x (List.mem_of_mem_drop hx) y (List.mem_of_mem_drop hy)⟩
theorem Ant {α : Type} (a b c d : List α) : ((a ++ c) ++ (b ++ d)).Perm ((a ++ b) ++ (c ++ d)) := by
 simp only [List.append_assoc];refine List.Perm.append_left a ?_;rw [← List.append_assoc, ← List.append_assoc];exact List.Perm.append_right d List.perm_append_comm
theorem Aoy {L R : List Ent} (h : MrgIn L R) {s t : Nat} (h1 : ∀ x ∈ L.take s, ∀ y ∈ R.drop t, C3 x y) (h2 : ∀ y ∈ R.take t, ∀ x ∈ L.drop s, C3 y x) :
 Am (L.take s ++ R.take t) ++ Am (L.drop s ++ R.drop t) = Am (L ++ R) := by
 refine Eg (Xc (B9 (List.Pairwise.sublist (Qv s t) h.dif)) (B9 (List.Pairwise.sublist (Nx s t) h.dif)) fun x hx y hy => ?_) h.dif ?_
 · have sL := h.sl;rw [← List.take_append_drop s L] at sL;have sR := h.sr;rw [← List.take_append_drop t R] at sR;rcases List.mem_append.1 (De.1 hx) with hx | hx <;> rcases List.mem_append.1 (De.1 hy) with hy | hy
   · exact (List.pairwise_append.1 sL).2.2 x hx y hy
   · exact h1 x hx y hy
   · exact h2 x hx y hy
   · exact (List.pairwise_append.1 sR).2.2 x hx y hy
 · refine ((A7 _).append (A7 _)).trans ((Ant _ _ _ _).trans ?_);rw [List.take_append_drop, List.take_append_drop]
theorem Abl {L R : List Ent} (h : MrgIn L R) {s t : Nat} (hst : ¬ (0 < s ∧ 0 < t)) : Am (L.take s ++ R.take t) = L.take s ++ R.take t := by
 refine Nb ?_ (List.Pairwise.sublist (Qv s t) h.dif);rcases Nat.eq_zero_or_pos s with rfl | hs
 · exact h.sr.sublist (List.take_sublist _ _)
 · rcases Nat.eq_zero_or_pos t with rfl | ht
   · rw [List.take_zero, List.append_nil]; exact h.sl.sublist (List.take_sublist _ _)
   · exact absurd ⟨hs, ht⟩ hst
theorem Abk {L R : List Ent} (h : MrgIn L R) {s t : Nat} (hst : ¬ (s < L.length ∧ t < R.length)) : Am (L.drop s ++ R.drop t) = L.drop s ++ R.drop t := by
 refine Nb ?_ (List.Pairwise.sublist (Nx s t) h.dif);by_cases hs : s < L.length
 · have e : R.drop t = [] := List.drop_eq_nil_of_le (Nat.le_of_not_lt fun ht => hst ⟨hs, ht⟩);rw [e, List.append_nil]; exact h.sl.sublist (List.drop_sublist _ _)
 · have e : L.drop s = [] := List.drop_eq_nil_of_le (by omega);rw [e]; exact h.sr.sublist (List.drop_sublist _ _)
theorem Aih {L R : List Ent} {s t : Nat} (hst : ¬ (s < L.length ∧ 0 < t)) (A B : List Ent) : A ++ (L ++ (R ++ B)) = A ++ (L.take s ++ (R.take t ++ (L.drop s ++ (R.drop t ++ B)))) := by
 by_cases hs : s < L.length
 · obtain rfl : t = 0 := Nat.eq_zero_of_not_pos fun ht => hst ⟨hs, ht⟩;rw [List.take_zero, List.drop_zero, List.nil_append, ← List.append_assoc (L.take s), List.take_append_drop]
 · have e : L.drop s = [] := List.drop_eq_nil_of_le (by omega);have e' : L.take s = L := List.take_of_length_le (by omega);rw [e, e', List.nil_append, ← List.append_assoc (R.take t), List.take_append_drop]
theorem Aig {L R : List Ent} (s t : Nat) (A B : List Ent) : A ++ (L ++ (R ++ B)) = (A ++ L.take s) ++ (L.drop s ++ (R.take t ++ (R.drop t ++ B))) := by
 rw [← List.append_assoc (R.take t), List.take_append_drop, List.append_assoc, ← List.append_assoc (L.take s), List.take_append_drop]
def Air (n : Nat) : Prop := ∀ {A L R B W M : List Ent} {a m b : Int} {h d}, L.length + R.length = n → W = A ++ (L ++ (R ++ B)) → M = A ++ (Am (L ++ R) ++ B) → a = A.length → m = ((A.length + L.length : Nat) : Int) → b = ((A.length + L.length + R.length : Nat) : Int) → MrgIn L R → W.length ≤ 1000 →
 h 900 = some (.row 15 (W.map Ah)) → FunOk Tryd.prog 68 [.os 900, .pv (.i .i64 a), .pv (.i .i64 m), .pv (.i .i64 b), .fn (.func 38) []] h d (.tup []) [.upd 900 (.row 15 (M.map Ah))]
def Ajc (a m : Nat) (W : List Ent) (p : Nat × Nat) : FS := mk [(10, .pv (.i .i64 ((m + p.1 : Nat) : Int))), (11, .pv (.i .i64 ((m + p.2 : Nat) : Int))), (0, .os 900), (1, .pv (.i .i64 a)), (4, .fn (.func 38) []), (1000000, .os 900)] [(900, some (.row 15 (W.map Ah)))]
def Ajb (A B R : List Ent) (x : Ent) (e : Nat) (t : Nat) : FS := mk [(13, .pv (.i .i64 ((A.length + t : Nat) : Int))), (10, .pv (.i .i64 ((e : Nat) : Int))), (0, .os 900), (1000000, .os 900)] [(900, some (.row 15 ((A ++ (Ey R x t ++ B)).map Ah)))]
def Aja (a m : Nat) (W : List Ent) (p : Nat × Nat) : FS := mk [(14, .pv (.i .i64 ((a + p.1 : Nat) : Int))), (15, .pv (.i .i64 ((a + p.2 : Nat) : Int))), (0, .os 900), (2, .pv (.i .i64 m)), (4, .fn (.func 38) []), (1000000, .os 900)] [(900, some (.row 15 (W.map Ah)))]
def Ai9 (A B L : List Ent) (y : Ent) (e : Nat) (t : Nat) : FS := mk [(17, .pv (.i .i64 ((A.length + t : Nat) : Int))), (14, .pv (.i .i64 ((e : Nat) : Int))), (0, .os 900), (1000000, .os 900)] [(900, some (.row 15 ((A ++ (Ey L y t ++ B)).map Ah)))]
def Ku (a m b g : Nat) (W : List Ent) (p : Nat × Nat) : FS := mk [(20, .pv (.i .i64 ((a + p.1 : Nat) : Int))), (21, .pv (.i .i64 ((a + p.2 : Nat) : Int))), (22, .pv (.i .i64 (((a + g : Nat) : Int) + (m : Int) - 1))), (19, .pv (.i .i64 (((a + g : Nat) : Int) + (m : Int)))), (18, .pv (.i .i64 ((a + g : Nat) : Int))), (0, .os 900), (1, .pv (.i .i64 a)), (2, .pv (.i .i64 m)), (3, .pv (.i .i64 b)), (4, .fn (.func 38) []), (1000000, .os 900)] [(900, some (.row 15 (W.map Ah)))]
structure SrchJ (L R : List Ent) (g s0 r0 : Nat) (p : Nat × Nat) : Prop where
 p0 : s0 ≤ p.1
 p1 : p.1 ≤ p.2
 p2 : p.2 ≤ r0
 p3 : s0 < p.1 → ∃ x y, L[p.1 - 1]? = some x ∧ R[g - p.1]? = some y ∧ C3 x y
 p4 : p.2 < r0 → ∃ x y, L[p.2]? = some x ∧ R[g - 1 - p.2]? = some y ∧ C3 y x
theorem Ain (a b : Nat) : ((a : Int) + (b : Int)).fdiv (2 ^ min (Int.toNat 1) 64) = (((a + b) / 2 : Nat) : Int) := by
 rw [show (2 : Int) ^ min (Int.toNat 1) 64 = 2 from rfl, Int.fdiv_eq_ediv_of_nonneg _ (by omega)]; omega
theorem Wr (m a b : Nat) : (((m + a : Nat) : Int) + ((m + b : Nat) : Int)).fdiv (2 ^ min (Int.toNat 1) 64) = ((m + (a + b) / 2 : Nat) : Int) := by
 rw [Ain]; congr 1; omega
theorem Rk {α : Type} {A L B : List α} {i : Nat} {x : α} (h : L[i]? = some x) : (A ++ (L ++ B))[A.length + i]? = some x := by
 have := (List.getElem?_eq_some_iff.1 h).1;rw [List.getElem?_append_right (by omega), List.getElem?_append_left (by omega), ← h]; congr 1; omega
theorem Ou {α : Type} {A L R B : List α} {i : Nat} {x : α} (h : R[i]? = some x) : (A ++ (L ++ (R ++ B)))[A.length + L.length + i]? = some x := by
 rw [← List.append_assoc A L, show A.length + L.length = (A ++ L).length by simp]; exact Rk h
theorem Ew {l : List Ent} {i : Nat} {x : Ent} (h : l[i]? = some x) : (l.map Ah)[i]? = some (Ah x) := by rw [List.getElem?_map, h]; rfl
set_option maxHeartbeats 4000000 in
theorem Wf (n : Nat) : Air n := by
 refine Nat.strongRecOn (motive := Air) n fun n IH => ?_;intro A L R B W M a m b h d hn hW hM ha hm hb hI hsz hg;subst ha hm hb hn;refine Hy (g := 900) mixed fn68 (by simp) (by simp [Ay, tn]) (by simp [Ay, tn]) hg rfl (by simp [Blk.ptr, SV.kill]) rfl (fun _ => rfl) fun F => ?_;have hl : A.length + L.length + R.length + B.length ≤ 1000 := by rw [hW] at hsz; simp at hsz; omega
 have hWl : W.length = A.length + L.length + R.length + B.length := by rw [hW]; simp; omega
 have l1 := hI.l1;have r1 := hI.r1;by_cases c1 : L.length = 1
 · obtain ⟨x, hLx⟩ : ∃ x, L = [x] := by
    match L, c1 with
    | [x], _ => exact ⟨x, rfl⟩
   have gx := Ew (l := W) (i := A.length) (x := x) (by rw [hW, hLx]; exact Ra A x _);have hMv : ∀ p, (∀ y ∈ R.take p, C3 y x) → (∀ y ∈ R.drop p, C3 x y) → A ++ (Ey R x p ++ B) = M := fun p h1 h2 => by rw [hLx] at hM hI; rw [Arq hI h1 h2, hM]
   have eW : W = A ++ (Ey R x 0 ++ B) := by rw [hW, hLx]; rfl
   have gy : ∀ k v, R[k]? = some v → W[A.length + L.length + k]? = some v := fun k v hv => by rw [hW]; exact Ou hv
   have hsr := hI.sr;have mx : x ∈ L := by rw [hLx]; exact List.mem_cons_self
   have hlt : ∀ y ∈ R, ¬ C3 y x → C3 x y := fun y hy q => hI.lt mx hy q;have hid : ∀ y ∈ R, Em x.id y.id = true := fun y hy => hI.crs x mx y hy;simp (disch := omega) only [ir68, Blk.ptr, go_sem];refine Au mixed (Ajc A.length (A.length + L.length) W) (fun p => p.1 ≤ p.2 ∧ p.2 ≤ R.length ∧ (∀ y ∈ R.take p.1, C3 y x) ∧ ∀ y ∈ R.drop p.2, C3 x y) (fun p => p.2 - p.1) (0, R.length) ⟨by simp, by simp, by simp, by simp⟩ (Ao ?_ ?_) fun p hp => ?_
   · (try simp only [Km, Kl, Kk, Kj, Ki, Kh, Kg, Kf]); simp (disch := omega) only [go_sem]
   · simp (disch := omega) only [go_sem]
   obtain ⟨p, q⟩ := p;obtain ⟨p1, p2, p3, p4⟩ := hp;simp only at p1 p2 p3 p4;by_cases hpq : p < q
   · have hm : (p + q) / 2 < R.length := by omega
     have hv : R[(p + q) / 2]? = some R[(p + q) / 2] := List.getElem?_eq_getElem hm;have hvm : R[(p + q) / 2] ∈ R := List.getElem_mem _;have e1 := Wr (A.length + L.length) p q;have m1 : p ≤ (p + q) / 2 := by omega
     have m2 : (p + q) / 2 < q := by omega
     generalize R[(p + q) / 2] = v at *;generalize (p + q) / 2 = k at *;have gv := Ew (gy k v hv);have hcx := Ar x;have hcv := Ar v;simp (disch := omega) only [Ajc, e1, gv, gx, List.length_map, hWl, Ax, go_sem];refine Ab (Nt _ _) ?_;by_cases hc : C3 v x
     · have hc' : (Eo v.name x.name < 0) = True := eq_true (Dn.2 ((Bu (hid v hvm)).1 hc));simp (disch := omega) only [hc', go_sem];refine Al (x := (p, q)) (k + 1, q) _ _ rfl ⟨by show k + 1 ≤ q; omega, p2, Mb hsr hv hc, p4⟩ (by show q - (k + 1) < q - p; omega) ?_ ?_
       · (try simp only [Km, Kl, Kk, Kj, Ki, Kh, Kg, Kf]); simp (disch := omega) only [go_sem]
       · simp (disch := omega) only [go_sem]
     · have hc' : (Eo v.name x.name < 0) = False := eq_false fun h => hc ((Bu (hid v hvm)).2 (Dn.1 h));simp (disch := omega) only [hc', go_sem];refine Al (x := (p, q)) (p, k) _ _ rfl ⟨by show p ≤ k; omega, by show k ≤ _; omega, p3, Rh hsr hv (hlt v hvm hc)⟩ (by show k - p < q - p; omega) ?_ ?_
       · (try simp only [Km, Kl, Kk, Kj, Ki, Kh, Kg, Kf]); simp (disch := omega) only [go_sem]
       · simp (disch := omega) only [go_sem]
   · obtain rfl : p = q := by omega
     have eM := hMv p p3 p4;simp (disch := omega) only [Ajc, go_sem];refine Au mixed (Ajb A B R x (A.length + L.length + p)) (fun t => t ≤ p) (fun t => p - t) 0 (Nat.zero_le _) (Ao ?_ ?_) fun t ht => ?_
     · simp (disch := omega) only [go_sem]
     · simp (disch := omega) only [eW, go_sem]
     by_cases htp : t < p
     · have hs : R[t]? = some R[t] := List.getElem?_eq_getElem (by omega);generalize R[t] = s at hs;obtain ⟨q1, q2, q3, q4, q5, q6, q7, q8⟩ := Nw A R B x s hs rfl;have g1 := Ew q1;have g2 := Dm q2 (j := ((A.length + t : Nat) : Int) + 1) (by omega);have g3 := J1 q5 (i' := ((A.length + t : Nat) : Int)) (j' := ((A.length + t : Nat) : Int) + 1) (by omega) (by omega);rw [Int.toNat_natCast] at g3;have hk' : (A ++ (Ey R x t ++ B)).length = A.length + L.length + R.length + B.length := by rw [List.length_append, List.length_append, Qu]; omega
       have hcx := Ar x;have hcs := Ar s;simp (disch := omega) only [Ajb, g1, g2, List.length_set, List.length_map, hk', Ax, go_sem];refine Al (x := t) (t + 1) _ _ rfl (by omega) (by omega) ?_ ?_
       · simp (disch := omega) only [go_sem]
       · simp (disch := omega) only [g3, go_sem]
     · obtain rfl : t = p := by omega
       simp (disch := omega) only [Ajb, eM, go_sem];refine C7 ?_;simp (disch := omega) only [go_sem];rfl
 by_cases c2 : R.length = 1
 · obtain ⟨y, hRy⟩ : ∃ y, R = [y] := by
    match R, c2 with
    | [y], _ => exact ⟨y, rfl⟩
   have gy := Ew (l := W) (i := A.length + L.length) (x := y) (by rw [hW, hRy]; exact Ou (R := [y]) (i := 0) rfl);have hMv : ∀ p, (∀ x ∈ L.take p, C3 x y) → (∀ x ∈ L.drop p, C3 y x) → A ++ (Ey L y p ++ B) = M := fun p h1 h2 => by rw [hRy] at hM hI; rw [Arp hI h1 h2, hM]
   have eW : W = A ++ (Ey L y L.length ++ B) := by rw [hW, hRy]; unfold Ey; rw [List.take_length, List.drop_length, List.append_assoc]
   have gx : ∀ k v, L[k]? = some v → W[A.length + k]? = some v := fun k v hv => by rw [hW]; exact Rk hv
   have hsl := hI.sl;have my : y ∈ R := by rw [hRy]; exact List.mem_cons_self
   have hlt : ∀ x ∈ L, ¬ C3 y x → C3 x y := fun x hx q => hI.lt hx my q;have hid : ∀ x ∈ L, Em x.id y.id = true := fun x hx => hI.crs x hx y my;simp (disch := omega) only [ir68, Blk.ptr, go_sem];refine Au mixed (Aja A.length (A.length + L.length) W) (fun p => p.1 ≤ p.2 ∧ p.2 ≤ L.length ∧ (∀ x ∈ L.take p.1, C3 x y) ∧ ∀ x ∈ L.drop p.2, C3 y x) (fun p => p.2 - p.1) (0, L.length) ⟨by simp, by simp, by simp, by simp⟩ (Ao ?_ ?_) fun p hp => ?_
   · (try simp only [Km, Kl, Kk, Kj, Ki, Kh, Kg, Kf]); simp (disch := omega) only [go_sem]
   · simp (disch := omega) only [go_sem]
   obtain ⟨p, q⟩ := p;obtain ⟨p1, p2, p3, p4⟩ := hp;simp only at p1 p2 p3 p4;by_cases hpq : p < q
   · have hm : (p + q) / 2 < L.length := by omega
     have hv : L[(p + q) / 2]? = some L[(p + q) / 2] := List.getElem?_eq_getElem hm;have hvm : L[(p + q) / 2] ∈ L := List.getElem_mem _;have e1 := Wr A.length p q;have m1 : p ≤ (p + q) / 2 := by omega
     have m2 : (p + q) / 2 < q := by omega
     generalize L[(p + q) / 2] = v at *;generalize (p + q) / 2 = k at *;have gv := Ew (gx k v hv);have hcy := Ar y;have hcv := Ar v;simp (disch := omega) only [Aja, e1, gv, gy, List.length_map, hWl, Ax, go_sem];refine Ab (Nt _ _) ?_;by_cases hc : C3 y v
     · have hc' : (Eo y.name v.name < 0) = True := eq_true (Dn.2 ((Bu (hid v hvm)).1 hc));simp (disch := omega) only [hc', go_sem];refine Al (x := (p, q)) (p, k) _ _ rfl ⟨by show p ≤ k; omega, by show k ≤ _; omega, p3, Rh hsl hv hc⟩ (by show k - p < q - p; omega) ?_ ?_
       · (try simp only [Km, Kl, Kk, Kj, Ki, Kh, Kg, Kf]); simp (disch := omega) only [go_sem]
       · simp (disch := omega) only [go_sem]
     · have hc' : (Eo y.name v.name < 0) = False := eq_false fun h => hc ((Bu (hid v hvm)).2 (Dn.1 h));simp (disch := omega) only [hc', go_sem];refine Al (x := (p, q)) (k + 1, q) _ _ rfl ⟨by show k + 1 ≤ q; omega, p2, Mb hsl hv (hlt v hvm hc), p4⟩ (by show q - (k + 1) < q - p; omega) ?_ ?_
       · (try simp only [Km, Kl, Kk, Kj, Ki, Kh, Kg, Kf]); simp (disch := omega) only [go_sem]
       · simp (disch := omega) only [go_sem]
   · obtain rfl : p = q := by omega
     have eM := hMv p p3 p4;simp (disch := omega) only [Aja, go_sem];refine Au mixed (Ai9 A B L y (A.length + p)) (fun t => p ≤ t ∧ t ≤ L.length) (fun t => t) L.length ⟨p2, Nat.le_refl _⟩ (Ao ?_ ?_) fun t ht => ?_
     · simp (disch := omega) only [go_sem]
     · simp (disch := omega) only [eW, go_sem]
     by_cases htp : p < t
     · obtain ⟨u, rfl⟩ : ∃ u, t = u + 1 := ⟨t - 1, by omega⟩
       have hs : L[u]? = some L[u] := List.getElem?_eq_getElem (by omega);generalize L[u] = s at hs;obtain ⟨q1, q2, q3, q4, q5, q6, q7, q8⟩ := Nw A L B y s hs rfl;have g1 := Dm q3 (j := ((A.length + (u + 1) : Nat) : Int) - 1) (by omega);have g2 := Ew q4;have g3 := J1 q8 (i' := ((A.length + (u + 1) : Nat) : Int)) (j' := ((A.length + (u + 1) : Nat) : Int) - 1) (by omega) (by omega);rw [Int.toNat_natCast] at g3;have hk' : (A ++ (Ey L y (u + 1) ++ B)).length = A.length + L.length + 1 + B.length := by rw [List.length_append, List.length_append, Qu]; omega
       have g2' : ((A ++ (Ey L y (u + 1) ++ B)).map Ah)[A.length + (u + 1)]? = some (Ah y) := g2;have hcy := Ar y;have hcs := Ar s;simp (disch := omega) only [Ai9, g1, g2', List.length_set, List.length_map, hk', Ax, go_sem];refine Al (x := u + 1) u _ _ rfl ⟨by omega, by omega⟩ (by omega) ?_ ?_
       · simp (disch := omega) only [go_sem]
       · simp (disch := omega) only [g3, go_sem]
     · obtain rfl : t = p := by omega
       simp (disch := omega) only [Ai9, eM, go_sem];refine C7 ?_;simp (disch := omega) only [go_sem];rfl
 obtain ⟨g, hg1, hg2⟩ : ∃ g, 2 * g ≤ L.length + R.length ∧ L.length + R.length ≤ 2 * g + 1 := ⟨(L.length + R.length) / 2, by omega, by omega⟩
 have e0 : ((A.length : Int) + ((A.length + L.length + R.length : Nat) : Int)).fdiv (2 ^ min (Int.toNat 1) 64) = ((A.length + g : Nat) : Int) := by
  rw [Ain]; congr 1; omega
 have gL : ∀ k v, L[k]? = some v → W[A.length + k]? = some v := fun k v hv => by rw [hW]; exact Rk hv
 have gR : ∀ k v, R[k]? = some v → W[A.length + L.length + k]? = some v := fun k v hv => by rw [hW]; exact Ou hv
 by_cases hlg : g < L.length
 · have e3 : ((A.length + g : Nat) : Int) + ((A.length + L.length : Nat) : Int) - ((A.length + L.length + R.length : Nat) : Int) = ((A.length + (g - R.length) : Nat) : Int) := by omega
   simp (disch := omega) only [ir68, Blk.ptr, e0, go_sem];refine Au mixed (Ku A.length (A.length + L.length) (A.length + L.length + R.length) g W) (SrchJ L R g (g - R.length) g) (fun p => p.2 - p.1) ((g - R.length), g) ⟨Nat.le_refl _, by show (g - R.length) ≤ g; omega, Nat.le_refl _, fun q => absurd q (Nat.lt_irrefl _), fun q => absurd q (Nat.lt_irrefl _)⟩ (Ao ?_ ?_) fun p hp => ?_
   · (try simp only [Km, Kl, Kk, Kj, Ki, Kh, Kg, Kf]); simp (disch := omega) only [e3, go_sem]
   · simp (disch := omega) only [go_sem]
   obtain ⟨p, q⟩ := p;obtain ⟨p0, p1, p2, p3, p4⟩ := hp;simp only at p0 p1 p2 p3 p4;by_cases hpq : p < q
   · have e1 := Wr A.length p q;have m1 : p ≤ (p + q) / 2 := by omega
     have m2 : (p + q) / 2 < q := by omega
     generalize (p + q) / 2 = k at e1 m1 m2;have hkL : k < L.length := by omega
     have hkR : g - 1 - k < R.length := by omega
     have hx : L[k]? = some L[k] := List.getElem?_eq_getElem hkL;have hy : R[g - 1 - k]? = some R[g - 1 - k] := List.getElem?_eq_getElem hkR;have mx : L[k] ∈ L := List.getElem_mem _;have my : R[g - 1 - k] ∈ R := List.getElem_mem _;generalize L[k] = x at hx mx;generalize R[g - 1 - k] = y at hy my;have gx := Ew (gL k x hx);have gy := Dm (gR _ y hy) (j := ((A.length + g : Nat) : Int) + ((A.length + L.length : Nat) : Int) - 1 - ((A.length + k : Nat) : Int)) (by omega);have hcx := Ar x;have hcy := Ar y;simp (disch := omega) only [Ku, e1, gx, gy, List.length_map, hWl, Ax, go_sem];refine Ab (Nt _ _) ?_;by_cases hc : C3 y x
     · have hc' : (Eo y.name x.name < 0) = True := eq_true (Dn.2 ((Bu (hI.crs x mx y my)).1 hc));simp (disch := omega) only [hc', go_sem];refine Al (x := (p, q)) (p, k) _ _ rfl ⟨p0, by show p ≤ k; omega, by show k ≤ g; omega, p3, fun _ => ⟨x, y, hx, hy, hc⟩⟩ (by show k - p < q - p; omega) ?_ ?_
       · (try simp only [Km, Kl, Kk, Kj, Ki, Kh, Kg, Kf]); simp (disch := omega) only [go_sem]
       · simp (disch := omega) only [go_sem]
     · have hc' : (Eo y.name x.name < 0) = False := eq_false fun h => hc ((Bu (hI.crs x mx y my)).2 (Dn.1 h));simp (disch := omega) only [hc', go_sem];refine Al (x := (p, q)) (k + 1, q) _ _ rfl ⟨by show (g - R.length) ≤ k + 1; omega, by show k + 1 ≤ q; omega, p2, fun _ => ⟨x, y, by rw [← hx]; rfl, by rw [← hy]; show R[g - (k + 1)]? = _; congr 1; omega, hI.lt mx my hc⟩, p4⟩ (by show q - (k + 1) < q - p; omega) ?_ ?_
       · (try simp only [Km, Kl, Kk, Kj, Ki, Kh, Kg, Kf]); simp (disch := omega) only [go_sem]
       · simp (disch := omega) only [go_sem]
   · obtain rfl : p = q := by omega
     have h1 : ∀ x ∈ L.take p, ∀ y ∈ R.drop (g - p), C3 x y := fun x hx y hy => by
      have hp1 : 0 < p := Nat.pos_of_ne_zero fun e => by rw [e] at hx; cases hx
      have ht1 : g - p < R.length := Nat.lt_of_not_le fun e => by rw [List.drop_eq_nil_of_le e] at hy; cases hy
      obtain ⟨x', y', a1, a2, a3⟩ := p3 (by omega);exact H0 hI.sl hI.sr a1 a2 a3 x (by rwa [show p - 1 + 1 = p by omega]) y hy
     have h2 : ∀ y ∈ R.take (g - p), ∀ x ∈ L.drop p, C3 y x := fun y hy x hx => by
      have ht1 : 0 < g - p := Nat.pos_of_ne_zero fun e => by rw [e] at hy; cases hy
      have hp1 : p < L.length := Nat.lt_of_not_le fun e => by rw [List.drop_eq_nil_of_le e] at hx; cases hx
      obtain ⟨x', y', a1, a2, a3⟩ := p4 (by omega);exact H0 hI.sr hI.sl a2 a1 a3 y (by rwa [show g - 1 - p + 1 = g - p by omega]) x hx
     have eZ := Aoy hI h1 h2;obtain ⟨t, ht⟩ : ∃ t, t = g - p := ⟨_, rfl⟩
     rw [← ht] at eZ;have hst : p + t = g := by omega
     have htr : t ≤ R.length := by omega
     have hpl : p ≤ L.length := by omega
     clear p3 p4 h1 h2 ht;obtain ⟨s, hs⟩ : ∃ s, s = p := ⟨_, rfl⟩
     subst hs;have k1 : (A ++ L.take s).length = A.length + s := by rw [List.length_append, List.length_take]; omega
     have k2 : (L.drop s).length = L.length - s := List.length_drop;have k3 : (R.take t).length = t := by rw [List.length_take]; omega
     have k4 : (R.drop t).length = R.length - t := List.length_drop;have k5 : (L.take s).length = s := by rw [List.length_take]; omega
     have k6 : (A ++ Am (L.take s ++ R.take t)).length = A.length + g := by rw [List.length_append, Cq, List.length_append]; omega
     obtain ⟨W1, hW1⟩ : ∃ W1, W1 = A ++ (L.take s ++ (R.take t ++ (L.drop s ++ (R.drop t ++ B)))) := ⟨_, rfl⟩
     obtain ⟨W2, hW2⟩ : ∃ W2, W2 = A ++ (Am (L.take s ++ R.take t) ++ (L.drop s ++ (R.drop t ++ B))) := ⟨_, rfl⟩
     have hr1 : W = (A ++ L.take s) ++ (L.drop s ++ (R.take t ++ (R.drop t ++ B))) := hW.trans (Aig s t A B);have hr2 : W1 = (A ++ L.take s) ++ (R.take t ++ (L.drop s ++ (R.drop t ++ B))) := by rw [hW1, List.append_assoc]
     have hP2 : W2 = (A ++ Am (L.take s ++ R.take t)) ++ (L.drop s ++ (R.drop t ++ B)) := by rw [hW2, List.append_assoc]
     have hM2 : M = (A ++ Am (L.take s ++ R.take t)) ++ (Am (L.drop s ++ R.drop t) ++ B) := by rw [hM, ← eZ]; simp only [List.append_assoc]
     have e01 : ¬ (s < L.length ∧ 0 < t) → W = W1 := fun h => by rw [hW1, hW]; exact Aih h A B
     have e12 : ¬ (0 < s ∧ 0 < t) → W1 = W2 := fun h => by rw [hW1, hW2, Abl hI h]; simp only [List.append_assoc]
     have e2M : ¬ (s < L.length ∧ t < R.length) → W2 = M := fun h => by rw [hP2, hM2, Abk hI h]; simp only [List.append_assoc]
     have hz1 : W1.length ≤ 1000 := by rw [hr2]; simp only [List.length_append] at k1 ⊢; omega
     have hz2 : W2.length ≤ 1000 := by rw [hP2]; simp only [List.length_append] at k6 ⊢; omega
     by_cases b1 : s < L.length
     · by_cases b2 : 0 < t
       · by_cases b3 : 0 < s
         · by_cases b4 : t < R.length
           · simp (disch := omega) only [Ku, go_sem];refine Ab (K0 (A := A ++ L.take s) (U := L.drop s) (V := R.take t) (B := R.drop t ++ B) (L := W) (M := W1) hr1 hr2 (by omega) (by omega) (by omega) (by omega) (by omega) hsz rfl) ?_;simp (disch := omega) only [go_sem];refine Ab (IH (s + t) (by omega) (A := A) (L := L.take s) (R := R.take t) (B := L.drop s ++ (R.drop t ++ B)) (W := W1) (M := W2) (by omega) hW1 hW2 (by omega) (by omega) (by omega) (hI.fst b3 b2) hz1 rfl) ?_;simp (disch := omega) only [go_sem];refine Ab (IH (L.length + R.length - g) (by omega) (A := A ++ Am (L.take s ++ R.take t)) (L := L.drop s) (R := R.drop t) (B := B) (W := W2) (M := M) (by omega) hP2 hM2 (by omega) (by omega) (by omega) (hI.snd b1 b4) hz2 rfl) ?_;simp (disch := omega) only [go_sem];refine C7 ?_;simp (disch := omega) only [go_sem];rfl
           · simp (disch := omega) only [Ku, go_sem];refine Ab (K0 (A := A ++ L.take s) (U := L.drop s) (V := R.take t) (B := R.drop t ++ B) (L := W) (M := W1) hr1 hr2 (by omega) (by omega) (by omega) (by omega) (by omega) hsz rfl) ?_;simp (disch := omega) only [go_sem];refine Ab (IH (s + t) (by omega) (A := A) (L := L.take s) (R := R.take t) (B := L.drop s ++ (R.drop t ++ B)) (W := W1) (M := W2) (by omega) hW1 hW2 (by omega) (by omega) (by omega) (hI.fst b3 b2) hz1 rfl) ?_;simp (disch := omega) only [e2M (by omega), go_sem];refine C7 ?_;simp (disch := omega) only [go_sem];rfl
         · by_cases b4 : t < R.length
           · exfalso; omega
           · simp (disch := omega) only [Ku, go_sem];refine Ab (K0 (A := A ++ L.take s) (U := L.drop s) (V := R.take t) (B := R.drop t ++ B) (L := W) (M := W1) hr1 hr2 (by omega) (by omega) (by omega) (by omega) (by omega) hsz rfl) ?_;simp (disch := omega) only [e12 (by omega), e2M (by omega), go_sem];refine C7 ?_;simp (disch := omega) only [go_sem];rfl
       · by_cases b3 : 0 < s
         · by_cases b4 : t < R.length
           · simp (disch := omega) only [Ku, e01 (by omega), e12 (by omega), go_sem];refine Ab (IH (L.length + R.length - g) (by omega) (A := A ++ Am (L.take s ++ R.take t)) (L := L.drop s) (R := R.drop t) (B := B) (W := W2) (M := M) (by omega) hP2 hM2 (by omega) (by omega) (by omega) (hI.snd b1 b4) hz2 rfl) ?_;simp (disch := omega) only [go_sem];refine C7 ?_;simp (disch := omega) only [go_sem];rfl
           · exfalso; omega
         · by_cases b4 : t < R.length
           · exfalso; omega
           · exfalso; omega
     · by_cases b2 : 0 < t
       · by_cases b3 : 0 < s
         · by_cases b4 : t < R.length
           · exfalso; omega
           · exfalso; omega
         · by_cases b4 : t < R.length
           · exfalso; omega
           · exfalso; omega
       · by_cases b3 : 0 < s
         · by_cases b4 : t < R.length
           · exfalso; omega
           · exfalso; omega
         · by_cases b4 : t < R.length
           · exfalso; omega
           · exfalso; omega
 · simp (disch := omega) only [ir68, Blk.ptr, e0, go_sem];refine Au mixed (Ku A.length (A.length + L.length) (A.length + L.length + R.length) g W) (SrchJ L R g 0 L.length) (fun p => p.2 - p.1) (0, L.length) ⟨Nat.le_refl _, by show 0 ≤ L.length; omega, Nat.le_refl _, fun q => absurd q (Nat.lt_irrefl _), fun q => absurd q (Nat.lt_irrefl _)⟩ (Ao ?_ ?_) fun p hp => ?_
   · (try simp only [Km, Kl, Kk, Kj, Ki, Kh, Kg, Kf]); simp (disch := omega) only [Nat.add_zero, go_sem]
   · simp (disch := omega) only [go_sem]
   obtain ⟨p, q⟩ := p;obtain ⟨p0, p1, p2, p3, p4⟩ := hp;simp only at p0 p1 p2 p3 p4;by_cases hpq : p < q
   · have e1 := Wr A.length p q;have m1 : p ≤ (p + q) / 2 := by omega
     have m2 : (p + q) / 2 < q := by omega
     generalize (p + q) / 2 = k at e1 m1 m2;have hkL : k < L.length := by omega
     have hkR : g - 1 - k < R.length := by omega
     have hx : L[k]? = some L[k] := List.getElem?_eq_getElem hkL;have hy : R[g - 1 - k]? = some R[g - 1 - k] := List.getElem?_eq_getElem hkR;have mx : L[k] ∈ L := List.getElem_mem _;have my : R[g - 1 - k] ∈ R := List.getElem_mem _;generalize L[k] = x at hx mx;generalize R[g - 1 - k] = y at hy my;have gx := Ew (gL k x hx);have gy := Dm (gR _ y hy) (j := ((A.length + g : Nat) : Int) + ((A.length + L.length : Nat) : Int) - 1 - ((A.length + k : Nat) : Int)) (by omega);have hcx := Ar x;have hcy := Ar y;simp (disch := omega) only [Ku, e1, gx, gy, List.length_map, hWl, Ax, go_sem];refine Ab (Nt _ _) ?_;by_cases hc : C3 y x
     · have hc' : (Eo y.name x.name < 0) = True := eq_true (Dn.2 ((Bu (hI.crs x mx y my)).1 hc));simp (disch := omega) only [hc', go_sem];refine Al (x := (p, q)) (p, k) _ _ rfl ⟨p0, by show p ≤ k; omega, by show k ≤ L.length; omega, p3, fun _ => ⟨x, y, hx, hy, hc⟩⟩ (by show k - p < q - p; omega) ?_ ?_
       · (try simp only [Km, Kl, Kk, Kj, Ki, Kh, Kg, Kf]); simp (disch := omega) only [go_sem]
       · simp (disch := omega) only [go_sem]
     · have hc' : (Eo y.name x.name < 0) = False := eq_false fun h => hc ((Bu (hI.crs x mx y my)).2 (Dn.1 h));simp (disch := omega) only [hc', go_sem];refine Al (x := (p, q)) (k + 1, q) _ _ rfl ⟨by show 0 ≤ k + 1; omega, by show k + 1 ≤ q; omega, p2, fun _ => ⟨x, y, by rw [← hx]; rfl, by rw [← hy]; show R[g - (k + 1)]? = _; congr 1; omega, hI.lt mx my hc⟩, p4⟩ (by show q - (k + 1) < q - p; omega) ?_ ?_
       · (try simp only [Km, Kl, Kk, Kj, Ki, Kh, Kg, Kf]); simp (disch := omega) only [go_sem]
       · simp (disch := omega) only [go_sem]
   · obtain rfl : p = q := by omega
     have h1 : ∀ x ∈ L.take p, ∀ y ∈ R.drop (g - p), C3 x y := fun x hx y hy => by
      have hp1 : 0 < p := Nat.pos_of_ne_zero fun e => by rw [e] at hx; cases hx
      have ht1 : g - p < R.length := Nat.lt_of_not_le fun e => by rw [List.drop_eq_nil_of_le e] at hy; cases hy
      obtain ⟨x', y', a1, a2, a3⟩ := p3 (by omega);exact H0 hI.sl hI.sr a1 a2 a3 x (by rwa [show p - 1 + 1 = p by omega]) y hy
     have h2 : ∀ y ∈ R.take (g - p), ∀ x ∈ L.drop p, C3 y x := fun y hy x hx => by
      have ht1 : 0 < g - p := Nat.pos_of_ne_zero fun e => by rw [e] at hy; cases hy
      have hp1 : p < L.length := Nat.lt_of_not_le fun e => by rw [List.drop_eq_nil_of_le e] at hx; cases hx
      obtain ⟨x', y', a1, a2, a3⟩ := p4 (by omega);exact H0 hI.sr hI.sl a2 a1 a3 y (by rwa [show g - 1 - p + 1 = g - p by omega]) x hx
     have eZ := Aoy hI h1 h2;obtain ⟨t, ht⟩ : ∃ t, t = g - p := ⟨_, rfl⟩
     rw [← ht] at eZ;have hst : p + t = g := by omega
     have htr : t ≤ R.length := by omega
     have hpl : p ≤ L.length := by omega
     clear p3 p4 h1 h2 ht;obtain ⟨s, hs⟩ : ∃ s, s = p := ⟨_, rfl⟩
     subst hs;have k1 : (A ++ L.take s).length = A.length + s := by rw [List.length_append, List.length_take]; omega
     have k2 : (L.drop s).length = L.length - s := List.length_drop;have k3 : (R.take t).length = t := by rw [List.length_take]; omega
     have k4 : (R.drop t).length = R.length - t := List.length_drop;have k5 : (L.take s).length = s := by rw [List.length_take]; omega
     have k6 : (A ++ Am (L.take s ++ R.take t)).length = A.length + g := by rw [List.length_append, Cq, List.length_append]; omega
     obtain ⟨W1, hW1⟩ : ∃ W1, W1 = A ++ (L.take s ++ (R.take t ++ (L.drop s ++ (R.drop t ++ B)))) := ⟨_, rfl⟩
     obtain ⟨W2, hW2⟩ : ∃ W2, W2 = A ++ (Am (L.take s ++ R.take t) ++ (L.drop s ++ (R.drop t ++ B))) := ⟨_, rfl⟩
     have hr1 : W = (A ++ L.take s) ++ (L.drop s ++ (R.take t ++ (R.drop t ++ B))) := hW.trans (Aig s t A B);have hr2 : W1 = (A ++ L.take s) ++ (R.take t ++ (L.drop s ++ (R.drop t ++ B))) := by rw [hW1, List.append_assoc]
     have hP2 : W2 = (A ++ Am (L.take s ++ R.take t)) ++ (L.drop s ++ (R.drop t ++ B)) := by rw [hW2, List.append_assoc]
     have hM2 : M = (A ++ Am (L.take s ++ R.take t)) ++ (Am (L.drop s ++ R.drop t) ++ B) := by rw [hM, ← eZ]; simp only [List.append_assoc]
     have e01 : ¬ (s < L.length ∧ 0 < t) → W = W1 := fun h => by rw [hW1, hW]; exact Aih h A B
     have e12 : ¬ (0 < s ∧ 0 < t) → W1 = W2 := fun h => by rw [hW1, hW2, Abl hI h]; simp only [List.append_assoc]
     have e2M : ¬ (s < L.length ∧ t < R.length) → W2 = M := fun h => by rw [hP2, hM2, Abk hI h]; simp only [List.append_assoc]
     have hz1 : W1.length ≤ 1000 := by rw [hr2]; simp only [List.length_append] at k1 ⊢; omega
     have hz2 : W2.length ≤ 1000 := by rw [hP2]; simp only [List.length_append] at k6 ⊢; omega
     by_cases b1 : s < L.length
     · by_cases b2 : 0 < t
       · by_cases b3 : 0 < s
         · by_cases b4 : t < R.length
           · simp (disch := omega) only [Ku, go_sem];refine Ab (K0 (A := A ++ L.take s) (U := L.drop s) (V := R.take t) (B := R.drop t ++ B) (L := W) (M := W1) hr1 hr2 (by omega) (by omega) (by omega) (by omega) (by omega) hsz rfl) ?_;simp (disch := omega) only [go_sem];refine Ab (IH (s + t) (by omega) (A := A) (L := L.take s) (R := R.take t) (B := L.drop s ++ (R.drop t ++ B)) (W := W1) (M := W2) (by omega) hW1 hW2 (by omega) (by omega) (by omega) (hI.fst b3 b2) hz1 rfl) ?_;simp (disch := omega) only [go_sem];refine Ab (IH (L.length + R.length - g) (by omega) (A := A ++ Am (L.take s ++ R.take t)) (L := L.drop s) (R := R.drop t) (B := B) (W := W2) (M := M) (by omega) hP2 hM2 (by omega) (by omega) (by omega) (hI.snd b1 b4) hz2 rfl) ?_;simp (disch := omega) only [go_sem];refine C7 ?_;simp (disch := omega) only [go_sem];rfl
           · exfalso; omega
         · by_cases b4 : t < R.length
           · simp (disch := omega) only [Ku, go_sem];refine Ab (K0 (A := A ++ L.take s) (U := L.drop s) (V := R.take t) (B := R.drop t ++ B) (L := W) (M := W1) hr1 hr2 (by omega) (by omega) (by omega) (by omega) (by omega) hsz rfl) ?_;simp (disch := omega) only [e12 (by omega), go_sem];refine Ab (IH (L.length + R.length - g) (by omega) (A := A ++ Am (L.take s ++ R.take t)) (L := L.drop s) (R := R.drop t) (B := B) (W := W2) (M := M) (by omega) hP2 hM2 (by omega) (by omega) (by omega) (hI.snd b1 b4) hz2 rfl) ?_;simp (disch := omega) only [go_sem];refine C7 ?_;simp (disch := omega) only [go_sem];rfl
           · simp (disch := omega) only [Ku, go_sem];refine Ab (K0 (A := A ++ L.take s) (U := L.drop s) (V := R.take t) (B := R.drop t ++ B) (L := W) (M := W1) hr1 hr2 (by omega) (by omega) (by omega) (by omega) (by omega) hsz rfl) ?_;simp (disch := omega) only [e12 (by omega), e2M (by omega), go_sem];refine C7 ?_;simp (disch := omega) only [go_sem];rfl
       · by_cases b3 : 0 < s
         · by_cases b4 : t < R.length
           · exfalso; omega
           · exfalso; omega
         · by_cases b4 : t < R.length
           · exfalso; omega
           · exfalso; omega
     · by_cases b2 : 0 < t
       · by_cases b3 : 0 < s
         · by_cases b4 : t < R.length
           · simp (disch := omega) only [Ku, e01 (by omega), go_sem];refine Ab (IH (s + t) (by omega) (A := A) (L := L.take s) (R := R.take t) (B := L.drop s ++ (R.drop t ++ B)) (W := W1) (M := W2) (by omega) hW1 hW2 (by omega) (by omega) (by omega) (hI.fst b3 b2) hz1 rfl) ?_;simp (disch := omega) only [e2M (by omega), go_sem];refine C7 ?_;simp (disch := omega) only [go_sem];rfl
           · exfalso; omega
         · by_cases b4 : t < R.length
           · exfalso; omega
           · exfalso; omega
       · by_cases b3 : 0 < s
         · by_cases b4 : t < R.length
           · simp (disch := omega) only [Ku, e01 (by omega), e12 (by omega), e2M (by omega), go_sem];refine C7 ?_;simp (disch := omega) only [go_sem];rfl
           · exfalso; omega
         · by_cases b4 : t < R.length
           · exfalso; omega
           · exfalso; omega
theorem Xd (a b : List Ent) (h : Dif (a ++ b)) : Am (Am a ++ Am b) = Am (a ++ b) :=
 Eg (B9 (h.perm ((A7 a).append (A7 b)).symm)) h ((A7 _).trans ((A7 a).append (A7 b)))
theorem Ny {L : List Ent} (h : Du L) (n : Nat) (h1 : 1 ≤ n) (h2 : n < L.length) : MrgIn (Am (L.take n)) (Am (L.drop n)) := by
 have hd := Fh h;refine ⟨by rw [Cq, List.length_take]; omega, by rw [Cq, List.length_drop]; omega, B9 (List.Pairwise.sublist (List.take_sublist _ _) hd), B9 (List.Pairwise.sublist (List.drop_sublist _ _) hd), ?_, fun x hx y hy => ?_⟩
 · refine Dif.perm hd (List.Perm.symm ?_);have := (A7 (L.take n)).append (A7 (L.drop n))
   rwa [List.take_append_drop] at this
 · have h' := h;rw [← List.take_append_drop n L] at h';exact (List.pairwise_append.1 h').2.2 x (De.1 hx) y (De.1 hy)
def Ja (n : Nat) (W : Nat → List Ent) (k : Nat) : FS := mk [(8, .pv (.i .i64 ((20 * k + 20 : Nat) : Int))), (7, .pv (.i .i64 ((20 * k : Nat) : Int))), (6, .pv (.i .i64 20)), (0, .os 900), (1, .pv (.i .i64 n)), (2, .fn (.func 38) []), (1000000, .os 900)] [(900, some (.row 15 ((W k).map Ah)))]
def E9 (n : Nat) (W : Nat → List Ent) (j : Nat) : FS := mk [(6, .pv (.i .i64 ((20 * j + 20 : Nat) : Int))), (0, .os 900), (1, .pv (.i .i64 n)), (2, .fn (.func 38) []), (1000000, .os 900)] [(900, some (.row 15 ((W j).map Ah)))]
def Rz (n : Nat) (W : Nat → List Ent) (k : Nat) : FS := mk [(8, .pv (.i .i64 ((40 * k + 40 : Nat) : Int))), (7, .pv (.i .i64 ((40 * k : Nat) : Int))), (6, .pv (.i .i64 20)), (0, .os 900), (1, .pv (.i .i64 n)), (2, .fn (.func 38) []), (1000000, .os 900)] [(900, some (.row 15 ((W k).map Ah)))]
def wA (a b : List Ent) (k : Nat) : List Ent := if k = 0 then a else b
def wB (a b c : List Ent) (k : Nat) : List Ent := if k = 0 then a else if k = 1 then b else c
theorem wA0 (a b) : wA a b 0 = a := rfl
theorem wA1 (a b) : wA a b 1 = b := rfl
theorem wB0 (a b c) : wB a b c 0 = a := rfl
theorem wB1 (a b c) : wB a b c 1 = b := rfl
theorem wB2 (a b c) : wB a b c 2 = c := rfl
set_option maxHeartbeats 4000000 in
theorem Afw {L : List Ent} {n : Int} {h d} (hn : n = L.length) (hL : Du L) (hsz : L.length ≤ 40) (hg : h 900 = some (.row 15 (L.map Ah))) :
 FunOk Tryd.prog 55 [.os 900, .pv (.i .i64 n), fIn] h d (.tup []) [.upd 900 (.row 15 ((Am L).map Ah))] := by
 subst hn;unfold fIn;refine Hy (g := 900) mixed fn55 (by simp) (by simp [Ay, tn]) (by simp [Ay, tn]) hg rfl (by simp [Blk.ptr, SV.kill]) rfl (fun _ => rfl) fun F => ?_;have hd := Fh hL;simp (disch := omega) only [ir55, Blk.ptr, go_sem];by_cases h20 : L.length < 20
 · refine Au mixed (Ja L.length fun _ => L) (fun k => k = 0) (fun _ => 0) 0 rfl (Ao ?_ ?_) fun k hk => ?_
   · simp (disch := omega) only [go_sem]
   · (try simp only [Km, Kl, Kk, Kj, Ki, Kh, Kg, Kf]); simp (disch := omega) only [go_sem]
   obtain rfl := hk;simp (disch := omega) only [Ja, go_sem];refine Ab (K2 (A := []) (K := L) (B := []) (M := Am L) (by simp) (by simp) (by simp) (by simp) hL (by omega) rfl) ?_;simp (disch := omega) only [go_sem];refine Au mixed (E9 L.length fun _ => Am L) (fun j => j = 0) (fun _ => 0) 0 rfl (Ao ?_ ?_) fun j hj => ?_
   · simp (disch := omega) only [go_sem]
   · (try simp only [Km, Kl, Kk, Kj, Ki, Kh, Kg, Kf]); simp (disch := omega) only [go_sem]
   obtain rfl := hj;simp (disch := omega) only [E9, go_sem];refine C7 ?_;simp (disch := omega) only [go_sem];rfl
 have t1 : (L.take 20).length = 20 := by rw [List.length_take]; omega
 have t2 : (L.drop 20).length = L.length - 20 := List.length_drop;have hs1 : Du (L.take 20) := List.Pairwise.sublist (List.take_sublist _ _) hL;have hs2 : Du (L.drop 20) := List.Pairwise.sublist (List.drop_sublist _ _) hL;have e1 : L = [] ++ (L.take 20 ++ L.drop 20) := by rw [List.take_append_drop]; rfl
 have s1 : (Am (L.take 20)).length = 20 := by rw [Cq, t1]
 have s2 : (Am (L.drop 20)).length = L.length - 20 := by rw [Cq, t2]
 obtain ⟨W1, hW1⟩ : ∃ W1, W1 = Am (L.take 20) ++ L.drop 20 := ⟨_, rfl⟩
 obtain ⟨W2, hW2⟩ : ∃ W2, W2 = Am (L.take 20) ++ Am (L.drop 20) := ⟨_, rfl⟩
 have z1 : W1.length ≤ 1000 := by rw [hW1, List.length_append]; omega
 have z2 : W2.length ≤ 1000 := by rw [hW2, List.length_append]; omega
 have eF : Am W2 = Am L := by
  rw [hW2, Xd _ _ (by rw [List.take_append_drop]; exact hd), List.take_append_drop]
 by_cases h40 : L.length < 40
 · refine Au mixed (Ja L.length (wA L W1)) (fun k => k ≤ 1) (fun k => 1 - k) 0 (Nat.zero_le _) (Ao ?_ ?_) fun k hk => ?_
   · simp (disch := omega) only [go_sem]
   · simp (disch := omega) only [wA0, go_sem]
   rcases k with _ | k
   · simp (disch := omega) only [Ja, wA0, go_sem];refine Ab (K2 (A := []) (K := L.take 20) (B := L.drop 20) (M := W1) e1 hW1 (by simp) (by simp only [List.length_nil]; omega) hs1 (by omega) rfl) ?_;simp (disch := omega) only [go_sem];refine Al (x := 0) 1 _ _ rfl (Nat.le_refl _) (by omega) ?_ ?_
     · simp (disch := omega) only [go_sem]
     · simp (disch := omega) only [wA1, go_sem]
   · obtain rfl : k = 0 := by omega
     simp (disch := omega) only [Ja, wA1, go_sem];refine Ab (K2 (A := Am (L.take 20)) (K := L.drop 20) (B := []) (M := W2) (by rw [List.append_nil]; exact hW1) (by rw [List.append_nil]; exact hW2) (by omega) (by omega) hs2 z1 rfl) ?_;simp (disch := omega) only [go_sem];by_cases he : L.length = 20
     · have eW : W2 = Am L := by
        rw [hW2, List.take_of_length_le (by omega), List.drop_eq_nil_of_le (by omega)]; exact List.append_nil _
       refine Au mixed (E9 L.length fun _ => W2) (fun j => j = 0) (fun _ => 0) 0 rfl (Ao ?_ ?_) fun j hj => ?_
       · simp (disch := omega) only [go_sem]
       · (try simp only [Km, Kl, Kk, Kj, Ki, Kh, Kg, Kf]); simp (disch := omega) only [go_sem]
       obtain rfl := hj;simp (disch := omega) only [E9, eW, go_sem];refine C7 ?_;simp (disch := omega) only [go_sem];rfl
     · refine Au mixed (E9 L.length (wA W2 (Am L))) (fun j => j ≤ 1) (fun j => 1 - j) 0 (Nat.zero_le _) (Ao ?_ ?_) fun j hj => ?_
       · simp (disch := omega) only [go_sem]
       · simp (disch := omega) only [wA0, go_sem]
       rcases j with _ | j
       · simp (disch := omega) only [E9, wA0, go_sem];refine Au mixed (Rz L.length fun _ => W2) (fun k => k = 0) (fun _ => 0) 0 rfl (Ao ?_ ?_) fun k hk => ?_
         · simp (disch := omega) only [go_sem]
         · (try simp only [Km, Kl, Kk, Kj, Ki, Kh, Kg, Kf]); simp (disch := omega) only [go_sem]
         obtain rfl := hk;simp (disch := omega) only [Rz, go_sem];refine Ab (Wf L.length (A := []) (L := Am (L.take 20)) (R := Am (L.drop 20)) (B := []) (W := W2) (M := Am L) (by omega) (by rw [List.append_nil]; exact hW2) (by rw [List.append_nil, ← hW2, eF]; rfl) (by simp) (by simp only [List.length_nil]; omega) (by simp only [List.length_nil]; omega) (Ny hL 20 (by omega) (by omega)) z2 rfl) ?_;simp (disch := omega) only [go_sem];refine Al (x := 0) 1 _ _ rfl (Nat.le_refl _) (by omega) ?_ ?_
         · simp (disch := omega) only [go_sem]
         · simp (disch := omega) only [wA1, go_sem]
       · obtain rfl : j = 0 := by omega
         simp (disch := omega) only [E9, wA1, go_sem];refine C7 ?_;simp (disch := omega) only [go_sem];rfl
 · have hl : L.length = 40 := by omega
   refine Au mixed (Ja L.length (wB L W1 W2)) (fun k => k ≤ 2) (fun k => 2 - k) 0 (Nat.zero_le _) (Ao ?_ ?_) fun k hk => ?_
   · simp (disch := omega) only [go_sem]
   · simp (disch := omega) only [wB0, go_sem]
   rcases k with _ | k
   · simp (disch := omega) only [Ja, wB0, go_sem];refine Ab (K2 (A := []) (K := L.take 20) (B := L.drop 20) (M := W1) e1 hW1 (by simp) (by simp only [List.length_nil]; omega) hs1 (by omega) rfl) ?_;simp (disch := omega) only [go_sem];refine Al (x := 0) 1 _ _ rfl (by omega) (by omega) ?_ ?_
     · simp (disch := omega) only [go_sem]
     · simp (disch := omega) only [wB1, go_sem]
   rcases k with _ | k
   · simp (disch := omega) only [Ja, wB1, go_sem];refine Ab (K2 (A := Am (L.take 20)) (K := L.drop 20) (B := []) (M := W2) (by rw [List.append_nil]; exact hW1) (by rw [List.append_nil]; exact hW2) (by omega) (by omega) hs2 z1 rfl) ?_;simp (disch := omega) only [go_sem];refine Al (x := 1) 2 _ _ rfl (by omega) (by omega) ?_ ?_
     · simp (disch := omega) only [go_sem]
     · simp (disch := omega) only [wB2, go_sem]
   · obtain rfl : k = 0 := by omega
     have hW2l : W2.length = 40 := by rw [hW2, List.length_append]; omega
     simp (disch := omega) only [Ja, wB2, go_sem];refine Ab (K2 (A := W2) (K := []) (B := []) (M := W2) (by simp) (by simp [Am]) (by omega) (by simp only [List.length_nil]; omega) List.Pairwise.nil z2 rfl) ?_;simp (disch := omega) only [go_sem];refine Au mixed (E9 L.length (wA W2 (Am L))) (fun j => j ≤ 1) (fun j => 1 - j) 0 (Nat.zero_le _) (Ao ?_ ?_) fun j hj => ?_
     · simp (disch := omega) only [go_sem]
     · simp (disch := omega) only [wA0, go_sem]
     rcases j with _ | j
     · simp (disch := omega) only [E9, wA0, go_sem];refine Au mixed (Rz L.length (wA W2 (Am L))) (fun k => k ≤ 1) (fun k => 1 - k) 0 (Nat.zero_le _) (Ao ?_ ?_) fun k hk => ?_
       · simp (disch := omega) only [go_sem]
       · simp (disch := omega) only [wA0, go_sem]
       rcases k with _ | k
       · simp (disch := omega) only [Rz, wA0, go_sem];refine Ab (Wf L.length (A := []) (L := Am (L.take 20)) (R := Am (L.drop 20)) (B := []) (W := W2) (M := Am L) (by omega) (by rw [List.append_nil]; exact hW2) (by rw [List.append_nil, ← hW2, eF]; rfl) (by simp) (by simp only [List.length_nil]; omega) (by simp only [List.length_nil]; omega) (Ny hL 20 (by omega) (by omega)) z2 rfl) ?_;simp (disch := omega) only [go_sem];refine Al (x := 0) 1 _ _ rfl (Nat.le_refl _) (by omega) ?_ ?_
         · simp (disch := omega) only [go_sem]
         · simp (disch := omega) only [wA1, go_sem]
       · obtain rfl : k = 0 := by omega
         simp (disch := omega) only [Rz, wA1, go_sem];refine Al (x := 0) 1 _ _ rfl (Nat.le_refl _) (by omega) ?_ ?_
         · simp (disch := omega) only [go_sem]
         · simp (disch := omega) only [wA1, go_sem]
     · obtain rfl : j = 0 := by omega
       simp (disch := omega) only [E9, wA1, go_sem];refine C7 ?_;simp (disch := omega) only [go_sem];rfl
theorem Aa1 {L : List Ent} {h d} (hL : Du L) (hsz : L.length ≤ 40) (hg : h 900 = some (.row 15 (L.map Ah))) :
 FunOk Tryd.prog 37 [.os 900, .fn (.func 38) []] h d (.tup []) [.upd 900 (.row 15 ((Am L).map Ah))] := by
 refine Hy (g := 900) mixed fn37 (by simp) (by simp [Ay, tn]) (by simp [Ay, tn]) hg rfl (by simp [Blk.ptr, SV.kill]) rfl (fun _ => rfl) fun F => ?_;simp (disch := omega) only [ir37, Blk.ptr, List.length_map, go_sem];refine Ab (Afw rfl hL hsz rfl) ?_;simp (disch := omega) only [go_sem];refine C7 ?_;simp (disch := omega) only [go_sem];rfl
theorem FunOk.rowC {P : Program} {f : Nat} {a : List SV} {sz : Nat} {es es' : List (List PV)} {x : SV} (hf : ∀ h d, h 900 = some (.row sz es) → FunOk P f (.os 900 :: a) h d x [.upd 900 (.row sz es')]) (ha : SV.closedL a = true) (hx : x.closed = true) {g : Nat} {h : Nat → Option Blk} {d : Nat} (hg : h g = some (.row sz es)) :
 FunOk P f (.os g :: a) h d x [.upd g (.row sz es')] := by
 have h1 := (hf (fun k => h (sw1 900 g k)) d (by show h (sw1 900 g 900) = _; rw [Aic]; exact hg)).rn (π := sw1 900 g) (Vt 900 g) (d' := d);simp only [SV.rnL, SV.rn, HU.rn, Blk.rn, List.map_cons, List.map_nil, Aic, Nj ha, Aii hx] at h1;refine h1.at fun n hn => ?_;simp only [Ay, tn, I8 ha, List.append_nil, List.mem_singleton] at hn;subst hn;simp only [Vt, hg, Option.map_some, Blk.rn]
theorem Afx {L : List Ent} {g : Nat} {h d} (hL : Du L) (hsz : L.length ≤ 40) (hg : h g = some (.row 15 (L.map Ah))) :
 FunOk Tryd.prog 37 [.os g, .fn (.func 38) []] h d (.tup []) [.upd g (.row 15 ((Am L).map Ah))] :=
 FunOk.rowC (fun _ _ hg => Aa1 hL hsz hg) rfl rfl hg
theorem Ah5 {cs : List PV} (h : GC Aaf cs) : ∃ x : Ent, cs = Ah x ∧ IdR x.id := by
 simp only [GC, GCL] at h;obtain ⟨c1, r1, rfl, g1, c2, r2, rfl, g2, c3, r3, rfl, ⟨n, rfl, hn⟩, c4, r4, rfl, g4, c5, r5, rfl, g5, rfl⟩ := h;obtain ⟨a, rfl, ha1, ha2⟩ := Tu (by simpa only [GC, GCL] using g1);obtain ⟨b, rfl, _⟩ := Tu (by simpa only [GC, GCL] using g2);obtain ⟨c, rfl, _⟩ := Tu (by simpa only [GC, GCL] using g4);obtain ⟨v, rfl, _⟩ := Aq2 (by simpa only [GC, GCL] using g5);exact ⟨⟨a, b, n, c, v⟩, by simp [Ah, idE, Uv], ⟨ha1.1, by have := ha1.2; show a.1 ≤ _; omega, ha2⟩⟩
theorem Ae2 {W : World} {l : List (String × DataW Unit)} (h : laidMetH Tryd.prog l W) (keep : String × DataW Unit → Bool) (e : ((l.filter fun x => x.2.handleName?.isNone).filter keep) = [("internal/strconv.uint64pow10", Lib.tabData .u64 Lib.pow10Tab)]) : Vo W := by
 have h1 := ((laidMetH_iff.1 h).1).filter keep;rw [e] at h1;have hg : Tryd.prog.globalNamed "internal/strconv.uint64pow10" = some 0 := by kernel_rfl
 have h2 := Lib.tabIs_of_head (g := 0) (t := 97) (e := 76) (n := 20) hg (by kernel_rfl) Tryd.underlying97 Tryd.underlying76 (by kernel_rfl) (by kernel_rfl) h1;intro p hp;obtain rfl := List.mem_singleton.1 hp;unfold Lib.TabIs World.var? at h2;rw [hg] at h2;exact h2
noncomputable def R1 (f : Bool) (l : List Ent) (k : Nat) : FS := mk [(4, .pv (.i .i64 k)), (3, .os 60), (0, .pv (.sl f 15 (l.map Ah)))] [(60, some (.row 1 ((L5 l k).map Ef)))]
set_option maxHeartbeats 1000000 in
theorem Aa2 {x : SV} {f : Bool} {l : List Ent} {h d} (htag : ∀ (k : Nat) (y : Ent), l[k]? = some y → y.name.length ≤ 1000 ∧ IdR y.id)
 (hx : Bk h [x] = [.pv (.sl f 15 (l.map Ah))]) (hl : Az [x] = true) (hn : l.length ≤ 1000) :
 FunOk Tryd.prog 17 [x] h d (.os d) [.new d (.row 1 ((L5 l l.length).map Ef))] := by
 refine Hx mixed fn17 (by simp) hl (.inr (Pd _)) fun F => ?_;rw [hx];simp (disch := omega) only [ir17, List.length_map, go_sem];refine Au mixed (R1 f l) (fun k => k ≤ l.length) (fun k => l.length - k) 0 (Nat.zero_le _) (My 3 60 1 rfl (by omega) (Ao ?_ ?_)) fun k hk => ?_
 · simp (disch := omega) only [go_sem]
 · simp (disch := omega) only [go_sem];rfl
 by_cases hlt : k < l.length
 · have hx' : l[k]? = some l[k] := List.getElem?_eq_getElem hlt;have he : (l.map Ah)[k]? = some (Ah l[k]) := by rw [List.getElem?_map, hx']; rfl
   have ht := Pg l k;have hLn := Nd l k;have s1 := Ajq hx';have s2 := Ajr hx';have htg := htag k _ hx';generalize l[k] = y at *;have hcy := Ar y;by_cases h0 : 0 < k
   · have hp : l[k - 1]? = some l[k - 1] := List.getElem?_eq_getElem (by omega);have hpe : (l.map Ah)[((k : Int) - 1).toNat]? = some (Ah l[k - 1]) := by rw [show ((k : Int) - 1).toNat = k - 1 by omega, List.getElem?_map, hp]; rfl
     by_cases hsn : l[k - 1].name = y.name
     · have hsm : Fi l k y := ⟨h0, _, hp, hsn⟩
       rw [s1 hsm] at ht;generalize l[k - 1] = z at *;simp (disch := omega) only [R1, List.length_map, he, hpe, Ax, Bs, Cv, hcy, hsn, go_sem];refine Ab (Akg htg.1 htg.2) ?_;simp (disch := omega) only [List.length_map, hLn, go_sem];refine ⟨k + 1, by omega, by omega, E6 39 60 (by decide) rfl (Ao ?_ ?_)⟩
       · simp (disch := omega) only [go_sem]
       · simp (disch := omega) only [go_sem];simp [ht, Ef]
     · rw [s2 (by rintro ⟨_, z, h1, h2⟩; rw [hp] at h1; cases h1; exact hsn h2)] at ht;simp (disch := omega) only [R1, List.length_map, he, hpe, Ax, Bs, Cv, hcy, hsn, hLn, go_sem];refine ⟨k + 1, by omega, by omega, E6 39 60 (by decide) rfl (Ao ?_ ?_)⟩
       · simp (disch := omega) only [go_sem]
       · simp (disch := omega) only [go_sem];simp [ht, Ef]
   · rw [s2 (fun h => h0 h.1)] at ht;simp (disch := omega) only [R1, List.length_map, he, Ax, Bs, Cv, hcy, hLn, go_sem];refine ⟨k + 1, by omega, by omega, E6 39 60 (by decide) rfl (Ao ?_ ?_)⟩
     · simp (disch := omega) only [go_sem]
     · simp (disch := omega) only [go_sem];simp [ht, Ef]
 · obtain rfl : k = l.length := by omega
   simp (disch := omega) only [R1, List.length_map, go_sem]
def Ke (obj : D7) (x : Ent) : Bool := decide (x.obj = obj) && decide (Rn x.gone fun _ => 0)
def Vw (f : Bool) (l : List Ent) (obj : D7) (k : Nat) : FS := mk [(6, .pv (.i .i64 k)), (5, .os 60), (3, .p 3 0), (0, .pv (.sl f 15 (l.map Ah)))] [(60, some (.row 15 (((l.take k).filter (Ke obj)).map Ah))), (3, some (.var (.vec 2 [.i .i64 obj.1, .i .u32 obj.2])))]
set_option maxHeartbeats 1000000 in
theorem An2 {x : SV} {f : Bool} {l : List Ent} {obj : D7} {h d} (hx : Bk h [x, .vec 2 [.i .i64 obj.1, .i .u32 obj.2]] = [.pv (.sl f 15 (l.map Ah)), .vec 2 [.i .i64 obj.1, .i .u32 obj.2]]) (hl : Az [x, .vec 2 [.i .i64 obj.1, .i .u32 obj.2]] = true) (hn : l.length ≤ 1000) :
 FunOk Tryd.prog 18 [x, .vec 2 [.i .i64 obj.1, .i .u32 obj.2]] h d (.os d) [.new d (.row 15 ((l.filter (Ke obj)).map Ah))] := by
 refine Hx mixed fn18 (by simp) hl (.inr (F3 _)) fun F => ?_;rw [hx];simp (disch := omega) only [ir18, List.length_map, go_sem];refine Au mixed (Vw f l obj) (fun k => k ≤ l.length) (fun k => l.length - k) 0 (Nat.zero_le _) (My 5 60 15 rfl (by omega) (Ao ?_ ?_)) fun k hk => ?_
 · simp (disch := omega) only [go_sem]
 · simp (disch := omega) only [go_sem];rfl
 by_cases hlt : k < l.length
 · have hx' : l[k]? = some l[k] := List.getElem?_eq_getElem hlt;have he : (l.map Ah)[k]? = some (Ah l[k]) := by rw [List.getElem?_map, hx']; rfl
   have ht := E2 hx' (Ke obj);have hb : ((l.take k).filter (Ke obj)).length ≤ k := Nat.le_trans (List.length_filter_le _ _) (by simp; omega);generalize l[k] = y at *;have hcy := Ar y;by_cases hid : y.obj = obj
   · have hp := Ql hid;simp (disch := omega) only [Vw, List.length_map, he, Ax, Ht, E1, hp, hcy, go_sem];refine Ab (Pl y) ?_;by_cases ha : Rn y.gone fun _ => 0
     · have hP : Ke obj y = true := by simp [Ke, hid, ha]
       rw [if_pos hP] at ht;simp (disch := omega) only [ha, Ax, hcy, List.length_map, he, go_sem];refine ⟨k + 1, by omega, by omega, E6 33 60 (by decide) rfl (Ao ?_ ?_)⟩
       · simp (disch := omega) only [go_sem]
       · simp (disch := omega) only [ht, go_sem];simp
     · have hP : ¬ Ke obj y = true := by simp [Ke, hid, ha]
       rw [if_neg hP, List.append_nil] at ht;simp (disch := omega) only [ha, go_sem];refine Al (k + 1) _ _ rfl (by omega) (by omega) ?_ ?_
       · simp (disch := omega) only [go_sem]
       · simp (disch := omega) only [ht, go_sem]
   · have hp := Qm hid;have hP : ¬ Ke obj y = true := by simp [Ke, hid]
     rw [if_neg hP, List.append_nil] at ht;simp (disch := omega) only [Vw, List.length_map, he, Ax, Ht, E1, hp, hcy, go_sem];refine Al (k + 1) _ _ rfl (by omega) (by omega) ?_ ?_
     · simp (disch := omega) only [go_sem]
     · simp (disch := omega) only [ht, go_sem]
 · obtain rfl : k = l.length := by omega
   have e := List.take_length (l := l);simp (disch := omega) only [Vw, List.length_map, e, go_sem]
def Vy (f : Bool) (l : List Ent) (dir : D7) (k : Nat) : FS := mk [(6, .pv (.i .i64 k)), (5, .os 60), (3, .p 3 0), (0, .pv (.sl f 15 (l.map Ah)))] [(60, some (.row 15 ((Am ((l.take k).filter (Gl dir))).map Ah))), (3, some (.var (.vec 2 [.i .i64 dir.1, .i .u32 dir.2])))]
def Qg (f : Bool) (l : List Ent) (dir : D7) (k : Nat) (S : List Ent) (q : Nat) : FS := mk [(7, .pv (.i .i64 q)), (6, .pv (.i .i64 k)), (5, .os 60), (3, .p 3 0), (0, .pv (.sl f 15 (l.map Ah)))] [(60, some (.row 15 (S.map Ah))), (3, some (.var (.vec 2 [.i .i64 dir.1, .i .u32 dir.2])))]
theorem Af5 {K : List Ent} {q : Nat} {x : Ent} (hK : Dif (K ++ [x])) (h : Ct (Ey (Am K) x q)) : Ey (Am K) x q = Am (K ++ [x]) :=
 Eg h hK ((Jn _ _ _).trans (((A7 _).cons x).trans (List.perm_append_singleton x _).symm))
set_option maxHeartbeats 1000000 in
theorem An4 {x : SV} {f : Bool} {l : List Ent} {dir : D7} {h d} (hs : Du l) (hx : Bk h [x, .vec 2 [.i .i64 dir.1, .i .u32 dir.2]] = [.pv (.sl f 15 (l.map Ah)), .vec 2 [.i .i64 dir.1, .i .u32 dir.2]]) (hl : Az [x, .vec 2 [.i .i64 dir.1, .i .u32 dir.2]] = true) (hn : l.length ≤ 1000) :
 FunOk Tryd.prog 16 [x, .vec 2 [.i .i64 dir.1, .i .u32 dir.2]] h d (.os d) [.new d (.row 15 ((Am (l.filter (Gl dir))).map Ah))] := by
 refine Hx mixed fn16 (by simp) hl (.inr (F3 _)) fun F => ?_;rw [hx];simp (disch := omega) only [ir16, List.length_map, go_sem];refine Au mixed (Vy f l dir) (fun k => k ≤ l.length) (fun k => l.length - k) 0 (Nat.zero_le _) (My 5 60 15 rfl (by omega) (Ao ?_ ?_)) fun k hk => ?_
 · simp (disch := omega) only [go_sem]
 · simp (disch := omega) only [go_sem];rfl
 by_cases hlt : k < l.length
 · have hx' : l[k]? = some l[k] := List.getElem?_eq_getElem hlt;have he : (l.map Ah)[k]? = some (Ah l[k]) := by rw [List.getElem?_map, hx']; rfl
   have ht := E2 hx' (Gl dir);have hb : ((l.take k).filter (Gl dir)).length ≤ k := Nat.le_trans (List.length_filter_le _ _) (by simp; omega);have hDk : Du ((l.take (k + 1)).filter (Gl dir)) := List.Pairwise.sublist (List.filter_sublist.trans (List.take_sublist _ _)) hs;generalize l[k] = y at *;have hcy := Ar y;by_cases hid : y.dir = dir
   · have hp := Ql hid;simp (disch := omega) only [Vy, List.length_map, he, Ax, Hu, E1, hp, hcy, go_sem];refine Ab (Pl y) ?_;by_cases ha : Rn y.gone fun _ => 0
     · have hP : Gl dir y = true := by simp [Gl, hid, ha]
       rw [if_pos hP] at ht;rw [ht] at hDk;have hD := Fh hDk;have hidx : ∀ z ∈ (l.take k).filter (Gl dir), Em z.id y.id = true := fun z hz => (List.pairwise_append.1 hDk).2.2 z hz y (List.mem_singleton.2 rfl);have hSs : Ct (Am ((l.take k).filter (Gl dir))) := B9 (List.Pairwise.sublist (List.sublist_append_left _ _) hD);have hSl : (Am ((l.take k).filter (Gl dir))).length ≤ k := by rw [Cq]; exact hb
       have hfin := fun q => Af5 (q := q) hD;have hids : ∀ z ∈ Am ((l.take k).filter (Gl dir)), Em z.id y.id = true := fun z hz => hidx z (De.1 hz);rw [← ht] at hfin;generalize hSe : Am ((l.take k).filter (Gl dir)) = S at *;simp (disch := omega) only [ha, hSe, List.length_map, go_sem];refine Au mixed (Qg f l dir k S) (fun q => q ≤ S.length ∧ ∀ z ∈ S.drop q, C3 y z) (fun q => q) S.length ⟨Nat.le_refl _, fun z hz => by rw [List.drop_length] at hz; cases hz⟩ (Ao ?_ ?_) fun q hq => ?_
       · simp (disch := omega) only [go_sem]
       · simp (disch := omega) only [go_sem]
       obtain ⟨hqk, hq⟩ := hq;have done : (∀ z ∈ S.take q, C3 z y) → (S.map Ah).take q ++ Ah y :: (S.map Ah).drop q = (Am ((l.take (k + 1)).filter (Gl dir))).map Ah := fun hh => by
        rw [← hfin q (Mg hSs hh hq)];unfold Ey;rw [List.map_append, List.map_cons, List.map_take, List.map_drop]
       by_cases hgo : ∃ p s, q = p + 1 ∧ S[p]? = some s ∧ C3 y s
       · obtain ⟨p, s, rfl, hsp, hlt'⟩ := hgo;have gs := Dm hsp (j := ((p + 1 : Nat) : Int) - 1) (by omega);have hcs := Ar s;have hsx := hids s (List.mem_of_getElem? hsp);have hc := (Bu hsx).1 hlt';have hdp : S.drop p = s :: S.drop (p + 1) := by
          rw [List.drop_eq_getElem_cons (by omega)]; congr 1; exact (List.getElem?_eq_some_iff.1 hsp).2
         simp (disch := omega) only [Qg, List.length_map, he, gs, hcy, hcs, Bs, hc, go_sem];refine Al (x := p + 1) p _ _ rfl ⟨by omega, fun z hz => ?_⟩ (by omega) ?_ ?_
         · rw [hdp] at hz;rcases List.mem_cons.1 hz with rfl | hz
           · exact hlt'
           · exact hq z hz
         · simp (disch := omega) only [go_sem]
         · simp (disch := omega) only [go_sem]
       · have hh : ∀ z ∈ S.take q, C3 z y := fun z hz => by
          rcases q with _ | p
          · cases hz
          · have hsp : S[p]? = some S[p] := List.getElem?_eq_getElem (by omega);have hno : ¬ C3 y S[p] := fun e => hgo ⟨p, _, rfl, hsp, e⟩;exact Mb hSs hsp (Mf hno fun e => by have := hids _ (List.mem_of_getElem? hsp); rw [e] at this; exact Ea this) z hz
         have e2 := done hh;have hall : (S.map Ah).take S.length = S.map Ah := List.take_of_length_le (by rw [List.length_map]; exact Nat.le_refl _);have hq1 : ((S.map Ah).take q).length = q := by rw [List.length_take, List.length_map]; omega
         have hq2 : ((S.map Ah).drop q).length = S.length - q := by rw [List.length_drop, List.length_map]
         rcases q with _ | p
         · simp (disch := omega) only [Qg, List.length_map, he, hcy, Ax, go_sem];rw [List.drop_zero] at e2;refine Wz (n := 60) rfl (Wy ?_);simp (disch := omega) only [List.length_map, he, hcy, Ax, hq1, hq2, List.length_append, List.length_cons, List.length_nil, hall, go_sem];refine ⟨k + 1, by omega, by omega, E6 65 60 (by decide) rfl (Ao ?_ ?_)⟩
           · simp (disch := omega) only [go_sem]
           · simp (disch := omega) only [e2, go_sem]
         · have hsp : S[p]? = some S[p] := List.getElem?_eq_getElem (by omega);have gs := Dm hsp (j := ((p + 1 : Nat) : Int) - 1) (by omega);have hcs := Ar S[p];have hc : Op.bytesLess y.name (S[p]).name = false := by
            have hno : ¬ C3 y S[p] := fun e => hgo ⟨p, _, rfl, hsp, e⟩;have := fun e => hno ((Bu (hids _ (List.mem_of_getElem? hsp))).2 e);simpa using this
           generalize S[p] = s at *;simp (disch := omega) only [Qg, List.length_map, he, gs, hcy, hcs, Bs, hc, Ax, go_sem];refine Wz (n := 60) rfl (Wy ?_);simp (disch := omega) only [List.length_map, he, hcy, Ax, hq1, hq2, List.length_append, List.length_cons, List.length_nil, hall, go_sem];refine ⟨k + 1, by omega, by omega, E6 65 60 (by decide) rfl (Ao ?_ ?_)⟩
           · simp (disch := omega) only [go_sem]
           · simp (disch := omega) only [e2, go_sem]
     · have hP : ¬ Gl dir y = true := by simp [Gl, hid, ha]
       rw [if_neg hP, List.append_nil] at ht;simp (disch := omega) only [ha, go_sem];refine Al (k + 1) _ _ rfl (by omega) (by omega) ?_ ?_
       · simp (disch := omega) only [go_sem]
       · simp (disch := omega) only [ht, go_sem]
   · have hp := Qm hid;have hP : ¬ Gl dir y = true := by simp [Gl, hid]
     rw [if_neg hP, List.append_nil] at ht;simp (disch := omega) only [Vy, List.length_map, he, Ax, Hu, E1, hp, hcy, go_sem];refine Al (k + 1) _ _ rfl (by omega) (by omega) ?_ ?_
     · simp (disch := omega) only [go_sem]
     · simp (disch := omega) only [ht, go_sem]
 · obtain rfl : k = l.length := by omega
   have e := List.take_length (l := l);simp (disch := omega) only [Vy, List.length_map, e, go_sem]
def ofF (f : Bool) (l : List Ent) (obj : D7) : SV := .fn (.func 41) [.pi 1 [[.sl f 15 (l.map Ah)]] 0 0, .pi 2 [[.i .i64 obj.1, .i .u32 obj.2]] 0 0]
theorem An3 {f : Bool} {l : List Ent} {obj : D7} {h d} : FunOk Tryd.prog 19 [.pv (.sl f 15 (l.map Ah)), .vec 2 [.i .i64 obj.1, .i .u32 obj.2]] h d (ofF f l obj) [] := by
 refine Yp mixed fn19 (by simp) rfl rfl fun F => ?_;simp (disch := omega) only [ir19, ofF, go_sem];refine ⟨_, Vq 2 (x := .pv (.sl f 15 (l.map Ah))) (cs := [.sl f 15 (l.map Ah)]) rfl rfl (Vq 3 (x := .vec 2 [.i .i64 obj.1, .i .u32 obj.2]) (cs := [.i .i64 obj.1, .i .u32 obj.2]) rfl rfl (.same _)), ?_⟩
 (try simp only [Km, Kl, Kk, Kj, Ki, Kh, Kg, Kf]); simp (disch := omega) only [go_sem]
end Go.Proofs.YthleeikkpjiicaaDoor.Fw
namespace Go.Proofs.YthleeikkpjiicaaDoor.Fw
open Go.RowKit
variable {P : Program} {F : Fr} {N : Nat} {ρ ρ' : Nat → Value} {s : FS} {a : Act} {w w' : World} {V V' : View}
end Go.Proofs.YthleeikkpjiicaaDoor.Fw
namespace Go.Proofs.YthleeikkpjiicaaDoor.Fw
open Go.RowKit Go.Proofs
theorem Agf (t : List UInt8) (K : KK) : LoadK (some (Ef t)) 0 1 false K = K (.pv (.s t)) [] := by simp [LoadK, Ml, Ef]
theorem Ao6 (a : Int) (b : Nat) (K : KK) : LoadK (some [.i .i64 a, .i .u32 b]) 0 2 true K = K (.vec 2 [.i .i64 a, .i .u32 b]) [] := by
 simp only [LoadK, Ml, eq_iff_iff];exact ⟨fun h => h.2.2, fun h => ⟨by simp, .inl trivial, h⟩⟩
theorem Ak0 (es : List (List PV)) (f : Bool) (z : Nat) (K : KK) : LoadK (some [.sl f z es]) 0 1 false K = K (.pv (.sl f z es)) [] := by
 simp only [LoadK, Ml, eq_iff_iff];exact ⟨fun h => h.2.2, fun h => ⟨by simp, .inr trivial, h⟩⟩
theorem Ari (p : Nat) (hp : p < 1000) : ∀ q ∈ [p], q < D4 := by
 intro q hq;have : D4 = 1000000 := rfl;simp at hq; omega
theorem Ao5 (a c : Int) (b d : Nat) (K : KK) : LoadK (some [.i .i64 a, .i .u32 b, .i .i64 c, .i .u32 d]) 0 2 true K = K (.vec 2 [.i .i64 a, .i .u32 b]) [] := by
 simp only [LoadK, Ml, eq_iff_iff];exact ⟨fun h => h.2.2, fun h => ⟨by simp, .inl trivial, h⟩⟩
theorem Ao4 (a c : Int) (b d : Nat) (K : KK) : LoadK (some [.i .i64 a, .i .u32 b, .i .i64 c, .i .u32 d]) 2 2 true K = K (.vec 2 [.i .i64 c, .i .u32 d]) [] := by
 simp only [LoadK, Ml, eq_iff_iff];exact ⟨fun h => h.2.2, fun h => ⟨by simp, .inl trivial, h⟩⟩
def Z4 (l : List Ent) (obj : D7) (stop : Int) (S : List (List UInt8)) (k : Nat) : FS := mk [(49, .pv (.i .i64 k)), (48, .pv (.i .i64 S.length)), (10, .os 39), (11, .os 41), (0, .pv (.sl false 15 (l.map Ah))), (2, .pv (.i .i64 stop)), (6, .p 6 0), (8, .p 8 0)] [(39, some (.row 1 (S.map Ef))), (41, some (.row 1 (S.map Ef))), (6, some (.var (.pv (.b false)))), (8, some (.var (.vec 2 [.i .i64 obj.1, .i .u32 obj.2])))]
def Vv (l0 : Nat) (l : List Ent) (obj : D7) (W : List Ent) (m : Nat) (j : Nat) : FS := mk [(8, .pv (.i .i64 j)), (7, .pv (.i .i64 l.length)), (6, .pv (.sl false 15 (l.map Ah))), (0, .fn (.yield l0) []), (2, .pi 2 [[.i .i64 obj.1, .i .u32 obj.2]] 0 0), (1000000, .pv (.i .i64 0)), (1000007, .p 6 0), (1000014, .p 13 0), (1000015, .p 14 0), (1000016, .p 15 0)]
 [(6, some (.var (.pv (.b false)))), (13, some (.var (.pv (.sl false 15 (W.map Ah))))), (14, some (.var (.pv (.i .i64 (((l.take j).filter (Ke obj)).length : Nat))))), (15, some (.var (.pv (.i .i64 m))))]
theorem Yt {l : List Ent} {j : Nat} {y : Ent} {P : Ent → Bool} (h : l[j]? = some y) (hP : P y = true) : (l.filter P)[((l.take j).filter P).length]? = some y := by
 have hd : l.drop j = y :: l.drop (j + 1) := by
  rw [List.drop_eq_getElem_cons (List.getElem?_eq_some_iff.1 h).1]; congr 1; exact (List.getElem?_eq_some_iff.1 h).2
 have e : l.filter P = (l.take j).filter P ++ y :: (l.drop (j + 1)).filter P := by
  conv => lhs; rw [← List.take_append_drop j l]
  rw [List.filter_append, hd, List.filter_cons_of_pos hP]
 rw [e, List.getElem?_append_right (Nat.le_refl _), Nat.sub_self]; rfl
set_option maxHeartbeats 4000000 in
theorem Q0 (l : List Ent) (dir obj : D7) (stop : Int) (hid : ∀ x ∈ l, IdR x.id) (hs0 : -9223372036854775808 ≤ stop) (hs1 : stop < 9223372036854775808) {h d} :
 FunOk Tryd.prog 4 [.pv (.sl false 15 (l.map Ah)), .vec 4 [.i .i64 dir.1, .i .u32 dir.2, .i .i64 obj.1, .i .u32 obj.2], .pv (.i .i64 stop)] h d (.pv (.b true)) [] := by
 refine A6 mixed fn4 (by simp) rfl rfl fun F => ?_;simp (disch := omega) only [ir4, go_sem];refine Ad0 ?_;simp (disch := omega) only [Ao5, Ao4, go_sem];refine Ab Wl ?_;simp (disch := omega) only [go_sem];refine Ab (Af0 (l := l) rfl rfl) ?_;by_cases ha : W0 l
 case neg =>
  have e := J0 ha;simp (disch := omega) only [e, go_sem];refine Ab Wl ?_;simp (disch := omega) only [go_sem]
 have e := S5 ha;have la := ha.1;have sl := N9 ha.2.1;have hfl : ((l.filter (Gl dir)).length : Nat) ≤ 40 := Nat.le_trans (List.length_filter_le _ _) la;have sf : Du (l.filter (Gl dir)) := List.Pairwise.sublist (List.filter_sublist) sl;simp (disch := omega) only [e, List.length_map, go_sem];refine Ab (Aik (l := l) (M := Am (l.filter (Gl dir))) (dir := dir) (fun {h d} hh => Afx sf (by omega) hh) rfl rfl (by omega)) ?_;simp (disch := omega) only [go_sem];refine Ab (An4 (l := l) (dir := dir) sl rfl rfl (by omega)) ?_;have mem : ∀ x ∈ Am (l.filter (Gl dir)), x ∈ l := fun x hx => (List.mem_filter.1 (De.1 hx)).1;have hMl : (Am (l.filter (Gl dir))).length = (l.filter (Gl dir)).length := Cq _;generalize Am (l.filter (Gl dir)) = M at *;simp (disch := omega) only [go_sem];refine Ab (Aa3 (l := M) (m := M) rfl rfl rfl (by omega)) ?_;simp (disch := omega) only [go_sem];have hM : ∀ (k : Nat) (y : Ent), M[k]? = some y → y.name.length ≤ 1000 ∧ IdR y.id := fun k y hy => ⟨by have := ha.2.2 y (mem y (List.mem_of_getElem? hy)); omega, hid y (mem y (List.mem_of_getElem? hy))⟩
 refine Ab (Wc (x := .os 31) (f := false) (l := M) (fun k y hy hs {h d} => Anx (hM k y hy).1 (hM k y hy).2) rfl rfl (by omega)) ?_;simp (disch := omega) only [go_sem];refine Ab (Aa2 (x := .os 31) (f := false) (l := M) hM rfl rfl (by omega)) ?_;have hS40 : (L5 M M.length).length ≤ 40 := by rw [Nd]; omega
 generalize L5 M M.length = S at *;simp (disch := omega) only [List.length_map, go_sem];refine Au mixed (Z4 l obj stop S) (fun k => k ≤ S.length) (fun k => S.length - k) 0 (Nat.zero_le _) (Ao ?_ ?_) fun k hk => ?_
 · simp (disch := omega) only [go_sem]
 · simp (disch := omega) only [go_sem]
 by_cases hlt : k < S.length
 · have hs : S[k]? = some S[k] := List.getElem?_eq_getElem hlt;generalize S[k] = s at hs;have gs : (S.map Ef)[k]? = some (Ef s) := by rw [List.getElem?_map, hs]; rfl
   have hne : decide (s = s) = true := by simp
   simp (disch := omega) only [Z4, List.length_map, gs, Agf, hne, go_sem];refine Al (k + 1) _ _ rfl (by omega) (by omega) ?_ ?_
   · simp (disch := omega) only [go_sem]
   · simp (disch := omega) only [go_sem]
 obtain rfl : k = S.length := by omega
 simp (disch := omega) only [Z4, go_sem];refine Ab (An2 (l := l) (obj := obj) rfl rfl (by omega)) ?_;obtain ⟨m, hm, hw⟩ := Aev stop (n := 20) (by omega) (by omega);have hWl : (l.filter (Ke obj)).length ≤ l.length := List.length_filter_le _ _;generalize hW : l.filter (Ke obj) = W at *;have hw' : IntKind.i64.wrap ((IntKind.u64.wrap stop).tmod 20) = (m : Int) := by
  have := hw;rw [Mx (n := ((20 : Nat) : Int)) (by omega)] at this;exact this
 have hm1 : (1 : Int) + (m : Int) = ((m + 1 : Nat) : Int) := by omega
 simp (disch := omega) only [hw', hm1, go_sem];refine Ab (An3 (f := false) (l := l) (obj := obj)) ?_;simp (disch := omega) only [ofF, go_sem];refine Ajv mixed fn41 (by simp) fun l0 XI hc => ?_;rw [Acz _ _ _ (by show 3 ≤ 1000000; omega)];simp (disch := omega) only [ir41, List.getElem?_cons_zero, Ak0, List.length_map, go_sem];have e00 : ((List.filter (Ke obj) (List.take 0 l)).length : Int) = 0 := by simp
 refine Au mixed (Vv l0 l obj W (m + 1)) (fun j => j ≤ l.length ∧ ((l.take j).filter (Ke obj)).length < m + 1) (fun j => l.length - j) 0 ⟨Nat.zero_le _, by simp⟩ (Ait 64 rfl (Ao ?_ ?_)) fun j hj => ?_
 · simp (disch := omega) only [go_sem]
 · simp (disch := omega) only [e00, go_sem]
 obtain ⟨hj, hjm⟩ := hj;have hpre : ((l.take j).filter (Ke obj)).length ≤ W.length := by
  rw [← hW]; exact List.Sublist.length_le ((List.take_sublist j l).filter _)
 by_cases hjl : j < l.length
 · have hx : l[j]? = some l[j] := List.getElem?_eq_getElem hjl;have he : (l.map Ah)[j]? = some (Ah l[j]) := by rw [List.getElem?_map, hx]; rfl
   have ht := E2 hx (Ke obj);have hat := Yt (P := Ke obj) hx;rw [hW] at hat;generalize l[j] = y at *;have hcy := Ar y;by_cases hob : y.obj = obj
   · have hp := Ql hob;simp (disch := omega) only [Vv, List.length_map, he, Ax, Ht, E1, hp, hcy, List.getElem?_cons_zero, Ao6, go_sem];refine Ab (Nu y) ?_;by_cases hal : Rn y.gone fun _ => 0
     · have hP : Ke obj y = true := by simp [Ke, hob, hal]
       rw [if_pos hP] at ht;have hcnt : (List.filter (Ke obj) (l.take (j + 1))).length = ((l.take j).filter (Ke obj)).length + 1 := by rw [ht, List.length_append]; rfl
       have hWn := hat hP;have hWlt := (List.getElem?_eq_some_iff.1 hWn).1;have gW : (W.map Ah)[((l.take j).filter (Ke obj)).length]? = some (Ah y) := by rw [List.getElem?_map, hWn]; rfl
       generalize hn : ((l.take j).filter (Ke obj)).length = n at *;have hpq := Sa (Ah y);have hft := S4 y;simp (disch := omega) only [hal, Ax, hcy, go_sem];refine Ais mixed hc ?_ rfl fun XA XB => ?_
       · simp (disch := omega) only [go_sem]
       rw [Aao _ _ _ _ (Ari 73 (by decide))];by_cases hmost : n + 1 = m + 1
       · simp (disch := omega) only [Ax, hcy, hn, gW, List.length_map, hpq, hft, go_sem]
       · simp (disch := omega) only [Ax, hcy, hn, gW, List.length_map, hpq, hft, go_sem];refine Al (x := j) (j + 1) _ _ rfl ⟨by omega, by rw [hcnt]; omega⟩ (by omega) ?_ ?_
         · simp (disch := omega) only [go_sem]
         · simp (disch := omega) only [hcnt, go_sem]
     · have hP : ¬ Ke obj y = true := by simp [Ke, hob, hal]
       rw [if_neg hP, List.append_nil] at ht;simp (disch := omega) only [hal, go_sem];refine Al (x := j) (j + 1) _ _ rfl ⟨by omega, by rw [ht]; exact hjm⟩ (by omega) ?_ ?_
       · simp (disch := omega) only [go_sem]
       · simp (disch := omega) only [ht, go_sem]
   · have hp := Qm hob;have hP : ¬ Ke obj y = true := by simp [Ke, hob]
     rw [if_neg hP, List.append_nil] at ht;simp (disch := omega) only [Vv, List.length_map, he, Ax, Ht, E1, hp, hcy, List.getElem?_cons_zero, Ao6, go_sem];refine Al (x := j) (j + 1) _ _ rfl ⟨by omega, by rw [ht]; exact hjm⟩ (by omega) ?_ ?_
     · simp (disch := omega) only [go_sem]
     · simp (disch := omega) only [ht, go_sem]
 · obtain rfl : j = l.length := by omega
   rw [List.take_length, hW] at hjm;have htk : l.take l.length = l := List.take_length;simp (disch := omega) only [Vv, List.length_map, htk, hW, go_sem]
theorem Am2 {cs : List PV} (h : GC (.arr 2 T8) cs) : ∃ a b : D7, cs = [.i .i64 a.1, .i .u32 a.2, .i .i64 b.1, .i .u32 b.2] := by
 unfold GC at h;obtain ⟨cc, rfl, hl, hc⟩ := h
 match cc, hl with
 | [x, y], _ =>
   obtain ⟨a, rfl, _⟩ := Tu (hc x (by simp));obtain ⟨b, rfl, _⟩ := Tu (hc y (by simp));exact ⟨a, b, by simp [idE]⟩
theorem N7 {c0 c1 c2 : List PV} (g0 : GC (.sl Aaf) c0) (g1 : GC (.arr 2 T8) c1) (g2 : GC (.int .i64) c2) {h d} :
 FunOk Tryd.prog 4 [D8 (.sl Aaf) c0, D8 (.arr 2 T8) c1, D8 (.int .i64) c2] h d (.pv (.b true)) [] := by
 obtain ⟨es, rfl, h1, g0⟩ := Aq3 g0;obtain ⟨l, rfl, hl⟩ := Ac0 (f := Ah) Ah5 g0;obtain ⟨a, b, rfl⟩ := Am2 g1;obtain ⟨n, rfl, n0, n1⟩ := Am3 g2;exact Q0 l a b n hl n0 n1
end Go.Proofs.YthleeikkpjiicaaDoor.Fw
