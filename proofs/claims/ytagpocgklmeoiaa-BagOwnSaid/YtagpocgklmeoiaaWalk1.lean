/- What the functions compute that the laws of this seat reach. -/
import Derived.Test.YtagpocgklmeoiaaIr
import Derived.OpenShut
import Derived.ShutString
import Derived.ChangeOld
import Derived.SizedLaws
import Derived.ChangeOld
import Derived.Lib.Bytealg
import Derived.OpenShut
import Derived.ShutString
import Derived.SizedLaws
set_option linter.unusedVariables false
set_option linter.unusedSimpArgs false
set_option linter.unusedSectionVars false
set_option maxRecDepth 100000
namespace Go.Proofs.Ytagpocgklmeoiaa.Fw
open Go.RowKit Go.Proofs
end Go.Proofs.Ytagpocgklmeoiaa.Fw
namespace Go.Proofs.Ytagpocgklmeoiaa.Fw
open Go.RowKit
noncomputable abbrev Jw (w : World) : View := Ao w fun _ => False
theorem Uf {w : World} {a : Addr} {v : Value} (h : w.cell? a = some v) : a.spot = none ∧ ∃ arr, Jw w a.block = some arr ∧ arr[a.off]? = some v := by
 unfold World.cell? at h;split at h
 · rename_i c ty fr hb;split at h
   · cases h
   · rename_i hs;refine ⟨by cases hx : a.spot <;> simp_all, c, ?_, h⟩;unfold Jw Ao Cx;simp [hb]
 · cases h
inductive Sh where
 | int (k : IntKind) | bool | str | arr (n : Nat) (s : Sh) | st (l : List Sh) | sl (s : Sh)
mutual
def Sh.w : Sh → Nat
 | .arr n s => n * s.w
 | .st l => Sh.wL l
 | _ => 1
def Sh.wL : List Sh → Nat
 | [] => 0
 | s :: l => s.w + Sh.wL l
end
mutual
def Wh (P : Program) : Sh → TypeId → Bool
 | .int k, t => match P.underlying t with | some (.int k') => decide (k = k') | _ => false
 | .bool, t => match P.underlying t with | some .bool => true | _ => false
 | .str, t => match P.underlying t with | some .string => true | _ => false
 | .arr n s, t => match P.underlying t with | some (.array n' e) => decide (n = n') && decide (P.cellsOf e = s.w) && decide (P.cellsOf t = n * s.w) && Wh P s e | _ => false
 | .st l, t => match P.underlying t with | some (.struct fs) => decide (P.cellsOf t = Sh.wL l) && Ag9 P l fs.toList 0 | _ => false
 | .sl s, t => match P.underlying t with | some (.slice e) => decide (P.cellsOf e = s.w) && decide (0 < s.w) && Wh P s e | _ => false
def Ag9 (P : Program) : List Sh → List Field → Nat → Bool
 | [], [], _ => true
 | s :: l, f :: fs, off => decide (f.offset = off) && decide (P.cellsOf f.type = s.w) && Wh P s f.type && Ag9 P l fs (off + s.w)
 | _, _, _ => false
end
mutual
def GC : Sh → List PV → Prop
 | .int k, cs => ∃ n, cs = [.i k n] ∧ (Lit.int k n).wf = true
 | .bool, cs => ∃ b, cs = [.b b]
 | .str, cs => ∃ l, cs = [.s l] ∧ l.length ≤ maxLen
 | .arr n s, cs => ∃ cc : List (List PV), cs = cc.flatten ∧ cc.length = n ∧ ∀ c ∈ cc, GC s c
 | .st l, cs => GCL l cs
 | .sl s, cs => ∃ es, cs = [.sl false s.w es] ∧ es.length ≤ maxLen ∧ ∀ c ∈ es, GC s c
def GCL : List Sh → List PV → Prop
 | [], cs => cs = []
 | s :: l, cs => ∃ c cs', cs = c ++ cs' ∧ GC s c ∧ GCL l cs'
end
theorem Yj {w : Nat} : ∀ {cc : List (List PV)}, (∀ c ∈ cc, c.length = w) → cc.flatten.length = cc.length * w
 | [], _ => by simp
 | c :: cc, h => by
   rw [List.flatten_cons, List.length_append, Yj fun c hc => h c (by simp [hc]), h c (by simp), List.length_cons, Nat.add_mul]; omega
mutual
theorem GC.len : ∀ {s : Sh} {cs : List PV}, GC s cs → cs.length = s.w
 | .int k, cs, h => by obtain ⟨n, rfl, _⟩ := h; rfl
 | .bool, cs, h => by obtain ⟨n, rfl⟩ := h; rfl
 | .str, cs, h => by obtain ⟨n, rfl, _⟩ := h; rfl
 | .arr n s, cs, h => by
   simp only [GC] at h;obtain ⟨cc, rfl, rfl, h⟩ := h;rw [Yj fun c hc => GC.len (h c hc)]; rfl
 | .st l, cs, h => by simp only [GC] at h; simp only [Sh.w]; exact GCL.len h
 | .sl s, cs, h => by obtain ⟨n, rfl, _⟩ := h; rfl
theorem GCL.len : ∀ {l : List Sh} {cs : List PV}, GCL l cs → cs.length = Sh.wL l
 | [], cs, h => by simp only [GCL] at h; subst h; rfl
 | s :: l, cs, h => by
   simp only [GCL] at h;obtain ⟨c, cs', rfl, h1, h2⟩ := h;rw [List.length_append, GC.len h1, GCL.len h2]; rfl
end
theorem Ak1 {V : View} {s : Sh} : ∀ (n : Nat) (vs : List Value), vs.length = n * s.w → (∀ i, i < n → ∃ c, GC s c ∧ PCells V c ((vs.drop (i * s.w)).take s.w)) → ∃ cc : List (List PV), cc.length = n ∧ (∀ c ∈ cc, GC s c) ∧ PCells V cc.flatten vs
 | 0, vs, hl, h => by
   have : vs = [] := List.eq_nil_of_length_eq_zero (by omega);subst this;exact ⟨[], rfl, by simp, PCells.nil⟩
 | n + 1, vs, hl, h => by
   rw [Nat.add_mul] at hl;obtain ⟨c, g, p⟩ := h 0 (by omega);rw [Nat.zero_mul, List.drop_zero] at p;obtain ⟨cc, e1, e2, e3⟩ := Ak1 (V := V) (s := s) n (vs.drop s.w) (by rw [List.length_drop]; omega) fun i hi => by
    obtain ⟨c', g', p'⟩ := h (i + 1) (by omega);refine ⟨c', g', ?_⟩;rw [List.drop_drop, show s.w + i * s.w = (i + 1) * s.w from by rw [Nat.add_mul]; omega];exact p'
   refine ⟨c :: cc, by simp [e1], fun x hx => ?_, ?_⟩
   · rcases List.mem_cons.1 hx with rfl | hx
     · exact g
     · exact e2 x hx
   · rw [List.flatten_cons];have := PCells.append p e3
     rwa [List.take_append_drop] at this
theorem Apx {a : Addr} (h : a.spot = none) (i j : Nat) : (a.add i).add j = ⟨a.block, a.off + (i + j), none⟩ := by
 obtain ⟨b, o, sp⟩ := a;simp only at h; subst h;unfold Addr.add;by_cases hi : i = 0
 · subst hi;by_cases hj : j = 0
   · subst hj; simp
   · simp [hj]
 · by_cases hj : j = 0
   · subst hj; simp [hi]
   · simp [hi, hj]; omega
theorem Ag1 {w : World} {s : Sh} {a : Addr} {len cap : Nat} (hcap : len ≤ cap) (hw : 0 < s.w)
 (h : ∀ i, i < len → ∃ c vs, GC s c ∧ PCells (Jw w) c vs ∧ w.cells? 0 (a.add (i * s.w)) s.w = some vs) :
 ∃ es : List (List PV), es.length = len ∧ (∀ c ∈ es, GC s c) ∧ PConc (Jw w) (.sl false s.w es) (.slice (some a) len cap) := by
 by_cases h0 : len = 0
 · subst h0;exact ⟨[], rfl, by simp, .sl false s.w [] (some a) cap (fun _ _ => undef) 0 0 #[] (by simp) (by simp) (by simp) (by simp) (by simp) (by simp)⟩
 · have h' : ∀ i, ∃ c vs, i < len → GC s c ∧ PCells (Jw w) c vs ∧ w.cells? 0 (a.add (i * s.w)) s.w = some vs := fun i => by
    by_cases hi : i < len
    · obtain ⟨c, vs, h1⟩ := h i hi; exact ⟨c, vs, fun _ => h1⟩
    · exact ⟨[], [], fun h => absurd h hi⟩
   obtain ⟨c, hc⟩ := Classical.axiomOfChoice h';obtain ⟨vs, hv⟩ := Classical.axiomOfChoice hc;obtain ⟨g0, p0, k0⟩ := hv 0 (by omega);obtain ⟨_, l0, c0⟩ := World.cells?_some k0;have c00 := c0 0 hw;have hlen0 : 0 < (vs 0).length := by omega
   rw [List.getElem?_eq_getElem hlen0, Nat.zero_mul] at c00;have e0 : (a.add 0).add 0 = a := by simp [Addr.add]
   rw [e0] at c00;obtain ⟨hs, arr, harr, _⟩ := Uf c00;have hget : ∀ i j, i < len → j < s.w → arr[a.off + (i * s.w + j)]? = (vs i)[j]? := fun i j hi hj => by
    obtain ⟨_, _, k⟩ := hv i hi;obtain ⟨_, ll, cc⟩ := World.cells?_some k;have h1 := cc j hj;have hlt : j < (vs i).length := by omega
    rw [List.getElem?_eq_getElem hlt, Apx hs] at h1;obtain ⟨_, arr', ha', h2⟩ := Uf h1;simp only at ha' h2;rw [harr] at ha'; cases ha';rw [h2, List.getElem?_eq_getElem hlt]
   have hel : ∀ i, i < len → ((List.range len).map c)[i]? = some (c i) := fun i hi => by simp [hi]
   refine ⟨(List.range len).map c, by simp, fun x hx => ?_, ?_⟩
   · obtain ⟨i, hi, rfl⟩ := List.mem_map.1 hx;exact (hv i (by simpa using hi)).1
   · have e := PConc.sl (V := Jw w) false s.w ((List.range len).map c) (some a) cap (fun i j => (vs i).getD j undef) a.block a.off arr (by simpa using hcap) (by simp) (fun x hx => by
      obtain ⟨i, hi, rfl⟩ := List.mem_map.1 hx;exact (hv i (by simpa using hi)).1.len) (fun _ => by
      obtain ⟨b, o, sp⟩ := a;simp only at hs; subst hs;exact ⟨rfl, harr⟩) (fun i j hi hj => by
      have hi' : i < len := by simpa using hi
      rw [hget i j hi' hj];have : j < (vs i).length := by
       obtain ⟨_, ll, _⟩ := World.cells?_some (hv i hi').2.2; omega
      simp [List.getD_eq_getElem?_getD, this]) (fun i j x y hx hy => by
      have hi' : i < len := by
       have := (List.getElem?_eq_some_iff.1 hx).1; simpa using this
      rw [hel i hi'] at hx; cases hx;obtain ⟨v, hv1, hv2⟩ := (hv i hi').2.1.2 j y hy;simp only [List.getD_eq_getElem?_getD, hv1, Option.getD_some]; exact hv2)
     simpa using e
section
variable {H : Type} {enc : TypeId × Value → H} {P : Program} {w : World} {spare : Nat → Bool} {held : Bool}
mutual
theorem Qc : ∀ (s : Sh) {t : TypeId} {fuel : Nat} {vs : List Value} {x}, Wh P s t = true → DataW.trod enc P w 0 spare held fuel t vs = some x → ∃ cs, GC s cs ∧ PCells (Jw w) cs vs
 | .int k, t, fuel, vs, x, hs, h => by
   simp only [Wh] at hs;split at hs
   · rename_i k' hu;obtain rfl := of_decide_eq_true hs;obtain ⟨n, rfl, _, hw⟩ := DataW.trod_int hu h;exact ⟨[.i k n], ⟨n, rfl, hw⟩, PCells.cons (.i _ _) PCells.nil⟩
   · cases hs
 | .bool, t, fuel, vs, x, hs, h => by
   simp only [Wh] at hs;split at hs
   · rename_i hu;obtain ⟨n, rfl, _⟩ := DataW.trod_bool hu h;exact ⟨[.b n], ⟨n, rfl⟩, PCells.cons (.b _) PCells.nil⟩
   · cases hs
 | .str, t, fuel, vs, x, hs, h => by
   simp only [Wh] at hs;split at hs
   · rename_i hu;obtain ⟨b, rfl, _, hl⟩ := DataW.trod_string hu h;refine ⟨[.s b.data.toList], ⟨b.data.toList, rfl, by simpa using hl⟩, PCells.cons ?_ PCells.nil⟩;have := PConc.s (V := Jw w) b.data.toList;simpa using this
   · cases hs
 | .arr n s, t, fuel, vs, x, hs, h => by
   simp only [Wh] at hs;split at hs
   · rename_i n' e hu;simp only [Bool.and_eq_true, decide_eq_true_eq] at hs;obtain ⟨⟨⟨rfl, h1⟩, h2⟩, h3⟩ := hs;obtain ⟨xs, m, rfl, _, hl, hx, hg⟩ := DataW.trod_array hu h;rw [h1] at hg;obtain ⟨cc, e1, e2, e3⟩ := Ak1 (V := Jw w) (s := s) n vs (by rw [hl, h2]) fun i hi => by
      have := hg i hi;rw [List.getElem?_eq_getElem (by omega)] at this;exact Qc s h3 this
     exact ⟨cc.flatten, by simp only [GC]; exact ⟨cc, rfl, e1, e2⟩, e3⟩
   · cases hs
 | .st l, t, fuel, vs, x, hs, h => by
   simp only [Wh] at hs;split at hs
   · rename_i fs hu;simp only [Bool.and_eq_true, decide_eq_true_eq] at hs;obtain ⟨h2, h3⟩ := hs;obtain ⟨xs, m, rfl, _, hl, hx, hg⟩ := DataW.trod_struct hu h;obtain ⟨cs, e1, e2⟩ := Wm l (off := 0) (vs := vs) h3 fun f hf => by
      obtain ⟨i, hi⟩ := List.mem_iff_getElem?.1 hf;have hi2 : fs[i]? = some f := by simpa using hi
      have := hg i f hi2;have hlt := (Array.getElem?_eq_some_iff.1 hi2).1;rw [List.getElem?_eq_getElem (by omega)] at this;exact ⟨_, _, this⟩
     rw [List.drop_zero, ← h2, ← hl, List.take_length] at e2;exact ⟨cs, by simp only [GC]; exact e1, e2⟩
   · cases hs
 | .sl s, t, fuel, vs, x, hs, h => by
   simp only [Wh] at hs;split at hs
   · rename_i e hu;simp only [Bool.and_eq_true, decide_eq_true_eq] at hs;obtain ⟨⟨h1, h2⟩, h3⟩ := hs;rcases DataW.trod_slice hu h with ⟨rfl, _⟩ | ⟨a, len, cap, Cv, rest, n, rfl, rfl, _, _, hl, hm, hle, hg, _⟩
     · exact ⟨[.sl false s.w []], by simp only [GC]; exact ⟨[], rfl, by simp, by simp⟩, PCells.cons (.sl false s.w [] none 0 (fun _ _ => undef) 0 0 #[] (by simp) (by simp) (by simp) (by simp) (by simp) (by simp)) PCells.nil⟩
     · rw [h1] at hg;obtain ⟨es, e1, e2, e3⟩ := Ag1 (w := w) (s := s) (a := a) hl h2 fun i hi => by
        have h4 := hg i hi;rw [List.getElem?_eq_getElem (by omega)] at h4;obtain ⟨vs, h5, h6⟩ := Option.bind_eq_some_iff.1 h4;obtain ⟨c, g, p⟩ := Qc s h3 h6;exact ⟨c, vs, g, p, h5⟩
       exact ⟨[.sl false s.w es], by simp only [GC]; exact ⟨es, rfl, by omega, e2⟩, PCells.cons e3 PCells.nil⟩
   · cases hs
theorem Wm : ∀ (l : List Sh) {fs : List Field} {off : Nat} {vs : List Value}, Ag9 P l fs off = true →
 (∀ f ∈ fs, ∃ n x, DataW.trod enc P w 0 spare held n f.type ((vs.drop f.offset).take (P.cellsOf f.type)) = some x) → ∃ cs, GCL l cs ∧ PCells (Jw w) cs ((vs.drop off).take (Sh.wL l))
 | [], fs, off, vs, hs, h => ⟨[], by simp only [GCL], by simp only [Sh.wL, List.take_zero]; exact PCells.nil⟩
 | s :: l, [], off, vs, hs, h => by simp [Ag9] at hs
 | s :: l, f :: fs, off, vs, hs, h => by
   simp only [Ag9, Bool.and_eq_true, decide_eq_true_eq] at hs;obtain ⟨⟨⟨h1, h2⟩, h3⟩, h4⟩ := hs;obtain ⟨n, x, hx⟩ := h f (by simp);obtain ⟨c, g, p⟩ := Qc s h3 hx;obtain ⟨cs, gl, pl⟩ := Wm l (vs := vs) h4 fun f hf => h f (by simp [hf]);refine ⟨c ++ cs, by simp only [GCL]; exact ⟨c, cs, rfl, g, gl⟩, ?_⟩;rw [h1, h2] at p;have := PCells.append p pl;have e : (vs.drop off).take (Sh.wL (s :: l)) = (vs.drop off).take s.w ++ (vs.drop (off + s.w)).take (Sh.wL l) := by
    simp only [Sh.wL];rw [List.take_add, List.drop_drop]
   rw [e]; exact this
end
end
mutual
def G6 : Sh → List PV → SV
 | .arr n s, cs => .vec (n * s.w) cs
 | .st l, cs => .agg (L4 l cs)
 | _, cs => .pv (cs.headD (.b false))
def L4 : List Sh → List PV → List SV
 | [], _ => []
 | s :: l, cs => (G6 s (cs.take s.w)).segs ++ L4 l (cs.drop s.w)
end
def Sh.isAg : Sh → Bool
 | .arr _ _ => true
 | .st _ => true
 | _ => false
theorem Nz {V : View} {ρ : Nat → Value} : ∀ {l m : List SV} {a b : List Value}, Cells V ρ l a → Cells V ρ m b → Cells V ρ (l ++ m) (a ++ b)
 | [], m, a, b, h1, h2 => by simp only [Cells] at h1; subst h1; exact h2
 | x :: l, m, a, b, h1, h2 => by
   simp only [Cells, List.cons_append] at h1 ⊢;obtain ⟨u, us, rfl, c, d, e, f⟩ := h1;exact ⟨u, us ++ b, by simp, c, d, e, Nz f h2⟩
mutual
theorem Ue {V : View} {ρ : Nat → Value} : ∀ (s : Sh) {cs : List PV} {v : Value}, GC s cs → PCells V cs (Am v) → (s.isAg = true → ∃ vs, v = .agg ⟨vs⟩) → (s.isAg = false → ∀ vs, v ≠ .agg vs) → Conc V ρ (G6 s cs) v
 | .int k, cs, v, g, p, _, h => by
   obtain ⟨n, rfl, _⟩ := g;have e : Am v = [v] := by cases v <;> first | rfl | exact absurd rfl (h rfl _)
   rw [e] at p;obtain ⟨v', h1, h2⟩ := p.2 0 _ rfl;simp at h1; subst h1;simp only [G6, Conc, List.headD_cons]; exact h2
 | .bool, cs, v, g, p, _, h => by
   obtain ⟨n, rfl⟩ := g;have e : Am v = [v] := by cases v <;> first | rfl | exact absurd rfl (h rfl _)
   rw [e] at p;obtain ⟨v', h1, h2⟩ := p.2 0 _ rfl;simp at h1; subst h1;simp only [G6, Conc, List.headD_cons]; exact h2
 | .str, cs, v, g, p, _, h => by
   obtain ⟨n, rfl, _⟩ := g;have e : Am v = [v] := by cases v <;> first | rfl | exact absurd rfl (h rfl _)
   rw [e] at p;obtain ⟨v', h1, h2⟩ := p.2 0 _ rfl;simp at h1; subst h1;simp only [G6, Conc, List.headD_cons]; exact h2
 | .sl s, cs, v, g, p, _, h => by
   simp only [GC] at g;obtain ⟨n, rfl, _⟩ := g;have e : Am v = [v] := by cases v <;> first | rfl | exact absurd rfl (h rfl _)
   rw [e] at p;obtain ⟨v', h1, h2⟩ := p.2 0 _ rfl;simp at h1; subst h1;simp only [G6, Conc, List.headD_cons]; exact h2
 | .arr n s, cs, v, g, p, h, _ => by
   obtain ⟨vs, rfl⟩ := h rfl;have hl := g.len;simp only [G6, Conc];refine ⟨vs, rfl, ?_, p⟩;have e1 : vs.length = cs.length := p.1.symm;rw [e1, hl]; rfl
 | .st l, cs, v, g, p, h, _ => by
   obtain ⟨vs, rfl⟩ := h rfl;simp only [GC] at g;simp only [G6, Conc];exact ⟨vs, rfl, Ku l g p⟩
theorem Ku {V : View} {ρ : Nat → Value} : ∀ (l : List Sh) {cs : List PV} {vs : List Value}, GCL l cs → PCells V cs vs → Cells V ρ (L4 l cs) vs
 | [], cs, vs, g, p => by
   simp only [GCL] at g; subst g;have : vs = [] := List.eq_nil_of_length_eq_zero (by rw [← p.1]; rfl);subst this;simp only [L4, Cells]
 | s :: l, cs, vs, g, p => by
   simp only [GCL] at g;obtain ⟨c, cs', rfl, g1, g2⟩ := g;have hl := g1.len;have p1 : PCells V c (vs.take c.length) := by
    have := p.split c.length |>.1;simpa using this
   have p2 : PCells V cs' (vs.drop c.length) := by
    have := p.split c.length |>.2;simpa using this
   have hvs : vs = vs.take c.length ++ vs.drop c.length := (List.take_append_drop _ _).symm;have hlen : (vs.take c.length).length = s.w := by rw [← p1.1, hl]
   simp only [L4];rw [List.take_left' hl, List.drop_left' hl];rw [hvs];refine Nz ?_ (Ku l g2 p2);cases s with
   | st m =>
     simp only [GC] at g1;simp only [G6, SV.segs];exact Ku m g1 p1
   | arr n s' =>
     have := Ue (V := V) (ρ := ρ) (.arr n s') (v := .agg ⟨vs.take c.length⟩) g1 (by simpa [Am] using p1) (fun _ => ⟨_, rfl⟩) (by simp [Sh.isAg]);simp only [G6] at this ⊢;simp only [SV.segs, Cells];exact ⟨_, [], by simp [Am], this, by simpa [Am, SV.width, Sh.w] using hlen, fun v hv => p1.one v (by simpa [Am] using hv), rfl⟩
   | int k =>
     obtain ⟨n, rfl, _⟩ := g1;obtain ⟨v, h1, h2⟩ := p1.2 0 _ rfl;have e : vs.take [PV.i k n].length = [v] := by
      match hx : vs.take [PV.i k n].length, h1, hlen with
      | [u], h1, _ => simp at h1; rw [h1]
     have ho := h2.one;have fv : Am v = [v] := by cases v <;> first | rfl | exact absurd ho (by simp [Au])
     rw [e];simp only [G6, SV.segs, Cells, Conc, List.headD_cons];exact ⟨v, [], by rw [fv]; rfl, h2, by rw [fv]; rfl, by rw [fv]; simpa using ho, rfl⟩
   | bool =>
     obtain ⟨n, rfl⟩ := g1;obtain ⟨v, h1, h2⟩ := p1.2 0 _ rfl;have e : vs.take [PV.b n].length = [v] := by
      match hx : vs.take [PV.b n].length, h1, hlen with
      | [u], h1, _ => simp at h1; rw [h1]
     have ho := h2.one;have fv : Am v = [v] := by cases v <;> first | rfl | exact absurd ho (by simp [Au])
     rw [e];simp only [G6, SV.segs, Cells, Conc, List.headD_cons];exact ⟨v, [], by rw [fv]; rfl, h2, by rw [fv]; rfl, by rw [fv]; simpa using ho, rfl⟩
   | str =>
     obtain ⟨n, rfl, _⟩ := g1;obtain ⟨v, h1, h2⟩ := p1.2 0 _ rfl;have e : vs.take [PV.s n].length = [v] := by
      match hx : vs.take [PV.s n].length, h1, hlen with
      | [u], h1, _ => simp at h1; rw [h1]
     have ho := h2.one;have fv : Am v = [v] := by cases v <;> first | rfl | exact absurd ho (by simp [Au])
     rw [e];simp only [G6, SV.segs, Cells, Conc, List.headD_cons];exact ⟨v, [], by rw [fv]; rfl, h2, by rw [fv]; rfl, by rw [fv]; simpa using ho, rfl⟩
   | sl s' =>
     simp only [GC] at g1;obtain ⟨n, rfl, _⟩ := g1;obtain ⟨v, h1, h2⟩ := p1.2 0 _ rfl;have e : vs.take [PV.sl false s'.w n].length = [v] := by
      match hx : vs.take [PV.sl false s'.w n].length, h1, hlen with
      | [u], h1, _ => simp at h1; rw [h1]
     have ho := h2.one;have fv : Am v = [v] := by cases v <;> first | rfl | exact absurd ho (by simp [Au])
     rw [e];simp only [G6, SV.segs, Cells, Conc, List.headD_cons];exact ⟨v, [], by rw [fv]; rfl, h2, by rw [fv]; rfl, by rw [fv]; simpa using ho, rfl⟩
end
mutual
theorem Wn : ∀ (s : Sh) (cs : List PV), (G6 s cs).closed = true
 | .int k, cs => rfl
 | .bool, cs => rfl
 | .str, cs => rfl
 | .sl s, cs => rfl
 | .arr n s, cs => rfl
 | .st l, cs => by simp only [G6, SV.closed]; exact Hu l cs
theorem Hu : ∀ (l : List Sh) (cs : List PV), SV.closedL (L4 l cs) = true
 | [], cs => rfl
 | s :: l, cs => by
   simp only [L4];have h2 := Hu l (cs.drop s.w);have app : ∀ (a b : List SV), SV.closedL a = true → SV.closedL b = true → SV.closedL (a ++ b) = true := fun a b ha hb => by
    induction a with
    | nil => exact hb
    | cons x a ih => simp only [SV.closedL, Bool.and_eq_true, List.cons_append] at ha ⊢; exact ⟨ha.1, ih ha.2⟩
   refine app _ _ ?_ h2;cases s with
   | st m => simp only [G6, SV.segs]; exact Hu m _
   | int k => rfl
   | bool => rfl
   | str => rfl
   | sl s => rfl
   | arr n s => rfl
end
theorem Aeb {P : Program} {w : World} {base : Nat} {t : TypeId} {v : Value} : ∀ {s : Sh}, Wh P s t = true → Value.okWide P w .any base t v → (s.isAg = true → ∃ vs, v = .agg ⟨vs⟩) ∧ (s.isAg = false → ∀ vs, v ≠ .agg vs)
 | .int k, hs, h => by
   simp only [Wh] at hs;split at hs
   · rename_i k' hu;obtain ⟨n, rfl⟩ := WideShapes.okWide_int hu h;exact ⟨fun h => (by cases h), fun _ vs e => by cases e⟩
   · cases hs
 | .bool, hs, h => by
   simp only [Wh] at hs;split at hs
   · rename_i hu;obtain ⟨n, rfl⟩ := WideShapes.okWide_bool hu h;exact ⟨fun h => (by cases h), fun _ vs e => by cases e⟩
   · cases hs
 | .str, hs, h => by
   simp only [Wh] at hs;split at hs
   · rename_i hu;obtain ⟨n, rfl⟩ := WideShapes.okWide_string hu h;exact ⟨fun h => (by cases h), fun _ vs e => by cases e⟩
   · cases hs
 | .sl s, hs, h => by
   simp only [Wh] at hs;split at hs
   · rename_i e hu;obtain ⟨a, b, c, rfl⟩ := WideShapes.okWide_slice hu h;exact ⟨fun h => (by cases h), fun _ vs e => by cases e⟩
   · cases hs
 | .arr n s, hs, h => by
   simp only [Wh] at hs;split at hs
   · rename_i n' e hu;simp only [Value.okWide, hu] at h;obtain ⟨⟨xs⟩, rfl, _⟩ := h;exact ⟨fun _ => ⟨_, rfl⟩, fun h => (by cases h)⟩
   · cases hs
 | .st l, hs, h => by
   simp only [Wh] at hs;split at hs
   · rename_i fs hu;simp only [Value.okWide, hu] at h;obtain ⟨⟨xs⟩, rfl, _⟩ := h;exact ⟨fun _ => ⟨_, rfl⟩, fun h => (by cases h)⟩
   · cases hs
theorem Y1 {H : Type} {enc : TypeId × Value → H} {P : Program} {w : World} {spare : Nat → Bool} {held : Bool} {base : Nat} {t : TypeId} {v : Value} {d : DataW H} {ps : List MemPlace} {s : Sh} (hs : Wh P s t = true)
 (hv : Value.okWide P w .any base t v) (h : DataW.Trod enc P w 0 spare held t v d ps) : ∃ cs, GC s cs ∧ Conc (Jw w) (fun _ => undef) (G6 s cs) v := by
 obtain ⟨fuel, hf⟩ := h;obtain ⟨cs, g, p⟩ := Qc s hs hf;rw [Du] at p;obtain ⟨h1, h2⟩ := Aeb hs hv;exact ⟨cs, g, Ue s g p h1 h2⟩
end Go.Proofs.Ytagpocgklmeoiaa.Fw
namespace Go.Proofs.Ytagpocgklmeoiaa.Fw
open Go.RowKit
theorem Yk {m : Nat} : ∀ {cc : List (List PV)} {i j : Nat}, (∀ c ∈ cc, c.length = m) → j < m → cc.flatten[i * m + j]? = (cc[i]?).bind (·[j]?)
 | [], i, j, _, _ => by simp
 | c :: cc, 0, j, h, hj => by
   have hc := h c (by simp);rw [List.flatten_cons, Nat.zero_mul, Nat.zero_add, List.getElem?_append_left (by omega)]; rfl
 | c :: cc, i + 1, j, h, hj => by
   have hc := h c (by simp);rw [List.flatten_cons, List.getElem?_append_right (by rw [Nat.add_mul]; omega)];rw [show (i + 1) * m + j - c.length = i * m + j from by rw [Nat.add_mul]; omega];rw [Yk (fun c hc => h c (by simp [hc])) hj]; rfl
theorem Ak0 {n : Nat} {s : Sh} {cs : List PV} (h : GC (.arr n s) cs) : cs.length = n * s.w ∧ ∀ i, i < n → ∃ c, GC s c ∧ ∀ j, j < s.w → cs[i * s.w + j]? = c[j]? := by
 refine ⟨h.len, fun i hi => ?_⟩;simp only [GC] at h;obtain ⟨cc, rfl, rfl, g⟩ := h;refine ⟨cc[i], g _ (List.getElem_mem _), fun j hj => ?_⟩;rw [Yk (fun c hc => (g c hc).len) hj, List.getElem?_eq_getElem hi]; rfl
theorem Agq {n : Int} (h : (Lit.int .u32 n).wf = true) : 0 ≤ n ∧ n < 4294967296 := by
 simp [Lit.wf, IntKind.min, IntKind.max, IntKind.signed, IntKind.bits] at h; omega
theorem Ajf {n : Int} (h : (Lit.int .i64 n).wf = true) : -9223372036854775808 ≤ n ∧ n < 9223372036854775808 := by
 simp [Lit.wf, IntKind.min, IntKind.max, IntKind.signed, IntKind.bits] at h; omega
theorem Ac8 {n : Nat} {cs : List PV} {f : Nat → PV} (hl : cs.length = n) (h : ∀ i, i < n → cs[i]? = some (f i)) : cs = Cm n f := by
 apply List.ext_getElem?;intro i;by_cases hi : i < n
 · rw [h i hi, Ec hi]
 · rw [List.getElem?_eq_none (by omega), List.getElem?_eq_none (by rw [Cq]; omega)]
theorem Alr {cs : List PV} (h : GC (.arr 8 (.int .u32)) cs) : ∃ a : Vc, cs = vE a ∧ ∀ i, i < 8 → a i < 4294967296 := by
 obtain ⟨hl, g⟩ := Ak0 h;have key : ∀ i, ∃ n : Nat, i < 8 → cs[i]? = some (.i .u32 n) ∧ n < 4294967296 := fun i => by
  by_cases hi : i < 8
  · obtain ⟨c, ⟨n, rfl, hw⟩, k⟩ := g i hi;have := k 0 (by simp [Sh.w]);simp only [Sh.w, Nat.mul_one, Nat.add_zero] at this;have hr := Agq hw;refine ⟨n.toNat, fun _ => ⟨?_, by omega⟩⟩;rw [this, show ((n.toNat : Nat) : Int) = n from by omega]; rfl
  · exact ⟨0, fun h => absurd h hi⟩
 obtain ⟨a, ha⟩ := Classical.axiomOfChoice key;exact ⟨a, Ac8 hl fun i hi => (ha i hi).1, fun i hi => (ha i hi).2⟩
theorem Azc {cs : List PV} (h : GC (.arr 8 (.arr 8 (.int .u32))) cs) : ∃ t : Nat → Vc, cs = tE t ∧ ∀ i, i < 8 → ∀ j, j < 8 → t i j < 4294967296 := by
 obtain ⟨hl, g⟩ := Ak0 h;have key : ∀ i, ∃ a : Vc, i < 8 → (∀ j, j < 8 → cs[i * 8 + j]? = some (.i .u32 (a j))) ∧ ∀ j, j < 8 → a j < 4294967296 := fun i => by
  by_cases hi : i < 8
  · obtain ⟨c, hc, k⟩ := g i hi;obtain ⟨a, rfl, hb⟩ := Alr hc;refine ⟨a, fun _ => ⟨fun j hj => ?_, hb⟩⟩;have := k j hj;simp only [Sh.w] at this;rw [this]; exact Ec hj _
  · exact ⟨fun _ => 0, fun h => absurd h hi⟩
 obtain ⟨t, ht⟩ := Classical.axiomOfChoice key;refine ⟨t, Ac8 hl fun i hi => ?_, fun i hi => (ht i hi).2⟩;have := (ht (i / 8) (by omega)).1 (i % 8) (by omega);rw [show i / 8 * 8 + i % 8 = i from by omega] at this;exact this
theorem Aur {cs : List PV} (h : GC (.int .i64) cs) : ∃ n : Int, cs = [.i .i64 n] ∧ -9223372036854775808 ≤ n ∧ n < 9223372036854775808 := by
 obtain ⟨n, rfl, hw⟩ := h; exact ⟨n, rfl, Ajf hw⟩
theorem Adf {s : Sh} {cs : List PV} (h : GC (.sl s) cs) : ∃ es, cs = [.sl false s.w es] ∧ es.length ≤ maxLen ∧ ∀ c ∈ es, GC s c := by
 simp only [GC] at h; exact h
end Go.Proofs.Ytagpocgklmeoiaa.Fw
namespace Go.Proofs.Ytagpocgklmeoiaa.Fw
open Go.RowKit Go.Proofs
def P5 (r : Int) (q : Nat) (r' : Int) (q' : Nat) : Bool := decide (q < q' ∨ q = q' ∧ r < r')
theorem Ah4 (r : Int) (q : Nat) (r' : Int) (q' : Nat) {h d} : FunOk Try.prog 60 [.vec 2 [.i .i64 r, .i .u32 q], .vec 2 [.i .i64 r', .i .u32 q']] h d (.pv (.b (P5 r q r' q'))) [] := by
 refine Aw An fn60 (by simp) rfl rfl fun F => ?_;by_cases h : q = q'
 · subst h;have e : P5 r q r' q = decide (r < r') := by simp [P5]
   simp (disch := omega) only [ir60, e, go_sem]
 · have hz : ¬ (q : Int) = (q' : Int) := by omega
   have e : P5 r q r' q' = decide ((q : Int) < (q' : Int)) := by simp [P5, h]
   simp (disch := omega) only [ir60, e, go_sem]
theorem M9 {r r' : Int} {q q' : Nat} (h : r = r' ∧ q = q') : Ts [.i .i64 r, .i .u32 q] [.i .i64 r', .i .u32 q'] = true := by
 obtain ⟨rfl, rfl⟩ := h; simp [Ts]
theorem Na {r r' : Int} {q q' : Nat} (h : ¬ (r = r' ∧ q = q')) : Ts [.i .i64 r, .i .u32 q] [.i .i64 r', .i .u32 q'] = false := by
 simp only [Ts, decide_eq_false_iff_not];intro e;simp only [List.cons.injEq, PV.i.injEq, true_and, and_true] at e;exact h ⟨e.1, by omega⟩
abbrev K4 := Int × Nat
def Lw (b : K4) : List PV := [.i .i64 b.1, .i .u32 b.2]
def Th (a : Vc) (r : Int) : Nat := if 1 ≤ r ∧ r ≤ 8 then a (r - 1).toNat else 0
def Dh (a : Vc) (r : Int) (q : Nat) : Bool := decide (1 ≤ q ∧ q ≤ Th a r)
theorem Av4 (a : Vc) (r : Int) {h d} : FunOk Try.prog 59 [.vec 8 (vE a), .pv (.i .i64 r)] h d (.pv (.i .u32 (Th a r))) [] := by
 refine Aw An fn59 (by simp) rfl rfl fun F => ?_;by_cases h1 : r < 1
 · have e : Th a r = 0 := by simp [Th]; omega
   simp (disch := omega) only [ir59, h1, e, go_sem]
 by_cases h2 : 8 < r
 · have e : Th a r = 0 := by simp [Th]; omega
   simp (disch := omega) only [ir59, h1, h2, e, go_sem]
 have e : Th a r = a (r - 1).toNat := by simp [Th]; omega
 obtain ⟨k, rfl⟩ : ∃ k : Nat, r = k + 1 := ⟨(r - 1).toNat, by omega⟩
 have ek : ((k : Int) + 1 - 1) = k := by omega
 simp (disch := omega) only [ir59, h1, h2, e, ek, go_sem]
theorem Hx (a : Vc) (r : Int) (q : Nat) {h d} : FunOk Try.prog 52 [.vec 8 (vE a), .vec 2 [.i .i64 r, .i .u32 q]] h d (.pv (.b (Dh a r q))) [] := by
 refine Aw An fn52 (by simp) rfl rfl fun F => ?_;by_cases h1 : (1 : Int) ≤ q
 · simp (disch := omega) only [ir52, h1, go_sem];refine Aa (Av4 a r) ?_;have e : Dh a r q = decide ((q : Int) ≤ (Th a r : Int)) := decide_eq_decide.2 (by omega);simp (disch := omega) only [e, go_sem]
 · have e : Dh a r q = false := decide_eq_false (by omega);simp (disch := omega) only [ir52, h1, e, go_sem]
theorem Lh {l : List SV} {cs : List PV} {n : Nat} (hc : SV.cellsL? l = some cs) (hn : cs.length = n) : Imp (.agg l) (.vec n cs) := by
 intro V ρ v h;have hp := Conc.cells h (x := .agg l) (cs := cs) hc;simp only [Conc] at h ⊢;obtain ⟨vs, rfl, _⟩ := h;exact ⟨vs, rfl, by rw [← hn]; exact hp.1.symm, hp⟩
def ImpL : List SV → List SV → Prop
 | [], [] => True
 | x :: l, y :: m => Imp x y ∧ ImpL l m
 | _, _ => False
theorem ImpL.conc {V : View} {ρ : Nat → Value} : ∀ {l m : List SV} {vs : List Value}, ImpL l m → ConcL V ρ l vs → ConcL V ρ m vs
 | [], [], vs, _, h => h
 | x :: l, y :: m, vs, h, k => by
   simp only [ConcL] at k ⊢;obtain ⟨v, us, rfl, k1, k2⟩ := k;exact ⟨v, us, rfl, h.1 _ _ _ k1, ImpL.conc h.2 k2⟩
 | [], _ :: _, _, h, _ => h.elim
 | _ :: _, [], _, h, _ => h.elim
theorem FunOk.imp {P : Program} {f : Nat} {args args' : List SV} {h d x u} (hf : FunOk P f args' h d x u) (hi : ImpL args args') (ht : ∀ n ∈ A2 args', n ∈ A2 args) : FunOk P f args h d x u :=
 ⟨hf.1, fun F N ρ s a w hR hh vs hc => hf.2 F N ρ s a w hR (fun n hn => hh n (ht n hn)) vs (hi.conc hc)⟩
abbrev Wy : Sh := .st [.int .i64, .int .u32]
theorem Zd {cs : List PV} (h : GC Wy cs) : ∃ b : K4, cs = Lw b ∧ (-9223372036854775808 ≤ b.1 ∧ b.1 < 9223372036854775808) ∧ b.2 < 4294967296 := by
 simp only [GC, GCL] at h;obtain ⟨c, cs', rfl, ⟨n, rfl, hw⟩, c', cs'', rfl, ⟨m, rfl, hw'⟩, rfl⟩ := h;have hr := Agq hw';exact ⟨(n, m.toNat), by simp [Lw]; omega, Ajf hw, by show m.toNat < _; omega⟩
theorem Sq {α : Type} {f : α → List PV} {p : α → Prop} {s : Sh} (key : ∀ {cs}, GC s cs → ∃ x, cs = f x ∧ p x) : ∀ {es : List (List PV)}, (∀ c ∈ es, GC s c) → ∃ l : List α, es = l.map f ∧ ∀ x ∈ l, p x
 | [], _ => ⟨[], rfl, by simp⟩
 | c :: es, h => by
   obtain ⟨l, e, hp⟩ := Sq (es := es) key fun c hc => h c (List.mem_cons_of_mem _ hc);obtain ⟨x, e2, hx⟩ := key (h c List.mem_cons_self);exact ⟨x :: l, by rw [e, e2]; rfl, fun y hy => by
    rcases List.mem_cons.1 hy with hy | hy
    · rw [hy]; exact hx
    · exact hp y hy⟩
structure SlI where
 f : Bool
 z : Nat
 l : List K4
def SlI.pv (g : SlI) : PV := .sl g.f g.z (g.l.map Lw)
def SlI.ok (g : SlI) : Prop := g.l = [] ∨ g.z = 2
def SlI.nil : SlI := ⟨true, 0, []⟩
structure Evt where
 rep : Int
 seq : Nat
 dep : Vc
 kind : Int
 orep : Int
 oseq : Nat
 drep : Int
 dseq : Nat
 name : List UInt8
 gone : SlI
 base : SlI
 off : Int
 data : List UInt8
 ward : Int
def Bw (e : Evt) : List PV := [.i .i64 e.rep, .i .u32 e.seq] ++ vE e.dep ++ [.i .i64 e.kind, .i .i64 e.orep, .i .u32 e.oseq, .i .i64 e.drep, .i .u32 e.dseq, .s e.name, e.gone.pv, e.base.pv, .i .i64 e.off, .s e.data, .i .i64 e.ward]
theorem Bu (e : Evt) : (Bw e).length = 21 := by simp [Bw, vE, Cm]
theorem I9 (e : Evt) (K : KK) : LoadK (some (Bw e)) 0 1 false K = K (.pv (.i .i64 e.rep)) [] := by
 simp only [LoadK, Ja, eq_iff_iff];exact ⟨fun h => h.2.2, fun h => ⟨by simp [Bw, vE, Cm], .inr trivial, h⟩⟩
theorem Mf (e : Evt) (K : KK) : LoadK (some (Bw e)) 1 1 false K = K (.pv (.i .u32 e.seq)) [] := by
 simp only [LoadK, Ja, eq_iff_iff];exact ⟨fun h => h.2.2, fun h => ⟨by simp [Bw, vE, Cm], .inr trivial, h⟩⟩
theorem D2 (e : Evt) (K : KK) : LoadK (some (Bw e)) 10 1 false K = K (.pv (.i .i64 e.kind)) [] := by
 simp only [LoadK, Ja, eq_iff_iff];exact ⟨fun h => h.2.2, fun h => ⟨by simp [Bw, vE, Cm], .inr trivial, h⟩⟩
theorem Anw (e : Evt) (K : KK) : LoadK (some (Bw e)) 15 1 false K = K (.pv (.s e.name)) [] := by
 simp only [LoadK, Ja, eq_iff_iff];exact ⟨fun h => h.2.2, fun h => ⟨by simp [Bw, vE, Cm], .inr trivial, h⟩⟩
theorem Anv (e : Evt) (K : KK) : LoadK (some (Bw e)) 16 1 false K = K (.pv (e.gone.pv)) [] := by
 simp only [LoadK, Ja, eq_iff_iff];exact ⟨fun h => h.2.2, fun h => ⟨by simp [Bw, vE, Cm], .inr trivial, h⟩⟩
theorem Anu (e : Evt) (K : KK) : LoadK (some (Bw e)) 17 1 false K = K (.pv (e.base.pv)) [] := by
 simp only [LoadK, Ja, eq_iff_iff];exact ⟨fun h => h.2.2, fun h => ⟨by simp [Bw, vE, Cm], .inr trivial, h⟩⟩
theorem Ant (e : Evt) (K : KK) : LoadK (some (Bw e)) 18 1 false K = K (.pv (.i .i64 e.off)) [] := by
 simp only [LoadK, Ja, eq_iff_iff];exact ⟨fun h => h.2.2, fun h => ⟨by simp [Bw, vE, Cm], .inr trivial, h⟩⟩
theorem Ans (e : Evt) (K : KK) : LoadK (some (Bw e)) 19 1 false K = K (.pv (.s e.data)) [] := by
 simp only [LoadK, Ja, eq_iff_iff];exact ⟨fun h => h.2.2, fun h => ⟨by simp [Bw, vE, Cm], .inr trivial, h⟩⟩
theorem Anr (e : Evt) (K : KK) : LoadK (some (Bw e)) 20 1 false K = K (.pv (.i .i64 e.ward)) [] := by
 simp only [LoadK, Ja, eq_iff_iff];exact ⟨fun h => h.2.2, fun h => ⟨by simp [Bw, vE, Cm], .inr trivial, h⟩⟩
theorem Bt (e : Evt) (K : KK) : LoadK (some (Bw e)) 0 2 true K = K (.vec 2 ([.i .i64 e.rep, .i .u32 e.seq])) [] := by
 simp only [LoadK, Ja, eq_iff_iff];exact ⟨fun h => h.2.2, fun h => ⟨by simp [Bw, vE, Cm], .inl trivial, h⟩⟩
theorem Sc (e : Evt) (K : KK) : LoadK (some (Bw e)) 2 8 true K = K (.vec 8 (vE e.dep)) [] := by
 simp only [LoadK, Ja, eq_iff_iff];exact ⟨fun h => h.2.2, fun h => ⟨by simp [Bw, vE, Cm], .inl trivial, h⟩⟩
theorem Aiz (e : Evt) (K : KK) : LoadK (some (Bw e)) 11 2 true K = K (.vec 2 ([.i .i64 e.orep, .i .u32 e.oseq])) [] := by
 simp only [LoadK, Ja, eq_iff_iff];exact ⟨fun h => h.2.2, fun h => ⟨by simp [Bw, vE, Cm], .inl trivial, h⟩⟩
theorem Sb (e : Evt) (K : KK) : LoadK (some (Bw e)) 13 2 true K = K (.vec 2 ([.i .i64 e.drep, .i .u32 e.dseq])) [] := by
 simp only [LoadK, Ja, eq_iff_iff];exact ⟨fun h => h.2.2, fun h => ⟨by simp [Bw, vE, Cm], .inl trivial, h⟩⟩
theorem E6 (e : Evt) (K : KK) : LoadK (some (Bw e)) 0 21 true K = K (.vec 21 (Bw e)) [] := I5 (Bu e) K
theorem I8 (e : Evt) {j : Nat} (h : j < 8) (K : KK) : LoadK (some (Bw e)) (2 + j) 1 false K = K (.pv (.i .u32 (e.dep j))) [] := by
 have : j = 0 ∨ j = 1 ∨ j = 2 ∨ j = 3 ∨ j = 4 ∨ j = 5 ∨ j = 6 ∨ j = 7 := by omega
 simp only [LoadK, Ja, eq_iff_iff];rcases this with rfl | rfl | rfl | rfl | rfl | rfl | rfl | rfl <;> exact ⟨fun h => h.2.2, fun h => ⟨by simp [Bw, vE, Cm], .inr trivial, h⟩⟩
theorem Aqy (e : Evt) (r : Int) (q : Nat) : splice (Bw e) 11 [.i .i64 r, .i .u32 q] = Bw { e with orep := r, oseq := q } := rfl
theorem Aqz (e : Evt) (r : Int) (q : Nat) : splice (Bw e) 13 [.i .i64 r, .i .u32 q] = Bw { e with drep := r, dseq := q } := rfl
theorem Hb (e : Evt) (s : List UInt8) : splice (Bw e) 15 [.s s] = Bw { e with name := s } := rfl
theorem Amg (e : Evt) (f : Bool) (z : Nat) (l : List K4) : splice (Bw e) 16 [.sl f z (l.map Lw)] = Bw { e with gone := ⟨f, z, l⟩ } := rfl
theorem Amh (e : Evt) (f : Bool) (z : Nat) (l : List K4) : splice (Bw e) 17 [.sl f z (l.map Lw)] = Bw { e with base := ⟨f, z, l⟩ } := rfl
theorem J6 (e : Evt) (n : Int) : splice (Bw e) 18 [.i .i64 n] = Bw { e with off := n } := rfl
theorem Hd (e : Evt) (s : List UInt8) : splice (Bw e) 19 [.s s] = Bw { e with data := s } := rfl
theorem G9 (e : Evt) (n : Int) : splice (Bw e) 20 [.i .i64 n] = Bw { e with ward := n } := rfl
theorem Ha (e : Evt) : splice (Bw e) 11 [.i .i64 0, .i .u32 0] = Bw { e with orep := 0, oseq := 0 } := Aqy e 0 0
theorem Hc (e : Evt) : splice (Bw e) 13 [.i .i64 0, .i .u32 0] = Bw { e with drep := 0, dseq := 0 } := Aqz e 0 0
theorem F4 (e : Evt) : splice (Bw e) 16 [.sl true 0 []] = Bw { e with gone := .nil } := Amg e true 0 []
theorem F5 (e : Evt) : splice (Bw e) 17 [.sl true 0 []] = Bw { e with base := .nil } := Amh e true 0 []
theorem Dc (e e' : Evt) : splice (Bw e) 0 (Bw e') = Bw e' := rfl
attribute [go_sem] I9 Mf D2 Anw Anv Anu Ant Ans Anr Bt Sc Aiz Sb E6 Bu SlI.pv Ie List.length_map
def Bn (e : Evt) : Evt :=
 if e.kind = 1 ∨ e.kind = 2 then { e with drep := 0, dseq := 0, name := [] }
 else if e.kind = 3 then { e with orep := 0, oseq := 0, base := .nil, off := 0, data := [] }
 else if e.kind = 4 then { e with orep := 0, oseq := 0, base := .nil, off := 0 }
 else if e.kind = 5 then { e with orep := 0, oseq := 0, base := .nil, data := [] }
 else if e.kind = 6 then { e with orep := 0, oseq := 0, gone := .nil }
 else if e.kind = 7 then { e with orep := 0, oseq := 0, gone := .nil, drep := 0, dseq := 0, name := [] }
 else if e.kind = 8 then { e with ward := 0 }
 else e
set_option maxHeartbeats 4000000 in
theorem Ar0 (e : Evt) {h d} : FunOk Try.prog 48 [.vec 21 (Bw e)] h d (.vec 21 (Bw (Bn e))) [] := by
 refine Aw An fn48 (by simp) rfl rfl fun F => ?_;have hl := Bu e;by_cases h1 : e.kind = 1
 · have eb : Bn e = { e with drep := 0, dseq := 0, name := [] } := by simp [Bn, h1]
   simp (disch := omega) only [ir48, D2, h1, Hc, Hb, Ha, F5, F4, J6, Hd, G9, E6, Bu, eb, go_sem]
 by_cases h2 : e.kind = 2
 · have eb : Bn e = { e with drep := 0, dseq := 0, name := [] } := by simp [Bn, h2]
   simp (disch := omega) only [ir48, D2, h2, Hc, Hb, Ha, F5, F4, J6, Hd, G9, E6, Bu, eb, go_sem]
 by_cases h3 : e.kind = 3
 · have eb : Bn e = { e with orep := 0, oseq := 0, base := .nil, off := 0, data := [] } := by simp [Bn, h3]
   simp (disch := omega) only [ir48, D2, h3, Hc, Hb, Ha, F5, F4, J6, Hd, G9, E6, Bu, eb, go_sem]
 by_cases h4 : e.kind = 4
 · have eb : Bn e = { e with orep := 0, oseq := 0, base := .nil, off := 0 } := by simp [Bn, h4]
   simp (disch := omega) only [ir48, D2, h4, Hc, Hb, Ha, F5, F4, J6, Hd, G9, E6, Bu, eb, go_sem]
 by_cases h5 : e.kind = 5
 · have eb : Bn e = { e with orep := 0, oseq := 0, base := .nil, data := [] } := by simp [Bn, h5]
   simp (disch := omega) only [ir48, D2, h5, Hc, Hb, Ha, F5, F4, J6, Hd, G9, E6, Bu, eb, go_sem]
 by_cases h6 : e.kind = 6
 · have eb : Bn e = { e with orep := 0, oseq := 0, gone := .nil } := by simp [Bn, h6]
   simp (disch := omega) only [ir48, D2, h6, Hc, Hb, Ha, F5, F4, J6, Hd, G9, E6, Bu, eb, go_sem]
 by_cases h7 : e.kind = 7
 · have eb : Bn e = { e with orep := 0, oseq := 0, gone := .nil, drep := 0, dseq := 0, name := [] } := by simp [Bn, h7]
   simp (disch := omega) only [ir48, D2, h7, Hc, Hb, Ha, F5, F4, J6, Hd, G9, E6, Bu, eb, go_sem]
 by_cases h8 : e.kind = 8
 · have eb : Bn e = { e with ward := 0 } := by simp [Bn, h8]
   simp (disch := omega) only [ir48, D2, h8, Hc, Hb, Ha, F5, F4, J6, Hd, G9, E6, Bu, eb, go_sem]
 have eb : Bn e = e := by simp [Bn, h1, h2, h3, h4, h5, h6, h7, h8]
 simp (disch := omega) only [ir48, D2, h1, h2, h3, h4, h5, h6, h7, h8, E6, Bu, eb, go_sem]
end Go.Proofs.Ytagpocgklmeoiaa.Fw
namespace Go.Proofs.Ytagpocgklmeoiaa.Fw
open Go.RowKit Go.Proofs
def F3 (r : Int) (q : Nat) : Bool := decide (r = 0 ∧ q = 0)
theorem Asm (r : Int) (q : Nat) (K : KK) : LoadK (some [PV.i .i64 r, PV.i .u32 q]) 0 1 false K = K (.pv (.i .i64 r)) [] := Cw ..
theorem Asl (r : Int) (q : Nat) (K : KK) : LoadK (some [PV.i .i64 r, PV.i .u32 q]) 1 1 false K = K (.pv (.i .u32 q)) [] := by
 rw [Acf]; exact Cw ..
theorem Af (r : Int) (q : Nat) : Di [K1.int .i64, K1.int .u32] [.i .i64 r, .i .u32 q] = True := eq_true rfl
theorem Aj : Di [K1.int .i64, K1.int .u32] [.i .i64 0, .i .u32 0] = True := eq_true rfl
theorem Ai (r : Int) (q : Nat) : Ts [.i .i64 r, .i .u32 q] [.i .i64 0, .i .u32 0] = F3 r q := by
 by_cases h : r = 0 ∧ q = 0
 · rw [show F3 r q = true from decide_eq_true h];exact M9 (q' := 0) h
 · rw [show F3 r q = false from decide_eq_false h];exact Na (q' := 0) h
def C1 (e : Evt) : Bool := F3 e.drep e.dseq || Dh e.dep e.drep e.dseq
theorem U8 (e : Evt) {h d} : FunOk Try.prog 50 [.vec 21 (Bw e)] h d (.pv (.b (C1 e))) [] := by
 refine Aw An fn50 (by simp) rfl rfl fun F => ?_;have hl := Bu e;cases hz : F3 e.drep e.dseq with
 | true =>
   have eb : C1 e = true := by simp [C1, hz]
   simp (disch := omega) only [ir50, Sb, Bu, Af, Aj, Ai, hz, eb, go_sem]
 | false =>
   have eb : C1 e = Dh e.dep e.drep e.dseq := by simp [C1, hz]
   simp (disch := omega) only [ir50, Sb, Sc, Bu, Af, Aj, Ai, hz, eb, go_sem];refine Aa (Hx _ _ _) ?_;simp (disch := omega) only [go_sem]
def Co (n : Int) : Bool := decide (0 ≤ n ∧ n ≤ 200)
theorem Ru (n : Int) {h d} : FunOk Try.prog 49 [.pv (.i .i64 n)] h d (.pv (.b (Co n))) [] := by
 refine Aw An fn49 (by simp) rfl rfl fun F => ?_;by_cases h1 : 0 ≤ n
 · have e : Co n = decide (n ≤ 200) := decide_eq_decide.2 (by omega);simp (disch := omega) only [ir49, h1, e, go_sem]
 · have e : Co n = false := decide_eq_false (by omega);simp (disch := omega) only [ir49, h1, e, go_sem]
def Ade (a : Vc) (l : List K4) : Prop := ∀ i, (h : i < l.length) → Dh a l[i].1 l[i].2 = true ∧ (0 < i → P5 l[i - 1].1 l[i - 1].2 l[i].1 l[i].2 = true)
open Classical in
noncomputable def Js (a : Vc) (l : List K4) : Bool := decide (Ade a l)
theorem Amw {a : Vc} {l : List K4} (h : Ade a l) : Js a l = true := by simp [Js, h]
theorem Ab1 {a : Vc} {l : List K4} (h : ¬ Ade a l) : Js a l = false := by simp [Js, h]
theorem I7 (x : K4) (K : KK) : LoadK (some (Lw x)) 0 2 true K = K (.vec 2 [.i .i64 x.1, .i .u32 x.2]) [] := I5 (by rfl) K
def My (f : Bool) (z : Nat) (l : List K4) (a : Vc) (k : Nat) : FS := mk [(15, .pv (.i .i64 k)), (14, .pv (.i .i64 l.length)), (13, .pv (.sl f z (l.map Lw))), (0, .pv (.sl f z (l.map Lw))), (5, .p 5 0)] [(5, some (.var (.vec 8 (vE a))))]
noncomputable def Ee (l : List K4) (most : Int) (a : Vc) : Bool := decide ((l.length : Int) ≤ most) && Js a l
theorem Ad5 {a : Vc} {l : List K4} {k : Nat} (hk : ∀ i, (h : i < l.length) → i < k → Dh a l[i].1 l[i].2 = true ∧ (0 < i → P5 l[i - 1].1 l[i - 1].2 l[i].1 l[i].2 = true)) (hlt : k < l.length)
 (h1 : Dh a l[k].1 l[k].2 = true) (h2 : 0 < k → P5 l[k - 1].1 l[k - 1].2 l[k].1 l[k].2 = true) : ∀ i, (h : i < l.length) → i < k + 1 → Dh a l[i].1 l[i].2 = true ∧ (0 < i → P5 l[i - 1].1 l[i - 1].2 l[i].1 l[i].2 = true) := fun i h hi => by
 by_cases e : i = k
 · subst e; exact ⟨h1, h2⟩
 · exact hk i h (by omega)
set_option maxHeartbeats 2000000 in
theorem Xo {f : Bool} {z : Nat} {l : List K4} {most : Int} {a : Vc} {h d} (hz : l = [] ∨ z = 2) (hn : l.length ≤ 1000) :
 FunOk Try.prog 53 [.pv (.sl f z (l.map Lw)), .pv (.i .i64 most), .vec 8 (vE a)] h d (.pv (.b (Ee l most a))) [] := by
 refine Aw An fn53 (by simp) rfl rfl fun F => ?_;by_cases hm : most < (l.length : Int)
 · have eb : Ee l most a = false := by
    have : ¬ (l.length : Int) ≤ most := by omega
    simp [Ee, this]
   simp (disch := omega) only [ir53, List.length_map, hm, eb, go_sem]
 have eb : Ee l most a = Js a l := by
  have : (l.length : Int) ≤ most := by omega
  simp [Ee, this]
 rw [eb];simp (disch := omega) only [ir53, List.length_map, hm, go_sem];refine A7 An (My f z l a) (fun k => k ≤ l.length ∧ ∀ i, (h : i < l.length) → i < k → Dh a l[i].1 l[i].2 = true ∧ (0 < i → P5 l[i - 1].1 l[i - 1].2 l[i].1 l[i].2 = true)) (fun k => l.length - k) 0 (by simp) (Ar ?_ ?_) fun k hk => ?_
 · simp (disch := omega) only [List.length_map, go_sem]
 · simp (disch := omega) only [go_sem]
 obtain ⟨hk1, hk2⟩ := hk;by_cases hlt : k < l.length
 · have hz2 : z = 2 := hz.resolve_left fun e => by subst e; simp at hlt
   subst hz2;have he : (l.map Lw)[k]? = some (Lw l[k]) := by simp [hlt]
   have hst := Ad5 hk2 hlt;by_cases hh : Dh a l[k].1 l[k].2 = true
   · by_cases h0 : k = 0
     · subst h0;have e0 : (l.map Lw)[0]? = some (Lw l[0]) := he;simp (disch := omega) only [My, List.length_map, he, e0, I7, Ie, Int.natCast_zero, go_sem];refine Aa (Hx _ _ _) ?_;simp (disch := omega) only [hh, Int.natCast_zero, go_sem];refine Az (x := (0 : Nat)) (1 : Nat) _ _ rfl ⟨by omega, hst hh (by omega)⟩ (by omega) ?_ ?_
       · simp (disch := omega) only [go_sem]
       · simp (disch := omega) only [go_sem]
     · have hk' : k - 1 < l.length := by omega
       have he' : (l.map Lw)[k - 1]? = some (Lw l[k - 1]) := by simp [hk']
       have ek : ((k : Int) - 1).toNat = k - 1 := by omega
       have hpos : (0 : Int) < k := by omega
       by_cases hlt2 : P5 l[k - 1].1 l[k - 1].2 l[k].1 l[k].2 = true
       · simp (disch := omega) only [My, List.length_map, he, he', ek, hpos, I7, Ie, go_sem];refine Aa (Hx _ _ _) ?_;simp (disch := omega) only [hh, he, he', ek, hpos, I7, List.length_map, go_sem];refine Aa (Ah4 _ _ _ _) ?_;simp (disch := omega) only [hlt2, go_sem];refine Az (k + 1) _ _ rfl ⟨by omega, hst hh fun _ => hlt2⟩ (by omega) ?_ ?_
         · simp (disch := omega) only [go_sem]
         · simp (disch := omega) only [go_sem]
       · have hlt3 : P5 l[k - 1].1 l[k - 1].2 l[k].1 l[k].2 = false := by simpa using hlt2
         have er := Ab1 (a := a) (l := l) fun h => hlt2 ((h k hlt).2 (by omega));simp (disch := omega) only [My, List.length_map, he, he', ek, hpos, I7, Ie, go_sem];refine Aa (Hx _ _ _) ?_;simp (disch := omega) only [hh, he, he', ek, hpos, I7, List.length_map, go_sem];refine Aa (Ah4 _ _ _ _) ?_;simp (disch := omega) only [hlt3, er, My, go_sem]
   · have hh' : Dh a l[k].1 l[k].2 = false := by simpa using hh
     have er := Ab1 (a := a) (l := l) fun h => hh (h k hlt).1;simp (disch := omega) only [My, List.length_map, he, I7, Ie, go_sem];refine Aa (Hx _ _ _) ?_;simp (disch := omega) only [hh', er, My, go_sem]
 · obtain rfl : k = l.length := by omega
   have er := Amw (a := a) (l := l) fun i h => hk2 i h h;simp (disch := omega) only [My, List.length_map, er, My, go_sem]
def Bq (n : Nat) : List UInt8 := if h : n = 0 then [] else Bq (n / 256) ++ [UInt8.ofNat (n % 256)]
decreasing_by omega
theorem G2 : Bq 0 = [] := by unfold Bq; simp
theorem Ia {n : Nat} (h : n ≠ 0) : Bq n = Bq (n / 256) ++ [UInt8.ofNat (n % 256)] := by conv => lhs; unfold Bq; rw [dif_neg h]
theorem Va {n : Nat} : 0 < (Bq n).length ↔ n ≠ 0 := by
 constructor
 · intro h e; subst e; rw [G2] at h; simp at h
 · intro h; rw [Ia h]; simp
theorem D7 : ∀ (k n : Nat), n < 256 ^ k → (Bq n).length ≤ k
 | 0, n, h => by
   have : n = 0 := by simpa using h
   subst this; rw [G2]; simp
 | k + 1, n, h => by
   by_cases hn : n = 0
   · subst hn; rw [G2]; simp
   · rw [Ia hn, List.length_append];have := D7 k (n / 256) (by
      rw [Nat.pow_succ] at h;exact Nat.div_lt_of_lt_mul (by rw [Nat.mul_comm]; exact h))
     simp; exact this
def E2 (l : List UInt8) : Nat := l.foldl (fun n c => n * 256 + c.toNat) 0
theorem K6 (l : List UInt8) (c : UInt8) : E2 (l ++ [c]) = E2 l * 256 + c.toNat := by simp [E2]
theorem Tm (n : Nat) : E2 (Bq n) = n := by
 induction n using Nat.strongRecOn with
 | _ n ih =>
   by_cases hn : n = 0
   · subst hn; rw [G2]; rfl
   · rw [Ia hn, K6, ih _ (by omega), UInt8.toNat_ofNat'];have : n % 256 % 2 ^ 8 = n % 256 := Nat.mod_eq_of_lt (by omega);rw [this]; omega
theorem Wx {p : List UInt8 → Prop} (h0 : p []) (h1 : ∀ l c, p l → p (l ++ [c])) (l : List UInt8) : p l := by
 have key : ∀ l : List UInt8, p l.reverse := fun l => by
  induction l with
  | nil => exact h0
  | cons c l ih => rw [List.reverse_cons]; exact h1 _ _ ih
 have := key l.reverse
 rwa [List.reverse_reverse] at this
theorem Abp (l : List UInt8) : E2 l < 256 ^ l.length := by
 refine Wx (p := fun l => E2 l < 256 ^ l.length) (by simp [E2]) (fun l c ih => ?_) l;rw [K6, List.length_append, List.length_singleton, Nat.pow_succ];have := c.toNat_lt;omega
theorem Aog (l : List UInt8) (c : UInt8) (h : l ≠ []) : (l ++ [c]).head? = l.head? := by cases l <;> simp_all
theorem Aed (l : List UInt8) : Bq (E2 l) = l ↔ l.head? ≠ some 0 := by
 refine Wx (p := fun l => Bq (E2 l) = l ↔ l.head? ≠ some 0) (by simp [E2, G2]) (fun l c ih => ?_) l;rw [K6];have hc := c.toNat_lt;have hcc : UInt8.ofNat c.toNat = c := UInt8.ofNat_toNat;by_cases hl : l = []
 · subst hl;have hv : E2 [] = 0 := rfl;rw [hv, Nat.zero_mul, Nat.zero_add, List.nil_append];simp only [List.head?_cons, ne_eq, Option.some.injEq];by_cases h0 : c.toNat = 0
   · have : c = 0 := UInt8.toNat_inj.1 (by simpa using h0);subst this;simp [G2]
   · have hne : c ≠ 0 := fun e => h0 (by rw [e]; rfl);rw [Ia h0, show c.toNat / 256 = 0 from by omega, G2, show c.toNat % 256 = c.toNat from by omega, hcc];simp [hne]
 · rw [Aog l c hl];have hlen : E2 l ≠ 0 → Bq (E2 l * 256 + c.toNat) = Bq (E2 l) ++ [c] := fun hv => by
    rw [Ia (by omega), show (E2 l * 256 + c.toNat) / 256 = E2 l from by omega, show (E2 l * 256 + c.toNat) % 256 = c.toNat from by omega, hcc]
   constructor
   · intro e;by_cases hv : E2 l = 0
     · intro hh;rw [hv, Nat.zero_mul, Nat.zero_add] at e;have h1 := congrArg List.length e;have h2 := D7 1 c.toNat (by omega);have h3 : 0 < l.length := List.length_pos_iff.2 hl;simp at h1; omega
     · rw [hlen hv] at e;exact ih.1 (List.append_cancel_right e)
   · intro hh;have e := ih.2 hh;have hv : E2 l ≠ 0 := fun hv => by rw [hv, G2] at e; exact hl e.symm
     rw [hlen hv, e]
theorem Agp {l : List UInt8} (h : l.length ≤ 8) : E2 l < 18446744073709551616 := by
 have h1 := Abp l;have h2 : 256 ^ l.length ≤ 256 ^ 8 := Nat.pow_le_pow_right (by omega) h;omega
def Cj (l : List UInt8) : Nat × Int := if 8 < l.length then (0, 4) else if l.head? = some 0 then (0, 7) else (E2 l, 0)
theorem Yy (l : List UInt8) : (Cj l).1 < 18446744073709551616 := by
 unfold Cj;split
 · simp
 · split
   · simp
   · exact Agp (by omega)
def Eg (f : List UInt8) : List UInt8 := if f.length < 255 then UInt8.ofNat f.length :: f else 255 :: UInt8.ofNat (f.length / 256) :: UInt8.ofNat f.length :: f
def D6 : List (List UInt8) → List UInt8
 | [] => []
 | f :: l => Eg f ++ D6 l
theorem Tu : ∀ (a b : List (List UInt8)), D6 (a ++ b) = D6 a ++ D6 b
 | [], b => rfl
 | f :: a, b => by simp only [List.cons_append, D6, Tu a b, List.append_assoc]
theorem V1 {f : List UInt8} (h : f.length < 255) : Eg f = UInt8.ofNat f.length :: f := if_pos h
theorem Yl {f : List UInt8} (h : ¬ f.length < 255) : Eg f = 255 :: UInt8.ofNat (f.length / 256) :: UInt8.ofNat f.length :: f := if_neg h
theorem Sm (f : List UInt8) : (Eg f).length = f.length + if f.length < 255 then 1 else 3 := by
 unfold Eg; split <;> simp
theorem Afk (f : List UInt8) : Eg f ≠ [] := by unfold Eg; split <;> simp
def Bs (l : List UInt8) : Nat × Nat × Int :=
 if (l.getD 0 0).toNat < 255 then ((l.getD 0 0).toNat, 1, 0)
 else if l.length < 3 then (0, 0, 8)
 else if (l.getD 1 0).toNat * 256 + (l.getD 2 0).toNat < 255 then (0, 0, 7)
 else ((l.getD 1 0).toNat * 256 + (l.getD 2 0).toNat, 3, 0)
def Nv (l : List UInt8) : Int := if (Bs l).2.2 = 0 then if l.length < (Bs l).2.1 + (Bs l).1 then 8 else 0 else (Bs l).2.2
def Yh (l : List UInt8) : List UInt8 := (l.drop (Bs l).2.1).take (Bs l).1
def W5 (l : List UInt8) : List UInt8 := l.drop ((Bs l).2.1 + (Bs l).1)
theorem Aam {l : List UInt8} (h : (Bs l).2.2 = 0) : 1 ≤ (Bs l).2.1 := by
 unfold Bs at *;split
 · simp
 · rename_i h1;rw [if_neg h1] at h;split
   · rename_i h2; rw [if_pos h2] at h; simp at h
   · rename_i h2;rw [if_neg h2] at h;split
     · rename_i h3; rw [if_pos h3] at h; simp at h
     · simp
theorem Afm {l : List UInt8} (h : Nv l = 0) : (Bs l).2.2 = 0 ∧ (Bs l).2.1 + (Bs l).1 ≤ l.length := by
 unfold Nv at h;split at h
 · rename_i h1;split at h
   · cases h
   · exact ⟨h1, by omega⟩
 · rename_i h1; exact absurd h h1
theorem Abz {l : List UInt8} (hl : l ≠ []) (h : Nv l = 0) : (W5 l).length < l.length := by
 obtain ⟨h1, h2⟩ := Afm h;have := Aam h1;have := List.length_pos_iff.2 hl;unfold W5;rw [List.length_drop]; omega
def B0 (l : List UInt8) (out : List (List UInt8)) (most : Int) : List (List UInt8) × Int :=
 if hl : l = [] then (out, 0)
 else if h : Nv l = 0 then
  if most ≤ out.length then ([], 4) else B0 (W5 l) (out ++ [Yh l]) most
 else ([], Nv l)
termination_by l.length
decreasing_by exact Abz hl h
theorem Pd (out most) : B0 [] out most = (out, 0) := by rw [B0]; simp
theorem Wl {l out most} (hl : l ≠ []) (h : Nv l ≠ 0) : B0 l out most = ([], Nv l) := by rw [B0, dif_neg hl, dif_neg h]
theorem Ur {l out} {most : Int} (hl : l ≠ []) (h : Nv l = 0) (hm : most ≤ out.length) : B0 l out most = ([], 4) := by rw [B0, dif_neg hl, dif_pos h, if_pos hm]
theorem Q5 {l out} {most : Int} (hl : l ≠ []) (h : Nv l = 0) (hm : ¬ most ≤ out.length) : B0 l out most = B0 (W5 l) (out ++ [Yh l]) most := by rw [B0, dif_neg hl, dif_pos h, if_neg hm]
theorem E3 {n : Nat} (h : n < 256) : (UInt8.ofNat n).toNat = n := by rw [UInt8.toNat_ofNat']; exact Nat.mod_eq_of_lt h
theorem Mh (f r : List UInt8) (hf : f.length ≤ 65535) : Bs (Eg f ++ r) = (f.length, (if f.length < 255 then 1 else 3), 0) := by
 unfold Bs Eg;by_cases h : f.length < 255
 · simp only [if_pos h, List.cons_append, List.getD_cons_zero];rw [E3 (by omega), if_pos h]
 · simp only [if_neg h, List.cons_append, List.getD_cons_zero, List.getD_cons_succ, List.length_cons];rw [if_neg (by decide), if_neg (by omega), E3 (by omega), UInt8.toNat_ofNat'];have : f.length / 256 * 256 + f.length % 2 ^ 8 = f.length := by omega
   rw [this, if_neg h]
theorem Sl (f r : List UInt8) : (Eg f ++ r).drop (if f.length < 255 then 1 else 3) = f ++ r := by
 unfold Eg;by_cases h : f.length < 255
 · simp [if_pos h]
 · simp [if_neg h]
theorem Afl (f r : List UInt8) (hf : f.length ≤ 65535) : Nv (Eg f ++ r) = 0 := by
 unfold Nv;rw [Mh f r hf];simp only [if_true];rw [if_neg];rw [List.length_append, Sm];omega
theorem Afi (f r : List UInt8) (hf : f.length ≤ 65535) : Yh (Eg f ++ r) = f := by
 unfold Yh;rw [Mh f r hf];simp only;rw [Sl, List.take_left]
theorem Ad4 (f r : List UInt8) (hf : f.length ≤ 65535) : W5 (Eg f ++ r) = r := by
 unfold W5;rw [Mh f r hf];simp only;rw [← List.drop_drop, Sl, List.drop_left]
theorem Pc (r : List UInt8) : ∀ (l out : List (List UInt8)) (most : Int), (∀ f ∈ l, f.length ≤ 65535) → (out.length + l.length : Int) ≤ most → B0 (D6 l ++ r) out most = B0 r (out ++ l) most
 | [], out, most, _, _ => by simp [D6]
 | f :: l, out, most, hl, hm => by
   simp only [D6, List.append_assoc];have hf := hl f List.mem_cons_self;simp only [List.length_cons] at hm;rw [Q5 (by simp [Afk]) (Afl f _ hf) (by omega), Afi f _ hf, Ad4 f _ hf];rw [Pc r l (out ++ [f]) most (fun g hg => hl g (List.mem_cons_of_mem _ hg)) (by simp; omega)];simp
theorem It (l : List (List UInt8)) (most : Int) (hl : ∀ f ∈ l, f.length ≤ 65535) (hm : (l.length : Int) ≤ most) : B0 (D6 l) [] most = (l, 0) := by
 have := Pc [] l [] most hl (by simpa using hm);rw [List.append_nil] at this;rw [this, Pd]; simp
def C3 (n : Nat) : List UInt8 := UInt8.ofNat (Bq n).length :: Bq n
def Bf (p : Nat → Bool) : Nat → Nat
 | 0 => 0
 | k + 1 => if p k = true then Bf p k + 2 ^ k else Bf p k
theorem Gt (p : Nat → Bool) : ∀ k, Bf p k < 2 ^ k
 | 0 => by simp [Bf]
 | k + 1 => by
   have := Gt p k;simp only [Bf];rw [Nat.pow_succ];split <;> omega
theorem I4 (p : Nat → Bool) (i : Nat) : ∀ k, Bf p k / 2 ^ i % 2 = if i < k ∧ p i = true then 1 else 0
 | 0 => by simp [Bf]
 | k + 1 => by
   have ih := I4 p i k;have hlt := Gt p k;simp only [Bf];by_cases hk : p k = true
   · rw [if_pos hk];by_cases h1 : i < k
     · have e : 2 ^ k = 2 * (2 ^ (k - 1 - i)) * 2 ^ i := by
        rw [← Nat.pow_succ', ← Nat.pow_add]; congr 1; omega
       rw [e, Nat.add_mul_div_right _ _ (Nat.two_pow_pos i)];rw [Nat.add_mul_mod_self_left, ih];simp [h1, show i < k + 1 from by omega]
     · by_cases h2 : i = k
       · subst h2;rw [Nat.add_div_right _ (Nat.two_pow_pos i), Nat.div_eq_of_lt hlt];simp [hk]
       · have h3 : Bf p k + 2 ^ k < 2 ^ i := by
          have : 2 ^ (k + 1) ≤ 2 ^ i := Nat.pow_le_pow_right (by omega) (by omega);rw [Nat.pow_succ] at this; omega
         rw [Nat.div_eq_of_lt h3, if_neg (by omega)]
   · rw [if_neg hk, ih];by_cases h2 : i = k
     · subst h2; simp [hk]
     · have : (i < k) ↔ (i < k + 1) := by omega
       simp only [this]
theorem Ada (m s i : Nat) : (m &&& s).testBit i = (decide (m / 2 ^ i % 2 = 1) && decide (s / 2 ^ i % 2 = 1)) := by
 rw [Nat.testBit_and, Nat.testBit_eq_decide_div_mod_eq, Nat.testBit_eq_decide_div_mod_eq]
theorem Alo {m s : Nat} (hm : m < 256) : m &&& s = 0 ↔ ∀ i, i < 8 → ¬ (m / 2 ^ i % 2 = 1 ∧ s / 2 ^ i % 2 = 1) := by
 constructor
 · intro h i _ ⟨h1, h2⟩;have := Ada m s i;rw [h, Nat.zero_testBit, decide_eq_true h1, decide_eq_true h2] at this;cases this
 · intro h;apply Nat.eq_of_testBit_eq;intro i;rw [Ada, Nat.zero_testBit];by_cases hi : i < 8
   · have := h i hi;by_cases h1 : m / 2 ^ i % 2 = 1
     · have h2 : ¬ s / 2 ^ i % 2 = 1 := fun h2 => this ⟨h1, h2⟩;rw [decide_eq_false h2, Bool.and_false]
     · rw [decide_eq_false h1, Bool.false_and]
   · have h3 : m < 2 ^ i := Nat.lt_of_lt_of_le hm (by
      have : 2 ^ 8 ≤ 2 ^ i := Nat.pow_le_pow_right (by omega) (by omega);exact this)
     have h1 : ¬ m / 2 ^ i % 2 = 1 := by rw [Nat.div_eq_of_lt h3]; simp
     rw [decide_eq_false h1, Bool.false_and]
def dA (x y : Nat) : List UInt8 := if y < x then C3 (x - y) else if x < y then C3 (y - x) else []
def Sv (v base : Nat → Nat) : Nat → List UInt8
 | 0 => []
 | k + 1 => Sv v base k ++ dA (v k) (base k)
def Dv (v base : Nat → Nat) : Nat → Nat → List UInt8
 | i, 0 => []
 | i, n + 1 => dA (v i) (base i) ++ Dv v base (i + 1) n
theorem Pv (v base : Nat → Nat) : ∀ n i, Dv v base i (n + 1) = Dv v base i n ++ dA (v (i + n)) (base (i + n))
 | 0, i => by simp [Dv]
 | n + 1, i => by
   have := Pv v base n (i + 1);rw [Dv, this, Dv, List.append_assoc, show i + 1 + n = i + (n + 1) from by omega]
theorem Uh (v base : Nat → Nat) : ∀ k, Sv v base k = Dv v base 0 k
 | 0 => rfl
 | k + 1 => by rw [Sv, Uh v base k, Pv, Nat.zero_add]
def C7 (v base : Nat → Nat) (i : Nat) : Bool := decide (base i < v i)
def Cz (v base : Nat → Nat) (i : Nat) : Bool := decide (v i < base i)
def A4 (v base : Nat → Nat) : List UInt8 := UInt8.ofNat (Bf (C7 v base) 8) :: UInt8.ofNat (Bf (Cz v base) 8) :: Sv v base 8
theorem Hq {n : Nat} (h : n < 4294967296) : (C3 n).length ≤ 5 := by
 have := D7 4 n h;simp [C3]; omega
theorem Kw (v base : Nat → Nat) (hv : ∀ i, i < 8 → v i < 4294967296) (hb : ∀ i, i < 8 → base i < 4294967296) : ∀ k, k ≤ 8 → (Sv v base k).length ≤ 5 * k
 | 0, _ => by simp [Sv]
 | k + 1, h => by
   have := Kw v base hv hb k (by omega);have h1 := hv k (by omega);have h2 := hb k (by omega);simp only [Sv, List.length_append];have : (dA (v k) (base k)).length ≤ 5 := by
    unfold dA;split
    · exact Hq (by omega)
    · split
      · exact Hq (by omega)
      · simp
   omega
inductive RdR where
 | skip
 | err (e : Int)
 | val (x : Int) (rest : List UInt8)
def Gh (sg : Int) (rest : List UInt8) : RdR :=
 if rest.length = 0 ∨ rest.length - 1 < (rest.getD 0 0).toNat then .err 8
 else if (Cj ((rest.take (1 + (rest.getD 0 0).toNat)).drop 1)).2 ≠ 0 ∨ (Cj ((rest.take (1 + (rest.getD 0 0).toNat)).drop 1)).1 = 0 ∨ 4294967295 < (Cj ((rest.take (1 + (rest.getD 0 0).toNat)).drop 1)).1 then .err 7
 else .val (sg * ((Cj ((rest.take (1 + (rest.getD 0 0).toNat)).drop 1)).1 : Int)) (rest.drop (1 + (rest.getD 0 0).toNat))
def Gy (m s i : Nat) (rest : List UInt8) : RdR :=
 if s / 2 ^ i % 2 = 1 then Gh (-1) rest else if m / 2 ^ i % 2 = 0 then .skip else Gh 1 rest
def Tc : Nat → Int := fun _ => 0
def Te (a : Nat → Int) (k : Nat) (x : Int) : Nat → Int := fun i => if i = k then x else a i
def Dn (m s : Nat) : Nat → Nat → (Nat → Int) → List UInt8 → (Nat → Int) × Int
 | 0, i, t, rest => if rest.length = 0 then (t, 0) else (Tc, 4)
 | n + 1, i, t, rest => match Gy m s i rest with
   | .skip => Dn m s n (i + 1) t rest
   | .err e => (Tc, e)
   | .val x rest' => Dn m s n (i + 1) (Te t i x) rest'
def Cc (l : List UInt8) : (Nat → Int) × Int :=
 if l.length < 2 then (Tc, 8)
 else if (l.getD 0 0).toNat &&& (l.getD 1 0).toNat ≠ 0 then (Tc, 7)
 else Dn (l.getD 0 0).toNat (l.getD 1 0).toNat 8 0 Tc (l.drop 2)
theorem I1 (m s : Nat) : ∀ n i t rest, (∀ j, -4294967296 < t j ∧ t j < 4294967296) → ∀ j, -4294967296 < (Dn m s n i t rest).1 j ∧ (Dn m s n i t rest).1 j < 4294967296
 | 0, i, t, rest, h, j => by
   simp only [Dn];split
   · exact h j
   · simp [Tc]
 | n + 1, i, t, rest, h, j => by
   simp only [Dn];split
   · exact I1 m s n _ _ _ h j
   · simp [Tc]
   · rename_i x rest' hx;refine I1 m s n _ _ _ (fun k => ?_) j;unfold Te;split
     · have key : ∀ sg : Int, (sg = 1 ∨ sg = -1) → Gh sg rest = .val x rest' → -4294967296 < x ∧ x < 4294967296 := fun sg hsg he => by
        unfold Gh at he;split at he
        · cases he
        · split at he
          · cases he
          · rename_i hn;cases he;generalize (Cj ((rest.take (1 + (rest.getD 0 0).toNat)).drop 1)).1 = q at hn;rcases hsg with rfl | rfl <;> omega
       unfold Gy at hx;split at hx
       · exact key _ (.inr rfl) hx
       · split at hx
         · cases hx
         · exact key _ (.inl rfl) hx
     · exact h k
theorem W8 (l : List UInt8) (j : Nat) : -4294967296 < (Cc l).1 j ∧ (Cc l).1 j < 4294967296 := by
 unfold Cc;split
 · simp [Tc]
 · split
   · simp [Tc]
   · exact I1 _ _ _ _ _ _ (fun j => by simp [Tc]) j
theorem Ms {n : Nat} (h : n < 18446744073709551616) : Cj (Bq n) = (n, 0) := by
 have hl := D7 8 n h;have hh := (Aed (Bq n)).1 (by rw [Tm]);unfold Cj;rw [if_neg (by omega), if_neg hh, Tm]
theorem M8 (sg : Int) (n : Nat) (h0 : n ≠ 0) (h : n < 4294967296) (rest : List UInt8) : Gh sg (C3 n ++ rest) = .val (sg * n) rest := by
 have hl := D7 4 n h;have e0 : ((C3 n ++ rest).getD 0 0).toNat = (Bq n).length := by
  simp only [C3, List.cons_append, List.getD_cons_zero];rw [UInt8.toNat_ofNat'];exact Nat.mod_eq_of_lt (by omega)
 have e1 : ((C3 n ++ rest).take (1 + (Bq n).length)).drop 1 = Bq n := by
  rw [Nat.add_comm];simp only [C3, List.cons_append, List.take_succ_cons, List.drop_succ_cons, List.drop_zero];exact List.take_left' rfl
 have e2 : (C3 n ++ rest).drop (1 + (Bq n).length) = rest := by
  rw [Nat.add_comm];simp only [C3, List.cons_append, List.drop_succ_cons];exact List.drop_left' rfl
 unfold Gh;rw [e0, e1, e2, Ms (by omega)];rw [if_neg (by simp [C3]), if_neg (by simp; omega)]
theorem La (v base : Nat → Nat) (hv : ∀ i, i < 8 → v i < 4294967296) (hb : ∀ i, i < 8 → base i < 4294967296) : ∀ n i t, i + n = 8 →
 (Dn (Bf (C7 v base) 8) (Bf (Cz v base) 8) n i t (Dv v base i n)).2 = 0 ∧ ∀ j, (Dn (Bf (C7 v base) 8) (Bf (Cz v base) 8) n i t (Dv v base i n)).1 j = if i ≤ j ∧ j < 8 ∧ v j ≠ base j then (v j : Int) - base j else t j
 | 0, i, t, h => by
   simp only [Dn, Dv, List.length_nil, if_true];refine ⟨trivial, fun j => ?_⟩;rw [if_neg (by omega)]
 | n + 1, i, t, h => by
   have h1 := hv i (by omega);have h2 := hb i (by omega);have bm := I4 (C7 v base) i 8;have bl := I4 (Cz v base) i 8;simp only [Dn, Dv];rcases Nat.lt_trichotomy (v i) (base i) with hc | hc | hc
   · have e1 : Cz v base i = true := by simp [Cz, hc]
     rw [e1, if_pos ⟨by omega, rfl⟩] at bl;have e2 : Gy (Bf (C7 v base) 8) (Bf (Cz v base) 8) i (dA (v i) (base i) ++ Dv v base (i + 1) n) = .val (-1 * ((base i - v i : Nat) : Int)) (Dv v base (i + 1) n) := by
      unfold Gy dA;rw [if_pos bl, if_neg (by omega), if_pos hc];exact M8 _ _ (by omega) (by omega) _
     rw [e2];obtain ⟨r1, r2⟩ := La v base hv hb n (i + 1) (Te t i (-1 * ((base i - v i : Nat) : Int))) (by omega);refine ⟨r1, fun j => ?_⟩;simp only [r2];unfold Te;by_cases hj : j = i
     · subst hj; rw [if_neg (by omega), if_pos rfl, if_pos ⟨by omega, by omega, by omega⟩]; omega
     · rw [if_neg hj];by_cases hj2 : i + 1 ≤ j ∧ j < 8 ∧ v j ≠ base j
       · rw [if_pos hj2, if_pos ⟨by omega, hj2.2⟩]
       · rw [if_neg hj2, if_neg (fun hx => hj2 ⟨by omega, hx.2⟩)]
   · have e1 : Cz v base i = false := by simp [Cz, hc]
     have e1' : C7 v base i = false := by simp [C7, hc]
     rw [e1, if_neg (by simp)] at bl;rw [e1', if_neg (by simp)] at bm;have e2 : Gy (Bf (C7 v base) 8) (Bf (Cz v base) 8) i (dA (v i) (base i) ++ Dv v base (i + 1) n) = .skip := by
      unfold Gy;rw [if_neg (by omega), if_pos bm]
     have e3 : dA (v i) (base i) = [] := by unfold dA; rw [if_neg (by omega), if_neg (by omega)]
     rw [e2, e3, List.nil_append];obtain ⟨r1, r2⟩ := La v base hv hb n (i + 1) t (by omega);refine ⟨r1, fun j => ?_⟩;simp only [r2];by_cases hj2 : i + 1 ≤ j ∧ j < 8 ∧ v j ≠ base j
     · rw [if_pos hj2, if_pos ⟨by omega, hj2.2⟩]
     · rw [if_neg hj2, if_neg (fun hx => hj2 ⟨by
        by_cases e : j = i
        · subst e; exact absurd hc hx.2.2
        · omega, hx.2⟩)]
   · have e1 : Cz v base i = false := by simp [Cz]; omega
     have e1' : C7 v base i = true := by simp [C7, hc]
     rw [e1, if_neg (by simp)] at bl;rw [e1', if_pos ⟨by omega, rfl⟩] at bm;have e2 : Gy (Bf (C7 v base) 8) (Bf (Cz v base) 8) i (dA (v i) (base i) ++ Dv v base (i + 1) n) = .val (1 * ((v i - base i : Nat) : Int)) (Dv v base (i + 1) n) := by
      unfold Gy dA;rw [if_neg (by omega), if_neg (by omega), if_pos hc];exact M8 _ _ (by omega) (by omega) _
     rw [e2];obtain ⟨r1, r2⟩ := La v base hv hb n (i + 1) (Te t i (1 * ((v i - base i : Nat) : Int))) (by omega);refine ⟨r1, fun j => ?_⟩;simp only [r2];unfold Te;by_cases hj : j = i
     · subst hj; rw [if_neg (by omega), if_pos rfl, if_pos ⟨by omega, by omega, by omega⟩]; omega
     · rw [if_neg hj];by_cases hj2 : i + 1 ≤ j ∧ j < 8 ∧ v j ≠ base j
       · rw [if_pos hj2, if_pos ⟨by omega, hj2.2⟩]
       · rw [if_neg hj2, if_neg (fun hx => hj2 ⟨by omega, hx.2⟩)]
theorem Aiq (p : Nat → Bool) : (UInt8.ofNat (Bf p 8)).toNat = Bf p 8 := by
 rw [UInt8.toNat_ofNat'];exact Nat.mod_eq_of_lt (Gt p 8)
theorem U3 (v base : Nat → Nat) (hv : ∀ i, i < 8 → v i < 4294967296) (hb : ∀ i, i < 8 → base i < 4294967296) :
 (Cc (A4 v base)).2 = 0 ∧ ∀ j, j < 8 → (Cc (A4 v base)).1 j = (v j : Int) - base j := by
 have hz : Bf (C7 v base) 8 &&& Bf (Cz v base) 8 = 0 := (Alo (Gt _ 8)).2 fun i hi ⟨h1, h2⟩ => by
  rw [I4] at h1 h2;simp only [C7, Cz, decide_eq_true_eq] at h1 h2;split at h1 <;> split at h2 <;> omega
 have e : Cc (A4 v base) = Dn (Bf (C7 v base) 8) (Bf (Cz v base) 8) 8 0 Tc (Dv v base 0 8) := by
  unfold Cc;rw [if_neg (by simp [A4])];simp only [A4, List.getD_cons_zero, List.getD_cons_succ, Aiq, List.drop_succ_cons, List.drop_zero];rw [if_neg (by rw [hz]; simp), Uh]
 rw [e];obtain ⟨r1, r2⟩ := La v base hv hb 8 0 Tc (by omega);refine ⟨r1, fun j hj => ?_⟩;rw [r2];by_cases h : v j = base j
 · rw [if_neg (fun hx => hx.2.2 h), h]; simp [Tc]
 · rw [if_pos ⟨by omega, hj, h⟩]
def Mj (l : List UInt8) (base : Nat → Nat) : Prop := ∀ i, i < 8 → 0 ≤ (base i : Int) + (Cc l).1 i ∧ (base i : Int) + (Cc l).1 i ≤ 4294967295
instance (l : List UInt8) (base : Nat → Nat) : Decidable (Mj l base) := inferInstanceAs (Decidable (∀ i, i < 8 → 0 ≤ (base i : Int) + (Cc l).1 i ∧ (base i : Int) + (Cc l).1 i ≤ 4294967295))
def Fg (l : List UInt8) (base : Nat → Nat) : (Nat → Nat) × Int :=
 if (Cc l).2 ≠ 0 then (fun _ => 0, (Cc l).2)
 else if Mj l base then (fun i => ((base i : Int) + (Cc l).1 i).toNat, 0) else (fun _ => 0, 7)
theorem E8 (v base : Nat → Nat) (hv : ∀ i, i < 8 → v i < 4294967296) (hb : ∀ i, i < 8 → base i < 4294967296) :
 (Fg (A4 v base) base).2 = 0 ∧ ∀ i, i < 8 → (Fg (A4 v base) base).1 i = v i := by
 obtain ⟨r1, r2⟩ := U3 v base hv hb;have hok : Mj (A4 v base) base := fun i hi => by rw [r2 i hi]; have := hv i hi; omega
 unfold Fg;rw [if_neg (by rw [r1]; simp), if_pos hok];refine ⟨rfl, fun i hi => ?_⟩;show ((base i : Int) + (Cc (A4 v base)).1 i).toNat = v i;rw [r2 i hi]; omega
theorem Ei (n : Nat) : IntKind.u8.wrap (n : Int) = ((UInt8.ofNat n).toNat : Int) := by
 rw [UInt8.toNat_ofNat'];simp [IntKind.wrap, IntKind.signed, IntKind.bits]
theorem Mw (n : Nat) : IntKind.u8.wrap (n : Int) = ((n % 256 : Nat) : Int) := by simp [IntKind.wrap, IntKind.signed, IntKind.bits]
theorem Qj (a : Nat) (h : a < 18446744073709551616) : (BitVec.ofInt 64 (a : Int)).toNat = a := by
 rw [BitVec.ofInt_natCast, BitVec.toNat_ofNat]; exact Nat.mod_eq_of_lt (by omega)
theorem Yv (a b : Nat) (ha : a < 18446744073709551616) (hb : b < 18446744073709551616) : bits .or .u64 a b = ((a ||| b : Nat) : Int) := by
 have h : a ||| b < 2 ^ 64 := Nat.or_lt_two_pow ha hb;show IntKind.u64.wrap ((BitVec.ofInt 64 (a : Int) ||| BitVec.ofInt 64 (b : Int)).toNat : Int) = _;rw [BitVec.toNat_or, Qj a ha, Qj b hb];exact Jz ⟨by omega, by omega⟩
theorem Amn (n c : Nat) (hn : n < 72057594037927936) (hc : c < 256) : bits .or .u64 ((n : Int) * 256) (c : Int) = ((n * 256 + c : Nat) : Int) := by
 rw [show (n : Int) * 256 = ((256 * n : Nat) : Int) from by omega, Yv _ _ (by omega) (by omega)];have := Nat.two_pow_add_eq_or_of_lt (i := 8) (b := c) (by omega) n;rw [show (2 : Nat) ^ 8 = 256 from rfl] at this;rw [← this]; omega
theorem G5 (l : List UInt8) : ∀ c ∈ Ac l, c.all PV.flat = true := by
 intro c hc;obtain ⟨x, _, rfl⟩ := List.mem_map.1 hc;rfl
theorem N1 (l : List UInt8) (n : Nat) : (Ac l).take n = Ac (l.take n) := by simp [Ac]
theorem Fd (l : List UInt8) (n : Nat) : (Ac l).drop n = Ac (l.drop n) := by simp [Ac]
theorem Su (a b : List UInt8) : Ac a ++ Ac b = Ac (a ++ b) := by simp [Ac]
theorem Amm (n k : Nat) (hk : k ≤ 7) : ((n : Nat) : Int).fdiv (2 ^ min (8 * k) 64) = ((n / 256 ^ k : Nat) : Int) := by
 rw [show min (8 * k) 64 = 8 * k from by omega];rw [Int.fdiv_eq_ediv_of_nonneg _ (by exact Int.le_of_lt (Int.pow_pos (by omega)))];rw [show (256 : Nat) ^ k = 2 ^ (8 * k) from by rw [Nat.pow_mul]];rw [Int.natCast_ediv, Int.natCast_pow]; rfl
def Ww (n j : Nat) : FS := mk [(4, .pv (.i .i64 (8 * (j : Int) - 8))), (3, .os 25), (0, .pv (.i .u64 n))] [(25, some (.row 1 (Ac (Bq (n / 256 ^ j)))))]
set_option maxHeartbeats 2000000 in
theorem Rz (n : Nat) (hn : n < 18446744073709551616) {h d} : FunOk Try.prog 38 [.pv (.i .u64 n)] h d (.os d) [.new d (.row 1 (Ac (Bq n)))] := by
 refine Nq An fn38 (by simp) rfl (.inl rfl) fun F => ?_;simp (disch := omega) only [ir38, go_sem];refine A7 An (Ww n) (fun j => j ≤ 8) (fun j => j) 8 (by omega) (C0 6 25 (by decide) rfl (Ar ?_ ?_)) fun j hj => ?_
 · simp (disch := omega) only [go_sem]
 · have e : Bq (n / 256 ^ 8) = [] := by rw [Nat.div_eq_of_lt (by omega), G2]
   simp (disch := omega) only [e, go_sem];rfl
 by_cases hlt : 1 ≤ j
 · obtain ⟨k, rfl⟩ : ∃ k, j = k + 1 := ⟨j - 1, by omega⟩
   have es : (8 * ((k + 1 : Nat) : Int) - 8) = ((8 * k : Nat) : Int) := by omega
   have ed := Amm n k (by omega);have em : (n / 256 ^ (k + 1)) = n / 256 ^ k / 256 := by rw [Nat.pow_succ, Nat.div_div_eq_div_mul]
   obtain ⟨q, hq⟩ : ∃ q, q = n / 256 ^ k := ⟨_, rfl⟩
   rw [← hq] at ed em;have hc : IntKind.u8.wrap (q : Int) = ((UInt8.ofNat (q % 256)).toNat : Int) := by
    rw [Mw, UInt8.toNat_ofNat', show q % 256 % 2 ^ 8 = q % 256 from Nat.mod_eq_of_lt (by omega)]
   have hct : (UInt8.ofNat (q % 256)).toNat = q % 256 := by rw [UInt8.toNat_ofNat']; exact Nat.mod_eq_of_lt (by omega)
   have hlen := Va (n := q / 256);have hl8 := D7 8 (q / 256) (by
    have h1 : q ≤ n := by rw [hq]; exact Nat.div_le_self _ _
    omega)
   by_cases hq0 : q = 0
   · have e0 : (Bq (q / 256)) = [] := by rw [hq0]; exact G2
     have e1 : IntKind.u8.wrap (q : Int) = 0 := by rw [hq0]; rfl
     simp (disch := omega) only [Ww, es, ed, em, e0, e1, List.length_nil, Aq, go_sem];refine Az k _ _ rfl (by omega) (by omega) ?_ ?_
     · simp (disch := omega) only [go_sem]
     · simp (disch := omega) only [go_sem];rw [← hq, hq0, G2]; try rfl
   · have hnb : Bq q = Bq (q / 256) ++ [UInt8.ofNat (q % 256)] := Ia hq0;by_cases hc0 : q % 256 = 0
     · have h256 : q / 256 ≠ 0 := by omega
       have hlp := hlen.2 h256;have hz : IntKind.u8.wrap (q : Int) = 0 := by rw [Mw, hc0]; rfl
       simp (disch := omega) only [Ww, es, ed, em, hz, Aq, go_sem];refine Az k _ _ rfl (by omega) (by omega) ?_ ?_
       · simp (disch := omega) only [go_sem]
       · simp (disch := omega) only [go_sem];rw [← hq, hnb, hc0]; simp [Ac]
     · simp (disch := omega) only [Ww, es, ed, em, hc, hct, Aq, go_sem];refine Az k _ _ rfl (by omega) (by omega) ?_ ?_
       · simp (disch := omega) only [go_sem]
       · simp (disch := omega) only [go_sem];rw [← hq, hnb]; simp [Ac, hct]
 · obtain rfl : j = 0 := by omega
   simp (disch := omega) only [Ww, Nat.pow_zero, Nat.div_one, go_sem]
theorem Adj (l : List UInt8) (i : Nat) (h : i < l.length) : E2 (l.take (i + 1)) = E2 (l.take i) * 256 + (l.getD i 0).toNat := by
 rw [List.take_add_one, List.getElem?_eq_getElem h, Option.toList_some, K6, List.getD_eq_getElem?_getD, List.getElem?_eq_getElem h]; rfl
theorem Uq (l : List UInt8) (i : Nat) (h : i < 8) : E2 (l.take i) < 72057594037927936 := by
 have h1 := Abp (l.take i);have h2 : 256 ^ (l.take i).length ≤ 256 ^ 7 := Nat.pow_le_pow_right (by omega) (by simp; omega);omega
theorem Ae2 {l : List UInt8} (h : 0 < l.length) : (l.getD 0 0).toNat = 0 ↔ l.head? = some 0 := by
 cases l with
 | nil => simp at h
 | cons c l =>
   simp only [List.getD_cons_zero, List.head?_cons, Option.some.injEq];exact ⟨fun e => UInt8.toNat_inj.1 (by simpa using e), fun e => by rw [e]; rfl⟩
def Mz (full : Bool) (z : Nat) (l : List UInt8) (i : Nat) : FS := mk [(23, .pv (.i .i64 i)), (22, .pv (.i .i64 l.length)), (21, .pv (.sl full z (Ac l))), (4, .pv (.i .u64 (E2 (l.take i))))] []
set_option maxHeartbeats 1000000 in
theorem Qh {a : SV} {l : List UInt8} {full : Bool} {z : Nat} (hl : l.length < 4611686018427387904) {h} {d} (ha : Bh [a] = true) (he : G4 h a = .pv (.sl full z (Ac l))) (hz : l = [] ∨ z = 1) :
 FunOk Try.prog 56 [a] h d (.tup [.pv (.i .u64 (Cj l).1), .pv (.i .i64 (Cj l).2)]) [] := by
 refine Fo An fn56 (by simp) ha rfl fun F => ?_;by_cases h8 : 8 < l.length
 · have e : Cj l = (0, 4) := by unfold Cj; rw [if_pos h8]
   simp (disch := omega) only [ir56, he, e, go_sem]
 by_cases h0 : l.length = 0
 · obtain rfl : l = [] := List.eq_nil_of_length_eq_zero h0;have e : Cj [] = (0, 0) := rfl;simp (disch := omega) only [ir56, he, e, List.length_nil, go_sem];refine A7 An (Mz full z []) (fun j => j ≤ 0) (fun j => 0 - j) 0 (by omega) (Ar ?_ ?_) fun j hj => ?_
   · simp (disch := omega) only [List.take_nil, E2, List.foldl_nil, List.length_nil, go_sem]
   · simp (disch := omega) only [go_sem]
   obtain rfl : j = 0 := by omega
   simp (disch := omega) only [Mz, List.take_nil, E2, List.foldl_nil, List.length_nil, go_sem]
 have hz1 : z = 1 := hz.resolve_left (fun e => by subst e; simp at h0);subst hz1;have hd := Ae2 (l := l) (by omega);by_cases hh : l.head? = some 0
 · have e : Cj l = (0, 7) := by unfold Cj; rw [if_neg h8, if_pos hh]
   have e1 := hd.2 hh;simp (disch := omega) only [ir56, he, e, Bg, e1, go_sem]
 · have e : Cj l = (E2 l, 0) := by unfold Cj; rw [if_neg h8, if_neg hh]
   have e1 : ¬ (((l.getD 0 0).toNat : Nat) : Int) = 0 := fun e => hh (hd.1 (by omega));simp (disch := omega) only [ir56, he, e, Bg, e1, go_sem];refine A7 An (Mz full 1 l) (fun j => j ≤ l.length) (fun j => l.length - j) 0 (by omega) (Ar ?_ ?_) fun j hj => ?_
   · simp (disch := omega) only [List.take_zero, E2, List.foldl_nil, go_sem]
   · simp (disch := omega) only [go_sem]
   by_cases hlt : j < l.length
   · have e2 := Adj l j hlt;have e3 := Uq l j (by omega);have e4 := (l.getD j 0).toNat_lt;have e5 := Amn _ _ e3 (by omega : (l.getD j 0).toNat < 256);have e6 : ((2 : Int) ^ min (Int.toNat 8) 64) = 256 := rfl;have e7 : IntKind.u64.wrap (((l.getD j 0).toNat : Nat) : Int) = ((l.getD j 0).toNat : Int) := Jz (by omega);rw [← e2] at e5;simp (disch := omega) only [Mz, Bg, e6, e7, e5, go_sem];refine Az (j + 1) _ _ rfl (by omega) (by omega) ?_ ?_
     · simp (disch := omega) only [go_sem]
     · simp (disch := omega) only [go_sem]
   · obtain rfl : j = l.length := by omega
     simp (disch := omega) only [Mz, List.take_length, go_sem]
theorem Xt (n : Nat) (hn : n < 4294967296) {h d} : FunOk Try.prog 37 [.pv (.i .u32 n)] h d (.os d) [.new d (.row 1 (Ac (C3 n)))] := by
 refine Nq An fn37 (by simp) rfl (.inl rfl) fun F => ?_;have e5 := D7 8 n (by omega);have e6 : IntKind.u8.wrap (((Bq n).length : Nat) : Int) = ((UInt8.ofNat (Bq n).length).toNat : Int) := Ei _;have e7 : [[PV.i .u8 ((UInt8.ofNat (Bq n).length).toNat : Int)]] ++ Ac (Bq n) = Ac (C3 n) := rfl;simp (disch := omega) only [ir37, go_sem];refine Aa (Rz n (by omega)) ?_;simp (disch := omega) only [Aq, e6, go_sem];rfl
def Azd (es : List (List PV)) (L : List (List UInt8)) : Prop := es.length = L.length ∧ ∀ k, k < L.length → ∃ f z, es[k]? = some [.sl f z (Ac (L.getD k []))] ∧ (L.getD k [] = [] ∨ z = 1)
def bE (b : List UInt8) : List PV := [.sl false 1 (Ac b)]
theorem Sw (L : List (List UInt8)) : Azd (L.map bE) L := ⟨by simp, fun k hk => ⟨false, 1, by simp [bE, hk], .inr rfl⟩⟩
theorem Ih {f z es} (K : KK) : LoadK (some [.sl f z es]) 0 1 false K = K (.pv (.sl f z es)) [] := by
 simp only [LoadK, Ja, eq_iff_iff];exact ⟨fun h => h.2.2, fun h => ⟨by simp, .inr trivial, h⟩⟩
theorem Ap9 {b : List UInt8} {z : Nat} (h : b = [] ∨ z = 1) : (Ac b = [] ∨ z = 1) = True := eq_true (h.imp (fun e => by rw [e]; rfl) id)
theorem Z7 {L : List (List UInt8)} {k : Nat} (h : k < L.length) : D6 (L.take (k + 1)) = D6 (L.take k) ++ Eg (L.getD k []) := by
 rw [List.take_add_one, List.getElem?_eq_getElem h, Option.toList_some, Tu, List.getD_eq_getElem?_getD, List.getElem?_eq_getElem h];simp [D6]
theorem Ag5 (n c : Nat) (hn : n < 65536) (hc : c < 256) : bits .or .i64 ((n : Int) * 256) (c : Int) = ((n * 256 + c : Nat) : Int) := by
 have h : n * 256 ||| c < 2 ^ 32 := Nat.or_lt_two_pow (by omega) (by omega);rw [show (n : Int) * 256 = ((256 * n : Nat) : Int) from by omega];show IntKind.i64.wrap ((BitVec.ofInt 64 ((256 * n : Nat) : Int) ||| BitVec.ofInt 64 (c : Int)).toNat : Int) = _;rw [BitVec.toNat_or, Qj _ (by omega), Qj c (by omega)];have := Nat.two_pow_add_eq_or_of_lt (i := 8) (b := c) (by omega) n;rw [show (2 : Nat) ^ 8 = 256 from rfl] at this;rw [← this, C4 (by omega)]; omega
theorem Am7 {x : SV} {f : Bool} {l : List UInt8} {h d} (hx : Dg h [x] = [.pv (.sl f 1 (Ac l))]) (hl : Bh [x] = true) (hne : l ≠ []) (hn : l.length ≤ 400000) :
 FunOk Try.prog 55 [x] h d (.tup [.pv (.i .i64 (Bs l).1), .pv (.i .i64 (Bs l).2.1), .pv (.i .i64 (Bs l).2.2)]) [] := by
 refine Fo An fn55 (by simp) hl rfl fun F => ?_;rw [hx];have hpos : 0 < l.length := List.length_pos_iff.2 hne;by_cases h1 : (l.getD 0 0).toNat < 255
 · have e : Bs l = ((l.getD 0 0).toNat, 1, 0) := by unfold Bs; rw [if_pos h1]
   have h1' : (((l.getD 0 0).toNat : Nat) : Int) < 255 := by omega
   have e2 : IntKind.i64.wrap (((l.getD 0 0).toNat : Nat) : Int) = ((l.getD 0 0).toNat : Int) := C4 (by omega);simp (disch := omega) only [ir55, Bg, h1', e, e2, go_sem];rfl
 · have h1' : ¬ (((l.getD 0 0).toNat : Nat) : Int) < 255 := by omega
   by_cases h2 : l.length < 3
   · have e : Bs l = (0, 0, 8) := by unfold Bs; rw [if_neg h1, if_pos h2]
     simp (disch := omega) only [ir55, Bg, h1', e, go_sem]
   · have t1 : Int.toNat 1 = 1 := rfl;have t2 : Int.toNat 2 = 2 := rfl;have b1 := (l.getD 1 0).toNat_lt;have b2 := (l.getD 2 0).toNat_lt;have w1 : IntKind.i64.wrap (((l.getD 1 0).toNat : Nat) : Int) = ((l.getD 1 0).toNat : Int) := C4 (by omega);have w2 : IntKind.i64.wrap (((l.getD 2 0).toNat : Nat) : Int) = ((l.getD 2 0).toNat : Int) := C4 (by omega);have e6 : ((2 : Int) ^ min (Int.toNat 8) 64) = 256 := rfl;have w3 : IntKind.i64.wrap (((l.getD 1 0).toNat : Int) * 256) = ((l.getD 1 0).toNat : Int) * 256 := C4 (by omega);have hor : bits .or .i64 (((l.getD 1 0).toNat : Int) * 256) ((l.getD 2 0).toNat : Int) = (((l.getD 1 0).toNat * 256 + (l.getD 2 0).toNat : Nat) : Int) := Ag5 _ _ (by omega) (by omega);by_cases h3 : (l.getD 1 0).toNat * 256 + (l.getD 2 0).toNat < 255
     · have e : Bs l = (0, 0, 7) := by unfold Bs; rw [if_neg h1, if_neg h2, if_pos h3]
       have h3' : (((l.getD 1 0).toNat * 256 + (l.getD 2 0).toNat : Nat) : Int) < 255 := by omega
       simp (disch := omega) only [ir55, Bg, h1', e, t1, t2, w1, w2, e6, w3, hor, h3', go_sem]
     · have e : Bs l = ((l.getD 1 0).toNat * 256 + (l.getD 2 0).toNat, 3, 0) := by unfold Bs; rw [if_neg h1, if_neg h2, if_neg h3]
       have h3' : ¬ (((l.getD 1 0).toNat * 256 + (l.getD 2 0).toNat : Nat) : Int) < 255 := by omega
       simp (disch := omega) only [ir55, Bg, h1', e, t1, t2, w1, w2, e6, w3, hor, h3', go_sem];rfl
theorem Ah6 {f : Bool} {z : Nat} {l : List UInt8} {h d} (hz : l = [] ∨ z = 1) (hn : l.length ≤ 400000) :
 FunOk Try.prog 41 [.pv (.sl f z (Ac l))] h d (.fn (.func 54) [.pi 1 [[.sl false 1 (Ac l)]] 0 0]) [] := by
 refine Li An fn41 (by simp) rfl rfl fun F => ?_;have hz' := Ap9 hz;simp (disch := omega) only [ir41, hz', Aq, go_sem];refine ⟨_, J0 6 rfl (Abo 3 (x := .pv (.sl false 1 (Ac l))) (cs := [.sl false 1 (Ac l)]) rfl rfl (.same _)), ?_⟩
 (try simp only [E0, Ez, Ey, Ew, Ev, Eu, Et, Er]); simp (disch := omega) only [go_sem]
def Aqx (l : Nat) (most : Int) (r : List UInt8) (o : List (List UInt8)) : FS := mk [(3, .pv (.sl false 1 (Ac r))), (0, .fn (.yield l) []), (1000000, .pv (.i .i64 0)), (1000004, .p 3 0), (1000005, .p 4 0), (1000006, .p 5 0), (1000007, .p 6 0)]
 [(3, some (.var (.pv (.i .i64 most)))), (4, some (.var (.pv (.sl true 0 [])))), (5, some (.var (.pv (.i .i64 0)))), (6, some (.var (.os 50))), (50, some (.row 1 (o.map bE)))]
theorem Ajg (l : List UInt8) : (Bs l).1 < 65536 ∧ (Bs l).2.1 ≤ 3 ∧ 0 ≤ (Bs l).2.2 ∧ (Bs l).2.2 ≤ 8 := by
 have b0 := (l.getD 0 0).toNat_lt;have b1 := (l.getD 1 0).toNat_lt;have b2 := (l.getD 2 0).toNat_lt;unfold Bs;split
 · simp only; omega
 · split
   · simp
   · split
     · simp
     · simp only; omega
theorem Z4 : ∀ p ∈ [11, 12], p < Ft := by
 intro p hp;have : Ft = 1000000 := rfl;simp at hp; omega
set_option maxHeartbeats 4000000 in
theorem Ng {f : Bool} {z : Nat} {b : List UInt8} {most : Int} {h d} (hz : b = [] ∨ z = 1) (hn : b.length ≤ 300000) :
 FunOk Try.prog 28 [.pv (.sl f z (Ac b)), .pv (.i .i64 most)] h d (.tup [.os d, .pv (.i .i64 (B0 b [] most).2)]) [.new d (.row 1 ((B0 b [] most).1.map bE))] := by
 refine Afd An fn28 (by simp) rfl (.inl rfl) rfl fun F => ?_;simp (disch := omega) only [ir28, go_sem];refine Aa (Ah6 hz (by omega)) ?_;simp (disch := omega) only [go_sem];refine Rn An fn54 (by simp) fun l XI hc => ?_;rw [Ks _ _ _ (by show 2 ≤ 1000000; omega)];simp (disch := omega) only [ir54, Ih, List.getElem?_cons_zero, go_sem];refine A7 An (fun x : List UInt8 × List (List UInt8) => Aqx l most x.1 x.2) (fun x => B0 b [] most = B0 x.1 x.2 most ∧ x.2.length + x.1.length ≤ 300000) (fun x => x.1.length) (b, []) ⟨rfl, by simpa using hn⟩ (Alw 6 50 1 rfl (by decide) (by decide) (Ar ?_ ?_)) fun x hx => ?_
 · (try simp only [E0, Ez, Ey, Ew, Ev, Eu, Et, Er]); simp (disch := omega) only [go_sem]
 · (try simp only [E0, Ez, Ey, Ew, Ev, Eu, Et, Er]); simp (disch := omega) only [go_sem]
   rfl
 obtain ⟨r, o⟩ := x;obtain ⟨hu, hlen⟩ := hx;dsimp only at hu hlen ⊢;rw [hu];by_cases hr : r = []
 · subst hr;rw [Pd]
   (try simp only [E0, Ez, Ey, Ew, Ev, Eu, Et, Er]); simp (disch := omega) only [Aqx, Aq, List.length_nil, go_sem]
 have hrp : 0 < r.length := List.length_pos_iff.2 hr;have hle := Ajg r;have her : Nv r = if (Bs r).2.2 = 0 then if r.length < (Bs r).2.1 + (Bs r).1 then 8 else 0 else (Bs r).2.2 := rfl
 have hfl : Yh r = (r.drop (Bs r).2.1).take (Bs r).1 := rfl;have hrs : W5 r = r.drop ((Bs r).2.1 + (Bs r).1) := rfl;simp (disch := omega) only [Aqx, Aq, go_sem];refine Aa (Am7 (f := false) (l := r) rfl rfl hr (by omega)) ?_;have hlt := fun h => Abz hr h;rcases hh : Bs r with ⟨n, fr, e⟩
 rw [hh] at hle her hfl hrs;simp only at hle her hfl hrs;have bad : Nv r ≠ 0 → B0 r o most = ([], Nv r) := fun h => Wl hr h;by_cases he0 : e = 0
 · subst he0;rw [if_pos rfl] at her;by_cases hcut : r.length < fr + n
   · rw [if_pos hcut] at her;rw [bad (by rw [her]; decide), her]
     (try simp only [E0, Ez, Ey, Ew, Ev, Eu, Et, Er]); simp (disch := omega) only [Aq, go_sem]
     refine Q0 An hc ?_ rfl fun XA XB => ?_
     · simp (disch := omega) only [go_sem]
     rw [Ka _ _ _ _ Z4];simp (disch := omega) only [go_sem];exact .inr ⟨0, rfl, rfl, by decide⟩
   · rw [if_neg hcut] at her;have hgo := hlt her;have hfe : (r.take (fr + n)).drop fr = Yh r := by rw [hfl, List.drop_take]; congr 1; omega
     have e3 : ((fr : Int) + (n : Int)).toNat = fr + n := by omega
     have hfll : (Yh r).length ≤ 70000 := by rw [hfl, List.length_take]; omega
     (try simp only [E0, Ez, Ey, Ew, Ev, Eu, Et, Er]); simp (disch := omega) only [Aq, e3, hfe, go_sem]
     refine Q0 An hc ?_ rfl fun XA XB => ?_
     · simp (disch := omega) only [go_sem]
     rw [Ka _ _ _ _ Z4];by_cases hfull : most ≤ o.length
     · rw [Ur hr her hfull]
       (try simp only [E0, Ez, Ey, Ew, Ev, Eu, Et, Er]); simp (maxSteps := 10000000) (disch := omega) only [List.length_map, go_sem]
       exact .inr ⟨0, rfl, rfl, by decide⟩
     · rw [Q5 hr her hfull];simp (disch := omega) only [List.length_map, go_sem];refine ⟨(W5 r, o ++ [Yh r]), ⟨rfl, by simp only [List.length_append, List.length_singleton]; omega⟩, hgo, C0 23 50 (by decide) rfl (Ar ?_ ?_)⟩
       · (try simp only [E0, Ez, Ey, Ew, Ev, Eu, Et, Er]); simp (disch := omega) only [e3, ← hrs, go_sem]
       · (try simp only [E0, Ez, Ey, Ew, Ev, Eu, Et, Er]); simp (disch := omega) only [List.map_append, List.map_cons, List.map_nil, bE, go_sem]
 · rw [if_neg he0] at her;rw [bad (by rw [her]; exact he0), her]
   (try simp only [E0, Ez, Ey, Ew, Ev, Eu, Et, Er]); simp (disch := omega) only [Aq, go_sem]
   refine Q0 An hc ?_ rfl fun XA XB => ?_
   · simp (disch := omega) only [go_sem]
   rw [Ka _ _ _ _ Z4];simp (disch := omega) only [go_sem];exact .inr ⟨0, rfl, rfl, by decide⟩
theorem Wj (n : Nat) : IntKind.u8.wrap (((n / 256 : Nat) : Int)) = (((UInt8.ofNat (n / 256)).toNat : Nat) : Int) := Ei _
def Uv (f : Bool) (z : Nat) (es : List (List PV)) (L : List (List UInt8)) (k : Nat) : FS := mk [(11, .pv (.i .i64 k)), (10, .pv (.i .i64 L.length)), (9, .pv (.sl f z es)), (4, .os 50)] [(50, some (.row 1 (Ac (D6 (L.take k)))))]
def Bo : List (List UInt8) → Nat
 | [] => 0
 | f :: l => f.length + 3 + Bo l
theorem Fl : ∀ L : List (List UInt8), (D6 L).length ≤ Bo L
 | [] => Nat.le_refl _
 | f :: l => by
   have := Fl l;simp only [D6, Bo, List.length_append, Sm];split <;> omega
theorem Nd : ∀ (L : List (List UInt8)) (k : Nat), Bo (L.take k) ≤ Bo L
 | [], k => by simp [Bo]
 | f :: l, 0 => by simp [Bo]
 | f :: l, k + 1 => by
   have := Nd l k;simp only [List.take_succ_cons, Bo]; omega
theorem Pm : ∀ {L : List (List UInt8)} {k : Nat}, k < L.length → (L.getD k []).length + 3 ≤ Bo L
 | f :: l, 0, _ => by simp only [Bo, List.getD_cons_zero]; omega
 | f :: l, k + 1, h => by
   have := Pm (L := l) (k := k) (by simpa using h);simp only [Bo, List.getD_cons_succ]; omega
 | [], k, h => by simp at h
set_option maxHeartbeats 4000000 in
theorem Z9 {x : SV} {f : Bool} {z : Nat} {es : List (List PV)} {L : List (List UInt8)} {h d} (hx : Dg h [x] = [.pv (.sl f z es)]) (hl : Bh [x] = true) (he : Azd es L) (hz : L = [] ∨ z = 1) (hb : Bo L ≤ 300000) (hall : ∀ b ∈ L, b.length ≤ 65535) :
 FunOk Try.prog 27 [x] h d (.tup [.os d, .pv (.i .i64 0)]) [.new d (.row 1 (Ac (D6 L)))] := by
 refine Si An fn27 (by simp) hl (.inr (G5 _)) rfl fun F => ?_;rw [hx];have hel := he.1;have hLn : L.length ≤ 300000 := by
  have : ∀ L : List (List UInt8), L.length ≤ Bo L := fun L => by
   induction L with
   | nil => simp
   | cons f l ih => simp only [Bo, List.length_cons]; omega
  exact Nat.le_trans (this L) hb
 simp (disch := omega) only [ir27, hel, go_sem];refine A7 An (Uv f z es L) (fun k => k ≤ L.length) (fun k => L.length - k) 0 (by simp) (C0 8 50 (by decide) rfl (Ar ?_ ?_)) fun k hk => ?_
 · simp (disch := omega) only [go_sem]
 · simp (disch := omega) only [go_sem];rfl
 by_cases hlt : k < L.length
 · have hz1 : z = 1 := hz.resolve_left fun e => by subst e; simp at hlt
   subst hz1;obtain ⟨f', z', hek, hz'⟩ := he.2 k hlt;have hpt := Z7 hlt;have hbk : (L.getD k []).length ≤ 65535 := by
    rw [List.getD_eq_getElem?_getD, List.getElem?_eq_getElem hlt];exact hall _ (List.getElem_mem hlt)
   have hpl := Pm hlt;have hpk := Nat.le_trans (Fl (L.take k)) (Nd L k);generalize L.getD k [] = b at *;have hzz := Ap9 hz';have hwn : IntKind.u8.wrap (b.length : Int) = (((UInt8.ofNat b.length).toNat : Nat) : Int) := Ei _;by_cases hs : b.length < 255
   · rw [V1 hs] at hpt;simp (disch := omega) only [Uv, hel, hek, Ih, Aq, hzz, hwn, List.length_append, go_sem];refine ⟨k + 1, by omega, by omega, C0 38 50 (by decide) rfl (Ar ?_ ?_)⟩
     · simp (disch := omega) only [go_sem]
     · simp (disch := omega) only [hpt, Ac, List.map_append, List.map_cons, List.map_nil, go_sem];simp
   · rw [Yl hs] at hpt;have e8 : ((2 : Int) ^ min (Int.toNat 8) 64) = 256 := rfl;have hsh : ((b.length : Int).fdiv 256) = ((b.length / 256 : Nat) : Int) := by
      rw [Int.fdiv_eq_ediv_of_nonneg _ (by omega)]; omega
     have hwh := Wj b.length;simp (disch := omega) only [Uv, hel, hek, Ih, Aq, hzz, e8, hsh, hwn, hwh, List.length_append, go_sem];refine ⟨k + 1, by omega, by omega, C0 38 50 (by decide) rfl (Ar ?_ ?_)⟩
     · simp (disch := omega) only [go_sem]
     · simp (disch := omega) only [hpt, Ac, List.map_append, List.map_cons, List.map_nil, go_sem];simp
 · obtain rfl : k = L.length := by omega
   have e := List.take_length (l := L);simp (disch := omega) only [Uv, e, go_sem]
theorem Qi (a : Nat) (h : a < 256) : (BitVec.ofInt 8 (a : Int)).toNat = a := by
 rw [BitVec.ofInt_natCast, BitVec.toNat_ofNat]; exact Nat.mod_eq_of_lt (by omega)
theorem Aa4 (a b : Nat) (ha : a < 256) (hb : b < 256) : bits .or .u8 a b = ((a ||| b : Nat) : Int) := by
 have h : a ||| b < 2 ^ 8 := Nat.or_lt_two_pow ha hb;show IntKind.u8.wrap ((BitVec.ofInt 8 (a : Int) ||| BitVec.ofInt 8 (b : Int)).toNat : Int) = _;rw [BitVec.toNat_or, Qi a ha, Qi b hb];exact Qa ⟨by omega, by omega⟩
theorem Pw (a b : Nat) (ha : a < 256) (hb : b < 256) : bits .and .u8 a b = ((a &&& b : Nat) : Int) := by
 have h : a &&& b < 2 ^ 8 := Nat.and_lt_two_pow a hb;show IntKind.u8.wrap ((BitVec.ofInt 8 (a : Int) &&& BitVec.ofInt 8 (b : Int)).toNat : Int) = _;rw [BitVec.toNat_and, Qi a ha, Qi b hb];exact Qa ⟨by omega, by omega⟩
theorem Aru {k : Nat} (hk : k < 8) : (1 : Int) * 2 ^ min k 8 = ((2 ^ k : Nat) : Int) := by
 rw [Nat.min_eq_left (by omega), Int.one_mul, Int.natCast_pow]; rfl
theorem Am0 {k : Nat} (hk : k < 8) : 2 ^ k < 256 := by
 have : 2 ^ (k + 1) ≤ 2 ^ 8 := Nat.pow_le_pow_right (by omega) (by omega);rw [Nat.pow_succ] at this; omega
theorem Ahv {m k : Nat} (hk : k < 8) (hm : m < 2 ^ k) : bits .or .u8 (m : Int) (IntKind.u8.wrap (1 * 2 ^ min k 8)) = ((m + 2 ^ k : Nat) : Int) := by
 have h1 := Am0 hk;rw [Aru hk, Qa (by omega), Aa4 _ _ (by omega) (by omega)];have := Nat.two_pow_add_eq_or_of_lt hm 1;rw [Nat.mul_one] at this;rw [Nat.or_comm, ← this, Nat.add_comm]
theorem Yw {m i : Nat} (hm : m < 256) (hi : i < 8) : bits .and .u8 (((m : Int)).fdiv (2 ^ min i 8)) 1 = ((m / 2 ^ i % 2 : Nat) : Int) := by
 rw [Nat.min_eq_left (by omega), Int.fdiv_eq_ediv_of_nonneg _ (by exact Int.le_of_lt (Int.pow_pos (by omega)))];have e : (m : Int) / 2 ^ i = ((m / 2 ^ i : Nat) : Int) := by rw [Int.natCast_ediv, Int.natCast_pow]; rfl
 have h2 : m / 2 ^ i < 256 := Nat.lt_of_le_of_lt (Nat.div_le_self _ _) hm;rw [e, show (1 : Int) = ((1 : Nat) : Int) from rfl, Pw _ _ h2 (by omega), show (1 : Nat) = 2 ^ 1 - 1 from rfl, Nat.and_two_pow_sub_one_eq_mod]
theorem Atn {x y : Nat} (hx : x < 4294967296) (hy : y < 4294967296) : (dA x y).length ≤ 5 := by
 unfold dA;split
 · exact Hq (by omega)
 · split
   · exact Hq (by omega)
   · simp
def J5 (v base : Vc) (k : Nat) : FS := mk [(11, .pv (.i .i64 k)), (10, .vec 8 (vE v)), (7, .os 32), (6, .pv (.i .u8 (Bf (Cz v base) k))), (5, .pv (.i .u8 (Bf (C7 v base) k))), (3, .p 3 0)] [(3, some (.var (.vec 8 (vE base)))), (32, some (.row 1 (Ac (Sv v base k))))]
set_option maxHeartbeats 4000000 in
theorem Rw (v base : Vc) (hv : ∀ i, i < 8 → v i < 4294967296) (hb : ∀ i, i < 8 → base i < 4294967296) {h d} : FunOk Try.prog 25 [.vec 8 (vE v), .vec 8 (vE base)] h d (.os d) [.new d (.row 1 (Ac (A4 v base)))] := by
 refine Nq An fn25 (by simp) rfl (.inl rfl) fun F => ?_;simp (disch := omega) only [ir25, go_sem];refine A7 An (J5 v base) (fun k => k ≤ 8) (fun k => 8 - k) 0 (by simp) (Zh 7 32 1 rfl (by omega) (Ar ?_ ?_)) fun k hk => ?_
 · simp (disch := omega) only [Bf, go_sem]
 · simp (disch := omega) only [Sv, go_sem];rfl
 have hl := Kw v base hv hb k hk;by_cases hlt : k < 8
 · have h1 := hv k hlt;have h2 := hb k hlt;have hd := Atn h1 h2;have m1 := Gt (C7 v base) k;have m2 := Gt (Cz v base) k;have o1 := Ahv hlt m1;have o2 := Ahv hlt m2;have hby : Sv v base (k + 1) = Sv v base k ++ dA (v k) (base k) := rfl;have hm1 : Bf (C7 v base) (k + 1) = if C7 v base k = true then Bf (C7 v base) k + 2 ^ k else Bf (C7 v base) k := rfl
   have hm2 : Bf (Cz v base) (k + 1) = if Cz v base k = true then Bf (Cz v base) k + 2 ^ k else Bf (Cz v base) k := rfl
   rcases Nat.lt_trichotomy (v k) (base k) with hc | hc | hc
   · have p1 : C7 v base k = false := by simp [C7]; omega
     have p2 : Cz v base k = true := by simp [Cz, hc]
     have p3 : dA (v k) (base k) = C3 (base k - v k) := by unfold dA; rw [if_neg (by omega), if_pos hc]
     have e : ((base k : Int) - (v k : Int)) = ((base k - v k : Nat) : Int) := by omega
     rw [p1] at hm1; rw [p2] at hm2; rw [p3] at hby hd;simp only [Bool.false_eq_true, if_false] at hm1;simp only [if_true] at hm2;simp (disch := omega) only [J5, o2, e, go_sem];refine Aa (Xt _ (by omega)) ?_;simp (disch := omega) only [Aq, Su, go_sem];refine ⟨k + 1, by omega, by omega, C0 50 32 (by decide) rfl (Ar ?_ ?_)⟩
     · simp (disch := omega) only [hm1, hm2, go_sem]
     · simp (disch := omega) only [hby, go_sem]
   · have p1 : C7 v base k = false := by simp [C7]; omega
     have p2 : Cz v base k = false := by simp [Cz]; omega
     have p3 : dA (v k) (base k) = [] := by unfold dA; rw [if_neg (by omega), if_neg (by omega)]
     rw [p1] at hm1; rw [p2] at hm2; rw [p3, List.append_nil] at hby;simp only [Bool.false_eq_true, if_false] at hm1 hm2;simp (disch := omega) only [J5, go_sem];refine Az (k + 1) _ _ rfl (by omega) (by omega) ?_ ?_
     · simp (disch := omega) only [hm1, hm2, go_sem]
     · simp (disch := omega) only [hby, go_sem]
   · have p1 : C7 v base k = true := by simp [C7, hc]
     have p2 : Cz v base k = false := by simp [Cz]; omega
     have p3 : dA (v k) (base k) = C3 (v k - base k) := by unfold dA; rw [if_pos hc]
     have e : ((v k : Int) - (base k : Int)) = ((v k - base k : Nat) : Int) := by omega
     rw [p1] at hm1; rw [p2] at hm2; rw [p3] at hby hd;simp only [Bool.false_eq_true, if_false] at hm2;simp only [if_true] at hm1;simp (disch := omega) only [J5, o1, e, go_sem];refine Aa (Xt _ (by omega)) ?_;simp (disch := omega) only [Aq, Su, go_sem];refine Az (k + 1) _ _ rfl (by omega) (by omega) ?_ ?_
     · simp (disch := omega) only [hm1, hm2, go_sem]
     · simp (disch := omega) only [hby, go_sem]
 · obtain rfl : k = 8 := by omega
   simp (disch := omega) only [J5, go_sem];rw [← Aiq (C7 v base), ← Aiq (Cz v base)];rfl
theorem Ahe (a : Nat → Int) (k : Nat) (x : Int) : Te a k x = J8 a k x := rfl
theorem G7 : (fun _ => 0 : Nat → Int) = Tc := rfl
theorem Ahr (m s n i : Nat) (t : Nat → Int) (rest : List UInt8) (h : n < 8) : Dn m s (8 - n) i t rest = match Gy m s i rest with
 | .skip => Dn m s (8 - (n + 1)) (i + 1) t rest
 | .err e => (Tc, e)
 | .val x rest' => Dn m s (8 - (n + 1)) (i + 1) (Te t i x) rest' := by
 rw [show 8 - n = (8 - (n + 1)) + 1 from by omega]; rfl
def Hv (full : Bool) (m s : Nat) (x : Nat × (Nat → Int) × List UInt8) : FS := mk [(29, .pv (.i .i64 x.1)), (7, .pv (.sl full 1 (Ac x.2.2))), (6, .pv (.i .u8 s)), (5, .pv (.i .u8 m)), (4, .p 4 0), (2, .p 2 0)] [(4, some (.var (.vec 8 (iE x.2.1)))), (2, some (.var (.vec 8 (iE Tc))))]
set_option maxHeartbeats 8000000 in
theorem Ah0 {a : SV} {l : List UInt8} {full : Bool} {z : Nat} (hl : l.length < 4611686018427387904) {h} {d} (ha : Bh [a] = true) (he : G4 h a = .pv (.sl full z (Ac l))) (hz : l = [] ∨ z = 1) :
 FunOk Try.prog 42 [a] h d (.tup [.vec 8 (iE (Cc l).1), .pv (.i .i64 (Cc l).2)]) [] := by
 refine Fo An fn42 (by simp) ha rfl fun F => ?_;by_cases h2 : l.length < 2
 · have e : Cc l = (Tc, 8) := by unfold Cc; rw [if_pos h2]
   simp (disch := omega) only [ir42, he, e, G7, go_sem]
 have hz1 : z = 1 := hz.resolve_left (fun e => by subst e; simp at h2);subst hz1;obtain ⟨m, hm⟩ : ∃ m, m = (l.getD 0 0).toNat := ⟨_, rfl⟩
 obtain ⟨s, hs⟩ : ∃ s, s = (l.getD 1 0).toNat := ⟨_, rfl⟩
 have hmb : m < 256 := by rw [hm]; exact UInt8.toNat_lt _
 have hsb : s < 256 := by rw [hs]; exact UInt8.toNat_lt _
 have hand := Pw m s hmb hsb;have h0 : (l.getD 0 0).toNat = m := hm.symm;have h1 : (l.getD 1 0).toNat = s := hs.symm;have t2 : (2 : Int).toNat = 2 := rfl;have t1 : (1 : Int).toNat = 1 := rfl;by_cases hms : m &&& s = 0
 · have e : Cc l = Dn m s (8 - 0) 0 Tc (l.drop 2) := by unfold Cc; rw [if_neg h2, h0, h1, if_neg (by simp [hms])]
   have ez : ((m &&& s : Nat) : Int) = 0 := by rw [hms]; rfl
   simp (disch := omega) only [ir42, he, go_sem];refine Ac9 ?_;simp (disch := omega) only [Bg, h0, h1, t1, t2, hand, ez, go_sem];refine A7 An (Hv full m s) (fun x => x.1 ≤ 8 ∧ Cc l = Dn m s (8 - x.1) x.1 x.2.1 x.2.2 ∧ x.2.2.length ≤ l.length) (fun x => 8 - x.1) (0, Tc, l.drop 2) ⟨by omega, e, by simp⟩ (Ar ?_ ?_) fun x hx => ?_
   · (try simp only [E0, Ez, Ey, Ew, Ev, Eu, Et, Er]); simp (disch := omega) only [Fd, go_sem]
   · (try simp only [E0, Ez, Ey, Ew, Ev, Eu, Et, Er]); simp (disch := omega) only [G7, go_sem]
   obtain ⟨i, t, rest⟩ := x;obtain ⟨hi, hr, hrl⟩ := hx;simp only at hi hr hrl;by_cases hlt : i < 8
   · rw [Ahr m s i i t rest hlt] at hr;have b1 := Yw hsb hlt;have b2 := Yw hmb hlt;by_cases k1 : s / 2 ^ i % 2 = 1
     · have k1' : ((s / 2 ^ i % 2 : Nat) : Int) = 1 := by omega
       have ho : Gy m s i rest = Gh (-1) rest := by unfold Gy; rw [if_pos k1]
       rw [ho] at hr;obtain ⟨r0, hr0⟩ : ∃ r0, r0 = (rest.getD 0 0).toNat := ⟨_, rfl⟩
       have hr0b : r0 < 256 := by rw [hr0]; exact UInt8.toNat_lt _
       have hr0' : (rest.getD 0 0).toNat = r0 := hr0.symm;have w8 : IntKind.i64.wrap (r0 : Int) = (r0 : Int) := C4 (by omega);by_cases c1 : rest.length = 0 ∨ rest.length - 1 < r0
       · have hn : Gh (-1) rest = .err 8 := by unfold Gh; rw [hr0', if_pos c1]
         rw [hn] at hr;by_cases c0 : rest.length = 0
         · simp (disch := omega) only [Hv, b1, k1', hr, G7, go_sem]
         · have c2 : (rest.length : Int) - 1 < (r0 : Int) := by omega
           simp (disch := omega) only [Hv, b1, k1', Bg, hr0', w8, hr, G7, go_sem]
       · have c0 : ¬ rest.length = 0 := fun h => c1 (.inl h);have c2 : ¬ (rest.length : Int) - 1 < (r0 : Int) := by omega
         have e1 : (1 + (r0 : Int)) = ((1 + r0 : Nat) : Int) := by omega
         have hlen3 : (((rest.take (1 + r0)).drop 1)).length < 4611686018427387904 := by simp; omega
         obtain ⟨q, hq⟩ : ∃ q, q = Cj ((rest.take (1 + r0)).drop 1) := ⟨_, rfl⟩
         have hqlt : q.1 < 18446744073709551616 := by rw [hq]; exact Yy _
         have hn : Gh (-1) rest = if q.2 ≠ 0 ∨ q.1 = 0 ∨ 4294967295 < q.1 then .err 7 else .val ((-1) * (q.1 : Int)) (rest.drop (1 + r0)) := by unfold Gh; rw [hr0', if_neg c1, ← hq]
         rw [hn] at hr;simp (disch := omega) only [Hv, b1, k1', Bg, hr0', w8, e1, t1, N1, Fd, go_sem];refine Aa (Qh (l := (rest.take (1 + r0)).drop 1) (full := false) (z := 1) hlen3 rfl rfl (.inr rfl)) ?_;rw [← hq];by_cases d1 : q.2 = 0
         · by_cases d2 : q.1 = 0
           · rw [if_pos (.inr (.inl d2))] at hr;have d2' : ((q.1 : Nat) : Int) = 0 := by omega
             simp (disch := omega) only [d1, d2', hr, G7, go_sem]
           · by_cases d3 : 4294967295 < q.1
             · rw [if_pos (.inr (.inr d3))] at hr;simp (disch := omega) only [d1, hr, G7, go_sem]
             · rw [if_neg (by omega)] at hr;simp (disch := omega) only [d1, Bg, hr0', w8, e1, t1, Fd, go_sem];refine ⟨(i + 1, Te t i ((-1) * (q.1 : Int)), rest.drop (1 + r0)), ⟨by simp; omega, hr, by simp; omega⟩, by simp; omega, Ar ?_ ?_⟩
               · (try simp only [E0, Ez, Ey, Ew, Ev, Eu, Et, Er]); simp (disch := omega) only [go_sem]
               · (try simp only [E0, Ez, Ey, Ew, Ev, Eu, Et, Er]); simp (disch := omega) only [Ahe, go_sem]
         · rw [if_pos (.inl d1)] at hr;simp (disch := omega) only [d1, hr, G7, go_sem]
     · have k1' : ¬ ((s / 2 ^ i % 2 : Nat) : Int) = 1 := by omega
       by_cases k2 : m / 2 ^ i % 2 = 0
       · have k2' : ((m / 2 ^ i % 2 : Nat) : Int) = 0 := by omega
         have ho : Gy m s i rest = .skip := by unfold Gy; rw [if_neg k1, if_pos k2]
         rw [ho] at hr;simp (disch := omega) only [Hv, b1, b2, k1', k2', go_sem];refine ⟨(i + 1, t, rest), ⟨by simp; omega, hr, hrl⟩, by simp; omega, Ar ?_ ?_⟩
         · (try simp only [E0, Ez, Ey, Ew, Ev, Eu, Et, Er]); simp (disch := omega) only [go_sem]
         · (try simp only [E0, Ez, Ey, Ew, Ev, Eu, Et, Er]); simp (disch := omega) only [go_sem]
       · have k2' : ¬ ((m / 2 ^ i % 2 : Nat) : Int) = 0 := by omega
         have ho : Gy m s i rest = Gh 1 rest := by unfold Gy; rw [if_neg k1, if_neg k2]
         rw [ho] at hr;obtain ⟨r0, hr0⟩ : ∃ r0, r0 = (rest.getD 0 0).toNat := ⟨_, rfl⟩
         have hr0b : r0 < 256 := by rw [hr0]; exact UInt8.toNat_lt _
         have hr0' : (rest.getD 0 0).toNat = r0 := hr0.symm;have w8 : IntKind.i64.wrap (r0 : Int) = (r0 : Int) := C4 (by omega);by_cases c1 : rest.length = 0 ∨ rest.length - 1 < r0
         · have hn : Gh 1 rest = .err 8 := by unfold Gh; rw [hr0', if_pos c1]
           rw [hn] at hr;by_cases c0 : rest.length = 0
           · simp (disch := omega) only [Hv, b1, b2, k1', k2', hr, G7, go_sem]
           · have c2 : (rest.length : Int) - 1 < (r0 : Int) := by omega
             simp (disch := omega) only [Hv, b1, b2, k1', k2', Bg, hr0', w8, hr, G7, go_sem]
         · have c0 : ¬ rest.length = 0 := fun h => c1 (.inl h);have c2 : ¬ (rest.length : Int) - 1 < (r0 : Int) := by omega
           have e1 : (1 + (r0 : Int)) = ((1 + r0 : Nat) : Int) := by omega
           have hlen3 : (((rest.take (1 + r0)).drop 1)).length < 4611686018427387904 := by simp; omega
           obtain ⟨q, hq⟩ : ∃ q, q = Cj ((rest.take (1 + r0)).drop 1) := ⟨_, rfl⟩
           have hqlt : q.1 < 18446744073709551616 := by rw [hq]; exact Yy _
           have hn : Gh 1 rest = if q.2 ≠ 0 ∨ q.1 = 0 ∨ 4294967295 < q.1 then .err 7 else .val (1 * (q.1 : Int)) (rest.drop (1 + r0)) := by unfold Gh; rw [hr0', if_neg c1, ← hq]
           rw [hn] at hr;simp (disch := omega) only [Hv, b1, b2, k1', k2', Bg, hr0', w8, e1, t1, N1, Fd, go_sem];refine Aa (Qh (l := (rest.take (1 + r0)).drop 1) (full := false) (z := 1) hlen3 rfl rfl (.inr rfl)) ?_;rw [← hq];by_cases d1 : q.2 = 0
           · by_cases d2 : q.1 = 0
             · rw [if_pos (.inr (.inl d2))] at hr;have d2' : ((q.1 : Nat) : Int) = 0 := by omega
               simp (disch := omega) only [d1, d2', hr, G7, go_sem]
             · by_cases d3 : 4294967295 < q.1
               · rw [if_pos (.inr (.inr d3))] at hr;simp (disch := omega) only [d1, hr, G7, go_sem]
               · rw [if_neg (by omega)] at hr;simp (disch := omega) only [d1, Bg, hr0', w8, e1, t1, Fd, go_sem];refine ⟨(i + 1, Te t i (1 * (q.1 : Int)), rest.drop (1 + r0)), ⟨by simp; omega, hr, by simp; omega⟩, by simp; omega, Ar ?_ ?_⟩
                 · (try simp only [E0, Ez, Ey, Ew, Ev, Eu, Et, Er]); simp (disch := omega) only [go_sem]
                 · (try simp only [E0, Ez, Ey, Ew, Ev, Eu, Et, Er]); simp (disch := omega) only [Ahe, go_sem]
           · rw [if_pos (.inl d1)] at hr;simp (disch := omega) only [d1, hr, G7, go_sem]
   · obtain rfl : i = 8 := by omega
     have hr' : Cc l = if rest.length = 0 then (t, 0) else (Tc, 4) := hr
     by_cases c0 : rest.length = 0
     · rw [if_pos c0] at hr';simp (disch := omega) only [Hv, hr', go_sem]
     · rw [if_neg c0] at hr';simp (disch := omega) only [Hv, hr', G7, go_sem]
 · have e : Cc l = (Tc, 7) := by unfold Cc; rw [if_neg h2, h0, h1, if_pos hms]
   have ez : ¬ ((m &&& s : Nat) : Int) = 0 := by omega
   simp (disch := omega) only [ir42, he, go_sem];refine Ac9 ?_;simp (disch := omega) only [Bg, h0, h1, t1, t2, hand, ez, e, G7, go_sem]
def Acq (l : List UInt8) (base : Vc) : Vc := fun i => ((base i : Int) + (Cc l).1 i).toNat
theorem Ajk {l : List UInt8} {base : Vc} (h0 : (Cc l).2 = 0) (hok : Mj l base) : Fg l base = (Acq l base, 0) := by
 unfold Fg;rw [if_neg (by rw [h0]; simp), if_pos hok]; rfl
def Rg (l : List UInt8) (base : Vc) (k : Nat) : FS := mk [(22, .pv (.i .i64 k)), (21, .vec 8 (iE (Cc l).1)), (8, .p 8 0), (4, .p 4 0), (3, .p 3 0)] [(3, some (.var (.vec 8 (vE base)))), (8, some (.var (.vec 8 (vE fun i => if i < k then Acq l base i else 0)))), (4, some (.var (.vec 8 (vE fun _ => 0))))]
set_option maxHeartbeats 4000000 in
theorem R0 {a : SV} {l : List UInt8} {full : Bool} {z : Nat} (base : Vc) (hb : ∀ i, i < 8 → base i < 4294967296) (hl : l.length < 4611686018427387904) {h} {d} (ha : Bh [a] = true) (he : G4 h a = .pv (.sl full z (Ac l))) (hz : l = [] ∨ z = 1) :
 FunOk Try.prog 29 [a, .vec 8 (vE base)] h d (.tup [.vec 8 (vE (Fg l base).1), .pv (.i .i64 (Fg l base).2)]) [] := by
 have ha2 : Bh [a, .vec 8 (vE base)] = true := by
  cases a <;> simp only [Bh, SV.closed, Bool.and_true, Bool.true_and, Bool.and_eq_true] at ha ⊢ <;> first | exact ha | trivial
 refine Fo An fn29 (by simp) ha2 rfl fun F => ?_;by_cases h0 : (Cc l).2 = 0
 · simp (disch := omega) only [ir29, he, go_sem];refine Aa (Ah0 hl rfl rfl hz) ?_;simp (disch := omega) only [h0, go_sem];refine A7 An (Rg l base) (fun k => k ≤ 8 ∧ ∀ i, i < k → 0 ≤ (base i : Int) + (Cc l).1 i ∧ (base i : Int) + (Cc l).1 i ≤ 4294967295) (fun k => 8 - k) 0 ⟨by omega, fun i hi => by omega⟩ (Ar ?_ ?_) fun k hk => ?_
   · simp (disch := omega) only [go_sem]
   · simp (disch := omega) only [Alz, go_sem]
   obtain ⟨hk, hok⟩ := hk;by_cases hlt : k < 8
   · have b1 := hb k hlt;have b2 := W8 l k;have w1 : IntKind.i64.wrap ((base k : Nat) : Int) = (base k : Int) := C4 (by omega);by_cases c1 : (base k : Int) + (Cc l).1 k < 0
     · have hn : ¬ Mj l base := fun h => by have := h k hlt; omega
       have e : Fg l base = (fun _ => 0, 7) := by unfold Fg; rw [if_neg (by rw [h0]; simp), if_neg hn]
       simp (disch := omega) only [Rg, w1, e, go_sem]
     · by_cases c2 : 4294967295 < (base k : Int) + (Cc l).1 k
       · have hn : ¬ Mj l base := fun h => by have := h k hlt; omega
         have e : Fg l base = (fun _ => 0, 7) := by unfold Fg; rw [if_neg (by rw [h0]; simp), if_neg hn]
         simp (disch := omega) only [Rg, w1, e, go_sem]
       · obtain ⟨x, hx⟩ : ∃ x : Nat, (base k : Int) + (Cc l).1 k = (x : Int) := ⟨((base k : Int) + (Cc l).1 k).toNat, by omega⟩
         rw [hx] at c1 c2;have w2 : IntKind.u32.wrap ((x : Nat) : Int) = (x : Int) := Q1 (by omega);have w3 : IntKind.i64.wrap ((x : Nat) : Int) = (x : Int) := C4 (by omega);have hxe : x = Acq l base k := by unfold Acq; omega
         simp (disch := omega) only [Rg, w1, hx, w2, w3, go_sem];refine Az (k + 1) _ _ rfl ⟨by omega, fun i hi => ?_⟩ (by omega) ?_ ?_
         · by_cases e : i = k
           · subst e; omega
           · exact hok i (by omega)
         · simp (disch := omega) only [go_sem]
         · simp (disch := omega) only [Zi, hxe, go_sem]
   · have hall : Mj l base := fun i hi => hok i (by omega);have e := Ajk h0 hall;simp (disch := omega) only [Rg, Aqk, e, go_sem]
 · have e : Fg l base = (fun _ => 0, (Cc l).2) := by unfold Fg; rw [if_pos h0]
   simp (disch := omega) only [ir29, he, go_sem];refine Aa (Ah0 hl rfl rfl hz) ?_;simp (disch := omega) only [h0, e, go_sem]
def P6 (x : K4) : List UInt8 := if x.1 = 0 ∧ x.2 = 0 then [] else UInt8.ofNat x.1.toNat :: Bq x.2
def Km (x : K4) : Prop := 0 ≤ x.1 ∧ x.1 ≤ 255 ∧ x.2 ≤ 1048576
theorem Hk (x : K4) (h : Km x) : (P6 x).length ≤ 9 := by
 unfold P6;split
 · simp
 · have := D7 8 x.2 (by have := h.2.2; omega);simp; omega
theorem Om (x : K4) (hx : Km x) {h d} : FunOk Try.prog 39 [.vec 2 [.i .i64 x.1, .i .u32 x.2]] h d (.os d) [.new d (.row 1 (Ac (P6 x)))] := by
 refine Yf An fn39 (by simp) rfl (.inl rfl) fun F => ?_;obtain ⟨h1, h2, h3⟩ := hx;by_cases hz : x.1 = 0 ∧ x.2 = 0
 · have e : P6 x = [] := if_pos hz;have ez : F3 x.1 x.2 = true := decide_eq_true hz;simp (disch := omega) only [ir39, Af, Aj, Ai, ez, e, go_sem];exact ⟨rfl, by omega⟩
 · have e : P6 x = UInt8.ofNat x.1.toNat :: Bq x.2 := if_neg hz;have ez : F3 x.1 x.2 = false := decide_eq_false hz;have ew : IntKind.u8.wrap x.1 = ((UInt8.ofNat x.1.toNat).toNat : Int) := by
    obtain ⟨n, hn⟩ : ∃ n : Nat, x.1 = n := ⟨x.1.toNat, by omega⟩
    rw [hn, Int.toNat_natCast]; exact Ei n
   have e5 := D7 8 x.2 (by omega);simp (disch := omega) only [ir39, Af, Aj, Ai, ez, Asm, Asl, ew, go_sem];refine Aa (Rz x.2 (by omega)) ?_;simp (disch := omega) only [Aq, go_sem];rw [e]; rfl
def Mg (l : List K4) : List UInt8 := D6 (l.map P6)
theorem Kg : ∀ {l : List K4}, (∀ x ∈ l, Km x) → Bo (l.map P6) ≤ 12 * l.length
 | [], _ => by simp [Bo]
 | x :: l, h => by
   have h1 := Hk x (h x List.mem_cons_self);have h2 := Kg (l := l) fun y hy => h y (List.mem_cons_of_mem _ hy);simp only [List.map_cons, Bo, List.length_cons]; omega
theorem Sf {l : List K4} (h : ∀ x ∈ l, Km x) : (Mg l).length ≤ 12 * l.length := Nat.le_trans (Fl _) (Kg h)
def Zl (f : Bool) (z : Nat) (l : List K4) (k : Nat) : FS := mk [(10, .pv (.i .i64 k)), (9, .pv (.i .i64 l.length)), (8, .pv (.sl f z (l.map Lw))), (3, .os 40)] [(40, some (.row 1 (((l.take k).map P6).map bE)))]
set_option maxHeartbeats 1000000 in
theorem Ma {x : SV} {f : Bool} {z : Nat} {l : List K4} {h d} (hx : Dg h [x] = [.pv (.sl f z (l.map Lw))]) (hl : Bh [x] = true) (hz : l = [] ∨ z = 2) (hn : l.length ≤ 1000) (hok : ∀ y ∈ l, Km y) :
 FunOk Try.prog 40 [x] h d (.os d) [.new d (.row 1 (Ac (Mg l)))] := by
 refine Nq An fn40 (by simp) hl (.inr (G5 _)) fun F => ?_;rw [hx];simp (disch := omega) only [ir40, go_sem];refine A7 An (Zl f z l) (fun k => k ≤ l.length) (fun k => l.length - k) 0 (by simp) (Zh 3 40 1 rfl (by omega) (Ar ?_ ?_)) fun k hk => ?_
 · simp (disch := omega) only [go_sem]
 · simp (disch := omega) only [go_sem];rfl
 by_cases hlt : k < l.length
 · have hz2 : z = 2 := hz.resolve_left fun e => by subst e; simp at hlt
   subst hz2;have he : (l.map Lw)[k]? = some (Lw l[k]) := by simp [hlt]
   have ht : l.take (k + 1) = l.take k ++ [l[k]] := by rw [List.take_add_one, List.getElem?_eq_getElem hlt]; rfl
   have hm := hok l[k] (List.getElem_mem hlt);generalize l[k] = y at *;have hyl : (Lw y).length = 2 := rfl;have hkl : (l.take k).length ≤ 1000 := by simp; omega
   simp (disch := omega) only [Zl, he, I7, hyl, go_sem];refine Aa (Om y hm) ?_;simp (disch := omega) only [go_sem];refine ⟨k + 1, by omega, by omega, C0 18 40 (by decide) rfl (Ar ?_ ?_)⟩
   · simp (disch := omega) only [go_sem]
   · simp (disch := omega) only [ht, List.map_append, List.map_cons, List.map_nil, bE, go_sem]
 · obtain rfl : k = l.length := by omega
   have e := List.take_length (l := l);simp (disch := omega) only [Zl, e, go_sem];refine Aa (Z9 (f := false) (z := 1) (L := l.map P6) rfl rfl (Sw _) (.inr rfl) (by have := Kg hok; omega) (fun b hb => by
    obtain ⟨y, hy, rfl⟩ := List.mem_map.1 hb;have := Hk y (hok y hy); omega)) ?_
   simp (disch := omega) only [Mg, go_sem]
def Gw (b : List UInt8) : Int := if (Cj b).2 = 0 ∧ (Cj b).1 ≤ 1073741824 then (Cj b).1 else -1
theorem Nh {f : Bool} {z : Nat} {b : List UInt8} (hz : b = [] ∨ z = 1) (hb : b.length < 4611686018427387904) {h d} : FunOk Try.prog 43 [.pv (.sl f z (Ac b))] h d (.pv (.i .i64 (Gw b))) [] := by
 refine Aw An fn43 (by simp) rfl rfl fun F => ?_;simp (disch := omega) only [ir43, go_sem];refine Aa (Qh (l := b) hb rfl rfl hz) ?_;by_cases h1 : (Cj b).2 = 0
 · by_cases h2 : 1073741824 < ((Cj b).1 : Int)
   · have e : Gw b = -1 := if_neg (by omega);simp (disch := omega) only [h1, h2, e, go_sem]
   · have e : Gw b = (Cj b).1 := if_pos ⟨h1, by omega⟩;simp (disch := omega) only [h1, h2, e, go_sem]
 · have e : Gw b = -1 := if_neg (fun h => h1 h.1);simp (disch := omega) only [h1, e, go_sem]
def Ro (b : List UInt8) : K4 := if b ≠ [] ∧ (Cj (b.drop 1)).2 = 0 ∧ (Cj (b.drop 1)).1 ≤ 1048576 then (((b.getD 0 0).toNat : Int), (Cj (b.drop 1)).1) else (0, 0)
theorem Rx {f : Bool} {z : Nat} {b : List UInt8} (hz : b = [] ∨ z = 1) (hb : b.length < 400000) {h d} : FunOk Try.prog 44 [.pv (.sl f z (Ac b))] h d (.agg [.pv (.i .i64 (Ro b).1), .pv (.i .u32 (Ro b).2)]) [] := by
 refine Aw An fn44 (by simp) rfl rfl fun F => ?_;by_cases h0 : b = []
 · subst h0;have e : Ro [] = (0, 0) := by simp [Ro]
   have e0 : Ac [] = [] := rfl;simp (disch := omega) only [ir44, e, e0, List.length_nil, Int.natCast_zero, go_sem]
 · have hz1 : z = 1 := hz.resolve_left h0;subst hz1;have hpos := List.length_pos_iff.2 h0;have hn0 : ¬ (b.length : Int) = 0 := by omega
   have hdr : List.drop (Int.toNat 1) (List.take b.length (Ac b)) = Ac (b.drop 1) := by
    rw [List.take_of_length_le (by rw [Aq]; omega)]; simp [Ac]
   have h1' : Int.toNat 1 = 1 := rfl;simp (disch := omega) only [ir44, Aq, hn0, hdr, h1', go_sem];refine Aa (Qh (l := b.drop 1) (by simp; omega) rfl rfl (.inr rfl)) ?_;by_cases h1 : (Cj (b.drop 1)).2 = 0
   · by_cases h2 : 1048576 < ((Cj (b.drop 1)).1 : Int)
     · have e : Ro b = (0, 0) := if_neg (fun h => by have := h.2.2; omega);simp (disch := omega) only [h1, h2, e, Int.natCast_zero, go_sem]
     · have e : Ro b = (((b.getD 0 0).toNat : Int), (Cj (b.drop 1)).1) := if_pos ⟨h0, h1, by omega⟩;have hb0 : (Ac b)[0]? = some [.i .u8 ((b.getD 0 0).toNat)] := by
        simp [Ac, List.getD_eq_getElem?_getD, List.getElem?_eq_getElem hpos]
       have hby := (b.getD 0 0).toNat_lt;have hw1 : IntKind.i64.wrap ((b.getD 0 0).toNat : Int) = ((b.getD 0 0).toNat : Int) := C4 (by omega);have hw2 : IntKind.u32.wrap ((Cj (b.drop 1)).1 : Int) = ((Cj (b.drop 1)).1 : Int) := Q1 (by omega);have h00 : Int.toNat 0 = 0 := rfl;generalize b.getD 0 0 = c at *;simp (disch := omega) only [h1, h2, e, Aq, hb0, Cw, hw1, hw2, h00, go_sem]
   · have e : Ro b = (0, 0) := if_neg (fun h => h1 h.2.1);simp (disch := omega) only [h1, e, Int.natCast_zero, go_sem]
def Abw (f g : Bool) (y z : Nat) (a b : List UInt8) (k : Nat) : FS := mk [(13, .pv (.i .i64 k)), (12, .pv (.i .i64 a.length)), (0, .pv (.sl f y (Ac a))), (1, .pv (.sl g z (Ac b)))] []
theorem Ac6 {a : List UInt8} {k : Nat} (h : k < a.length) : (Ac a)[k]? = some [.i .u8 ((a.getD k 0).toNat)] := by
 simp [Ac, List.getD_eq_getElem?_getD, List.getElem?_eq_getElem h]
theorem Zj {a b : List UInt8} (hl : a.length = b.length) (h : ∀ j, j < a.length → a.getD j 0 = b.getD j 0) : a = b := by
 apply List.ext_getElem hl;intro j h1 h2;have := h j h1
 rwa [List.getD_eq_getElem?_getD, List.getD_eq_getElem?_getD, List.getElem?_eq_getElem h1, List.getElem?_eq_getElem h2] at this
set_option maxHeartbeats 1000000 in
theorem Xp {p q : SV} {f g : Bool} {y z : Nat} {a b : List UInt8} {h d} (hx : Dg h [p, q] = [.pv (.sl f y (Ac a)), .pv (.sl g z (Ac b))]) (hl : Bh [p, q] = true) (hy : a = [] ∨ y = 1) (hz : b = [] ∨ z = 1) (hn : a.length ≤ 400000) (hn' : b.length ≤ 400000) :
 FunOk Try.prog 31 [p, q] h d (.pv (.b (decide (a = b)))) [] := by
 refine Fo An fn31 (by simp) hl rfl fun F => ?_;rw [hx];by_cases hlen : a.length = b.length
 · have hle : (a.length : Int) = (b.length : Int) := by omega
   simp (disch := omega) only [ir31, Aq, hle, go_sem];refine A7 An (Abw f g y z a b) (fun k => k ≤ a.length ∧ ∀ j, j < k → a.getD j 0 = b.getD j 0) (fun k => a.length - k) 0 (by simp) (Ar ?_ ?_) fun k hk => ?_
   · simp (disch := omega) only [Aq, hle, go_sem]
   · simp (disch := omega) only [go_sem]
   obtain ⟨hk1, hk2⟩ := hk;by_cases hlt : k < a.length
   · have hy1 : y = 1 := hy.resolve_left fun e => by subst e; simp at hlt
     have hz1 : z = 1 := hz.resolve_left fun e => by subst e; rw [List.length_nil] at hlen; omega
     subst hy1; subst hz1;have h1 := Ac6 hlt;have h2 := Ac6 (a := b) (k := k) (by omega);have hb : k < b.length := by omega
     by_cases hd : a.getD k 0 = b.getD k 0
     · rw [← hd] at h2;simp (disch := omega) only [Abw, Aq, hlen, h1, h2, Cw, go_sem];refine Az (k + 1) _ _ rfl ⟨by omega, fun j hj => ?_⟩ (by omega) ?_ ?_
       · by_cases e : j = k
         · subst e; exact hd
         · exact hk2 j (by omega)
       · simp (disch := omega) only [go_sem]
       · simp (disch := omega) only [go_sem]
     · have hne : ¬ a = b := fun e => hd (by rw [e]);have hdn : ¬ (((a.getD k 0).toNat : Int) = ((b.getD k 0).toNat : Int)) := fun e => hd (UInt8.toNat_inj.1 (by omega));simp (disch := omega) only [Abw, Aq, hlen, h1, h2, Cw, hdn, hne, go_sem]
   · obtain rfl : k = a.length := by omega
     have he := Zj hlen hk2;subst he
     (try simp only [E0, Ez, Ey, Ew, Ev, Eu, Et, Er]); simp (disch := omega) only [Abw, Aq, go_sem]
 · have hle : ¬ (a.length : Int) = (b.length : Int) := by omega
   have hne : ¬ a = b := fun e => hlen (by rw [e]);simp (disch := omega) only [ir31, Aq, hle, hne, go_sem]
theorem Ae0 {a b : List K4} (hl : a.length = b.length) (h : ∀ j, j < a.length → a.getD j (0, 0) = b.getD j (0, 0)) : a = b := by
 apply List.ext_getElem hl;intro j h1 h2;have := h j h1
 rwa [List.getD_eq_getElem?_getD, List.getD_eq_getElem?_getD, List.getElem?_eq_getElem h1, List.getElem?_eq_getElem h2] at this
theorem Ajd {a : List K4} {k : Nat} (h : k < a.length) : (a.map Lw)[k]? = some (Lw (a.getD k (0, 0))) := by
 simp [List.getD_eq_getElem?_getD, List.getElem?_eq_getElem h]
def Abu (f g : Bool) (y z : Nat) (a b : List K4) (k : Nat) : FS := mk [(5, .pv (.i .i64 k)), (0, .pv (.sl f y (a.map Lw))), (1, .pv (.sl g z (b.map Lw)))] []
set_option maxHeartbeats 1000000 in
theorem Ki {f g : Bool} {y z : Nat} {a b : List K4} {h d} (hy : a = [] ∨ y = 2) (hz : b = [] ∨ z = 2) (hn : a.length ≤ 1000) (hn' : b.length ≤ 1000) :
 FunOk Try.prog 46 [.pv (.sl f y (a.map Lw)), .pv (.sl g z (b.map Lw))] h d (.pv (.b (decide (a = b)))) [] := by
 refine Fo An fn46 (by simp) rfl rfl fun F => ?_;simp (disch := omega) only [go_sem];by_cases hlen : a.length = b.length
 · have hle : (a.length : Int) = (b.length : Int) := by omega
   simp (disch := omega) only [ir46, List.length_map, hle, go_sem];refine A7 An (Abu f g y z a b) (fun k => k ≤ a.length ∧ ∀ j, j < k → a.getD j (0, 0) = b.getD j (0, 0)) (fun k => a.length - k) 0 (by simp) (Ar ?_ ?_) fun k hk => ?_
   · simp (disch := omega) only [List.length_map, hle, go_sem]
   · simp (disch := omega) only [go_sem]
   obtain ⟨hk1, hk2⟩ := hk;by_cases hlt : k < a.length
   · have hy1 : y = 2 := hy.resolve_left fun e => by subst e; simp at hlt
     have hz1 : z = 2 := hz.resolve_left fun e => by subst e; rw [List.length_nil] at hlen; omega
     subst hy1; subst hz1;have h1 := Ajd hlt;have h2 := Ajd (a := b) (k := k) (by omega);have hb : k < b.length := by omega
     by_cases hd : a.getD k (0, 0) = b.getD k (0, 0)
     · rw [← hd] at h2;have hd0 := hd;generalize a.getD k (0, 0) = u at h1 h2;have hp := M9 (r := u.1) (r' := u.1) (q := u.2) (q' := u.2) ⟨rfl, rfl⟩;simp (disch := omega) only [Abu, List.length_map, hlen, h1, h2, I7, Af, hp, go_sem];refine Az (k + 1) _ _ rfl ⟨by omega, fun j hj => ?_⟩ (by omega) ?_ ?_
       · by_cases e : j = k
         · subst e; exact hd
         · exact hk2 j (by omega)
       · simp (disch := omega) only [go_sem]
       · simp (disch := omega) only [go_sem]
     · have hne : ¬ a = b := fun e => hd (by rw [e]);generalize a.getD k (0, 0) = u at *;generalize b.getD k (0, 0) = v at *;have hp := Na (r := u.1) (r' := v.1) (q := u.2) (q' := v.2) fun e => hd (Prod.ext e.1 e.2);simp (disch := omega) only [Abu, List.length_map, hlen, h1, h2, I7, Af, hp, hne, go_sem]
   · obtain rfl : k = a.length := by omega
     have he := Ae0 hlen hk2;subst he
     (try simp only [E0, Ez, Ey, Ew, Ev, Eu, Et, Er]); simp (disch := omega) only [Abu, List.length_map, go_sem]
 · have hle : ¬ (a.length : Int) = (b.length : Int) := by omega
   have hne : ¬ a = b := fun e => hlen (by rw [e]);simp (disch := omega) only [ir46, List.length_map, hle, hne, go_sem]
def Cg (a b : Evt) : Bool := decide (a.rep = b.rep ∧ a.seq = b.seq) && (decide (Ze a.dep b.dep) && (decide (a.kind = b.kind) && (decide (a.orep = b.orep ∧ a.oseq = b.oseq) && (decide (a.drep = b.drep ∧ a.dseq = b.dseq) && (decide (a.name = b.name) && (decide (a.gone.l = b.gone.l) && (decide (a.base.l = b.base.l) && (decide (a.off = b.off) && (decide (a.data = b.data) && decide (a.ward = b.ward))))))))))
set_option maxHeartbeats 4000000 in
theorem Ahx (a b : Evt) (ha : a.gone.ok ∧ a.base.ok ∧ a.gone.l.length ≤ 1000 ∧ a.base.l.length ≤ 1000) (hb : b.gone.ok ∧ b.base.ok ∧ b.gone.l.length ≤ 1000 ∧ b.base.l.length ≤ 1000) {h d} : FunOk Try.prog 32 [.vec 21 (Bw a), .vec 21 (Bw b)] h d (.pv (.b (Cg a b))) [] := by
 refine Aw An fn32 (by simp) rfl rfl fun F => ?_;obtain ⟨a1, a2, a3, a4⟩ := ha;obtain ⟨b1, b2, b3, b4⟩ := hb;by_cases c0 : a.rep = b.rep ∧ a.seq = b.seq;rotate_left
 · have c0f := eq_false c0;have c0p : Ts [PV.i .i64 a.rep, PV.i .u32 a.seq] [PV.i .i64 b.rep, PV.i .u32 b.seq] = false := Na c0;have eb : Cg a b = false := by simp only [Cg, c0f, decide_true, decide_false, Bool.true_and, Bool.false_and, Bool.and_true, Bool.and_false, Bool.and_self]
   simp (disch := omega) only [ir32, Bt, Af, Bi, Ca, c0p, eb, go_sem]
 have c0t := eq_true c0;have c0p : Ts [PV.i .i64 a.rep, PV.i .u32 a.seq] [PV.i .i64 b.rep, PV.i .u32 b.seq] = true := M9 c0;by_cases c1 : Ze a.dep b.dep;rotate_left
 · have c1f := eq_false c1;have eb : Cg a b = false := by simp only [Cg, c0t, c1f, decide_true, decide_false, Bool.true_and, Bool.false_and, Bool.and_true, Bool.and_false, Bool.and_self]
   simp (disch := omega) only [ir32, Bt, Af, Bi, Ca, c0p, c1f, eb, go_sem]
 have c1t := eq_true c1;by_cases c2 : a.kind = b.kind;rotate_left
 · have c2f := eq_false c2;have eb : Cg a b = false := by simp only [Cg, c0t, c1t, c2f, decide_true, decide_false, Bool.true_and, Bool.false_and, Bool.and_true, Bool.and_false, Bool.and_self]
   simp (disch := omega) only [ir32, Bt, Af, Bi, Ca, c0p, c1t, c2f, eb, go_sem]
 have c2t := eq_true c2;by_cases c3 : a.orep = b.orep ∧ a.oseq = b.oseq;rotate_left
 · have c3f := eq_false c3;have c3p : Ts [PV.i .i64 a.orep, PV.i .u32 a.oseq] [PV.i .i64 b.orep, PV.i .u32 b.oseq] = false := Na c3;have eb : Cg a b = false := by simp only [Cg, c0t, c1t, c2t, c3f, decide_true, decide_false, Bool.true_and, Bool.false_and, Bool.and_true, Bool.and_false, Bool.and_self]
   simp (disch := omega) only [ir32, Bt, Af, Bi, Ca, c0p, c1t, c2t, c3p, eb, go_sem]
 have c3t := eq_true c3;have c3p : Ts [PV.i .i64 a.orep, PV.i .u32 a.oseq] [PV.i .i64 b.orep, PV.i .u32 b.oseq] = true := M9 c3;by_cases c4 : a.drep = b.drep ∧ a.dseq = b.dseq;rotate_left
 · have c4f := eq_false c4;have c4p : Ts [PV.i .i64 a.drep, PV.i .u32 a.dseq] [PV.i .i64 b.drep, PV.i .u32 b.dseq] = false := Na c4;have eb : Cg a b = false := by simp only [Cg, c0t, c1t, c2t, c3t, c4f, decide_true, decide_false, Bool.true_and, Bool.false_and, Bool.and_true, Bool.and_false, Bool.and_self]
   simp (disch := omega) only [ir32, Bt, Af, Bi, Ca, c0p, c1t, c2t, c3p, c4p, eb, go_sem]
 have c4t := eq_true c4;have c4p : Ts [PV.i .i64 a.drep, PV.i .u32 a.dseq] [PV.i .i64 b.drep, PV.i .u32 b.dseq] = true := M9 c4;by_cases c5 : a.name = b.name;rotate_left
 · have c5f := eq_false c5;have eb : Cg a b = false := by simp only [Cg, c0t, c1t, c2t, c3t, c4t, c5f, decide_true, decide_false, Bool.true_and, Bool.false_and, Bool.and_true, Bool.and_false, Bool.and_self]
   simp (disch := omega) only [ir32, Bt, Af, Bi, Ca, c0p, c1t, c2t, c3p, c4p, c5f, eb, go_sem]
 have c5t := eq_true c5;by_cases c6 : a.gone.l = b.gone.l;rotate_left
 · have c6f := eq_false c6;have eb : Cg a b = false := by simp only [Cg, c0t, c1t, c2t, c3t, c4t, c5t, c6f, decide_true, decide_false, Bool.true_and, Bool.false_and, Bool.and_true, Bool.and_false, Bool.and_self]
   simp (disch := omega) only [ir32, Bt, Af, Bi, Ca, c0p, c1t, c2t, c3p, c4p, c5t, c6f, go_sem];refine Aa (Ki (a := a.gone.l) (b := b.gone.l) a1 b1 a3 b3) ?_;simp (disch := omega) only [Bt, Af, Bi, Ca, c0p, c1t, c2t, c3p, c4p, c5t, c6f, eb, go_sem]
 have c6t := eq_true c6;by_cases c7 : a.base.l = b.base.l;rotate_left
 · have c7f := eq_false c7;have eb : Cg a b = false := by simp only [Cg, c0t, c1t, c2t, c3t, c4t, c5t, c6t, c7f, decide_true, decide_false, Bool.true_and, Bool.false_and, Bool.and_true, Bool.and_false, Bool.and_self]
   simp (disch := omega) only [ir32, Bt, Af, Bi, Ca, c0p, c1t, c2t, c3p, c4p, c5t, c6t, c7f, go_sem];refine Aa (Ki (a := a.gone.l) (b := b.gone.l) a1 b1 a3 b3) ?_;simp (disch := omega) only [Bt, Af, Bi, Ca, c0p, c1t, c2t, c3p, c4p, c5t, c6t, c7f, go_sem];refine Aa (Ki (a := a.base.l) (b := b.base.l) a2 b2 a4 b4) ?_;simp (disch := omega) only [Bt, Af, Bi, Ca, c0p, c1t, c2t, c3p, c4p, c5t, c6t, c7f, eb, go_sem]
 have c7t := eq_true c7;by_cases c8 : a.off = b.off;rotate_left
 · have c8f := eq_false c8;have eb : Cg a b = false := by simp only [Cg, c0t, c1t, c2t, c3t, c4t, c5t, c6t, c7t, c8f, decide_true, decide_false, Bool.true_and, Bool.false_and, Bool.and_true, Bool.and_false, Bool.and_self]
   simp (disch := omega) only [ir32, Bt, Af, Bi, Ca, c0p, c1t, c2t, c3p, c4p, c5t, c6t, c7t, c8f, go_sem];refine Aa (Ki (a := a.gone.l) (b := b.gone.l) a1 b1 a3 b3) ?_;simp (disch := omega) only [Bt, Af, Bi, Ca, c0p, c1t, c2t, c3p, c4p, c5t, c6t, c7t, c8f, go_sem];refine Aa (Ki (a := a.base.l) (b := b.base.l) a2 b2 a4 b4) ?_;simp (disch := omega) only [Bt, Af, Bi, Ca, c0p, c1t, c2t, c3p, c4p, c5t, c6t, c7t, c8f, eb, go_sem]
 have c8t := eq_true c8;by_cases c9 : a.data = b.data;rotate_left
 · have c9f := eq_false c9;have eb : Cg a b = false := by simp only [Cg, c0t, c1t, c2t, c3t, c4t, c5t, c6t, c7t, c8t, c9f, decide_true, decide_false, Bool.true_and, Bool.false_and, Bool.and_true, Bool.and_false, Bool.and_self]
   simp (disch := omega) only [ir32, Bt, Af, Bi, Ca, c0p, c1t, c2t, c3p, c4p, c5t, c6t, c7t, c8t, c9f, go_sem];refine Aa (Ki (a := a.gone.l) (b := b.gone.l) a1 b1 a3 b3) ?_;simp (disch := omega) only [Bt, Af, Bi, Ca, c0p, c1t, c2t, c3p, c4p, c5t, c6t, c7t, c8t, c9f, go_sem];refine Aa (Ki (a := a.base.l) (b := b.base.l) a2 b2 a4 b4) ?_;simp (disch := omega) only [Bt, Af, Bi, Ca, c0p, c1t, c2t, c3p, c4p, c5t, c6t, c7t, c8t, c9f, eb, go_sem]
 have c9t := eq_true c9;by_cases c10 : a.ward = b.ward;rotate_left
 · have c10f := eq_false c10;have eb : Cg a b = false := by simp only [Cg, c0t, c1t, c2t, c3t, c4t, c5t, c6t, c7t, c8t, c9t, c10f, decide_true, decide_false, Bool.true_and, Bool.false_and, Bool.and_true, Bool.and_false, Bool.and_self]
   simp (disch := omega) only [ir32, Bt, Af, Bi, Ca, c0p, c1t, c2t, c3p, c4p, c5t, c6t, c7t, c8t, c9t, c10f, go_sem];refine Aa (Ki (a := a.gone.l) (b := b.gone.l) a1 b1 a3 b3) ?_;simp (disch := omega) only [Bt, Af, Bi, Ca, c0p, c1t, c2t, c3p, c4p, c5t, c6t, c7t, c8t, c9t, c10f, go_sem];refine Aa (Ki (a := a.base.l) (b := b.base.l) a2 b2 a4 b4) ?_;simp (disch := omega) only [Bt, Af, Bi, Ca, c0p, c1t, c2t, c3p, c4p, c5t, c6t, c7t, c8t, c9t, c10f, eb, go_sem]
 have c10t := eq_true c10;have eb : Cg a b = true := by simp only [Cg, c0t, c1t, c2t, c3t, c4t, c5t, c6t, c7t, c8t, c9t, c10t, decide_true, decide_false, Bool.true_and, Bool.false_and, Bool.and_true, Bool.and_false, Bool.and_self]
 simp (disch := omega) only [ir32, Bt, Af, Bi, Ca, c0p, c1t, c2t, c3p, c4p, c5t, c6t, c7t, c8t, c9t, c10t, go_sem];refine Aa (Ki (a := a.gone.l) (b := b.gone.l) a1 b1 a3 b3) ?_;simp (disch := omega) only [Bt, Af, Bi, Ca, c0p, c1t, c2t, c3p, c4p, c5t, c6t, c7t, c8t, c9t, c10t, go_sem];refine Aa (Ki (a := a.base.l) (b := b.base.l) a2 b2 a4 b4) ?_;simp (disch := omega) only [Bt, Af, Bi, Ca, c0p, c1t, c2t, c3p, c4p, c5t, c6t, c7t, c8t, c9t, c10t, eb, go_sem]
def Cd (e : Evt) (o d g b f t w : Bool) : Bool := (o || F3 e.orep e.oseq) && ((d || (F3 e.drep e.dseq && decide (e.name = []))) && ((g || decide ((e.gone.l.length : Int) = 0)) && ((b || decide ((e.base.l.length : Int) = 0)) && ((f || decide (e.off = 0)) && ((t || decide (e.data = [])) && (w || decide (e.ward = 0)))))))
theorem Apz (l p l' p') : Agh (.it l p) (.it l' p') = (l = l' ∧ p = p') := (rfl)
attribute [go_sem] Apz
def R1 (b : UInt8) : Bool := decide ((97 ≤ b.toNat ∧ b.toNat ≤ 122) ∨ (65 ≤ b.toNat ∧ b.toNat ≤ 90) ∨ (48 ≤ b.toNat ∧ b.toNat ≤ 57) ∨ b.toNat = 46 ∨ b.toNat = 95 ∨ b.toNat = 45)
def C6 (s : List UInt8) : Bool := decide (1 ≤ s.length ∧ s.length ≤ 12 ∧ s ≠ [46] ∧ s ≠ [46, 46]) && s.all R1
theorem Aft {s : List UInt8} {pos : Nat} (h : pos < s.length) (ha : (s.getD pos 0).toNat < 128) : Nx s pos = ((s.getD pos 0).toNat, 1) := by
 have hs : pos < (⟨s.toArray⟩ : ByteArray).size := by simpa [ByteArray.size] using h
 have e : (⟨s.toArray⟩ : ByteArray)[pos]'hs = s.getD pos 0 := by
  rw [List.getD_eq_getElem?_getD, List.getElem?_eq_getElem h]; rfl
 have := decode_ascii ⟨s.toArray⟩ pos hs (by rw [e]; exact ha);unfold Nx;rw [this, e]
theorem Ao7 {s : List UInt8} {pos : Nat} (h : pos < s.length) (ha : ¬ (s.getD pos 0).toNat < 128) : 128 ≤ (Nx s pos).1 ∧ (Nx s pos).1 < 2147483648 := by
 have hs : pos < (⟨s.toArray⟩ : ByteArray).size := by simpa [ByteArray.size] using h
 have e : (⟨s.toArray⟩ : ByteArray).get! (pos + 0) = s.getD pos 0 := by
  show (⟨s.toArray⟩ : ByteArray).get! pos = _;have : (⟨s.toArray⟩ : ByteArray)[pos]'hs = s.getD pos 0 := by
   rw [List.getD_eq_getElem?_getD, List.getElem?_eq_getElem h]; rfl
  rw [← this];show (s.toArray)[pos]! = (s.toArray)[pos];rw [getElem!_pos]
 unfold Nx Utf8.decode;simp only [e, ha, if_false];unfold Utf8.runeError;split
 · split
   · simp only; omega
   · simp
 · split
   · split
     · rename_i hc; simp only [Bool.and_eq_true, decide_eq_true_eq] at hc ⊢; omega
     · simp
   · split
     · split
       · rename_i hc; simp only [Bool.and_eq_true, decide_eq_true_eq] at hc ⊢; omega
       · simp
     · simp
theorem Ake (n : Nat) (h : 128 ≤ n) : (Sp n).length ≤ 4 ∧ 2 ≤ (Sp n).length ∧ 128 ≤ ((Sp n).getD ((Sp n).length - 1) 0).toNat := by
 have key : ∀ c : Nat, 128 ≤ c → ∀ l : List UInt8, l = (if c < 0x80 then [UInt8.ofNat c] else if c < 0x800 then [UInt8.ofNat (0xC0 + c / 64), UInt8.ofNat (0x80 + c % 64)] else if c < 0x10000 then [UInt8.ofNat (0xE0 + c / 4096), UInt8.ofNat (0x80 + c / 64 % 64), UInt8.ofNat (0x80 + c % 64)] else [UInt8.ofNat (0xF0 + c / 262144), UInt8.ofNat (0x80 + c / 4096 % 64), UInt8.ofNat (0x80 + c / 64 % 64), UInt8.ofNat (0x80 + c % 64)]) → l.length ≤ 4 ∧ 2 ≤ l.length ∧ 128 ≤ (l.getD (l.length - 1) 0).toNat := by
  intro c hc l hl;have hb : 128 ≤ (UInt8.ofNat (0x80 + c % 64)).toNat := by rw [UInt8.toNat_ofNat']; omega
  rw [if_neg (by omega)] at hl;split at hl
  · subst hl; exact ⟨by simp, by simp, hb⟩
  · split at hl
    · subst hl; exact ⟨by simp, by simp, hb⟩
    · subst hl; exact ⟨by simp, by simp, hb⟩
 refine key (if Utf8.valid (n : Int) then n else 0xFFFD) (by split <;> omega) _ ?_;unfold Sp Utf8.encode Utf8.runeError;simp only [Int.toNat_natCast];generalize (if Utf8.valid (n : Int) = true then n else 0xFFFD) = c;split
 · rfl
 · split
   · rfl
   · split <;> rfl
theorem Av2 (s : List UInt8) (c : UInt8) {h} : Als Try.prog 67 [.pv (.s s), .pv (.i .u8 c.toNat)] h (.pv (.i .i64 (Lib.indexByte s c))) := by
 intro F N ρ st a w hR hh vs hc;simp only [ConcL] at hc;obtain ⟨v, us, rfl, hv, u, us', rfl, hu, rfl⟩ := hc;have hv := Kl hv;have hu := Dj hu;subst hv; subst hu;refine ⟨_, ?_, Cl⟩;rw [run_callFunc_extern (fn := (Try.prog.funcs[67]?).getD default) (by kernel_rfl) (by kernel_rfl) (by kernel_rfl) (by kernel_rfl) (e := Extern.BytealgIndexByte.indexByte) (by kernel_rfl)];rw [Lib.run_indexByteString];simp
theorem Av3 (s : List UInt8) (c : UInt8) {h d} : FunOk Try.prog 66 [.pv (.s s), .pv (.i .u8 c.toNat)] h d (.pv (.i .i64 (Lib.indexByte s c))) [] := by
 refine Aw An fn66 (by simp) rfl rfl fun F => ?_;simp (disch := omega) only [ir66, go_sem];refine Akn (Av2 s c) ?_;simp (disch := omega) only [go_sem]
theorem Ary (s : List UInt8) (c : UInt8) {h d} : FunOk Try.prog 62 [.pv (.s s), .pv (.i .u8 c.toNat)] h d (.pv (.i .i64 (Lib.indexByte s c))) [] := by
 refine Aw An fn62 (by simp) rfl rfl fun F => ?_;simp (disch := omega) only [ir62, go_sem];refine Aa (Av3 s c) ?_;simp (disch := omega) only [go_sem]
def Oa (n : Nat) : Bool := decide (n < 55296 ∨ 57343 < n ∧ n ≤ 1114111)
theorem Am3 (n : Nat) {h d} : FunOk Try.prog 63 [.pv (.i .i32 n)] h d (.pv (.b (Oa n))) [] := by
 refine Aw An fn63 (by simp) rfl rfl fun F => ?_;have h0 : (0 : Int) ≤ n := by omega
 by_cases h1 : (n : Int) < 55296
 · have e : Oa n = true := decide_eq_true (by omega);simp (disch := omega) only [ir63, h0, h1, e, go_sem]
 by_cases h2 : (57343 : Int) < n
 · by_cases h3 : (n : Int) ≤ 1114111
   · have e : Oa n = true := decide_eq_true (by omega);simp (disch := omega) only [ir63, h0, h1, h2, h3, e, go_sem]
   · have e : Oa n = false := decide_eq_false (by omega);simp (disch := omega) only [ir63, h0, h1, h2, h3, e, go_sem]
 · have e : Oa n = false := decide_eq_false (by omega);simp (disch := omega) only [ir63, h0, h1, h2, e, go_sem]
def ixD (n : Nat) : Int := if n < 128 then Lib.indexByte [46, 95, 45] (UInt8.ofNat n) else -1
def Zn (k : Nat) : FS := mk [(175, .p 175 0), (0, .pv (.s [46, 95, 45]))] [(175, some (.it [46, 95, 45] k))]
def Tp (rs : List UInt8) (i : Int) (_ : Unit) : FS := mk [(9, .pv (.i .i64 i)), (8, .pv (.i .i64 i)), (7, .pv (.s rs)), (10, .pv (.i .i64 0)), (0, .pv (.s [46, 95, 45]))] []
theorem Afp (n : Nat) (h : 128 ≤ n) : (∃ a b, Sp n = [a, b] ∧ 128 ≤ b.toNat) ∨ (∃ a b c, Sp n = [a, b, c] ∧ 128 ≤ c.toNat) ∨ (∃ a b c d, Sp n = [a, b, c, d] ∧ 128 ≤ d.toNat) := by
 obtain ⟨h1, h2, h3⟩ := Ake n h;generalize Sp n = l at *
 match l, h1, h2, h3 with
 | [a, b], _, _, h3 => exact .inl ⟨a, b, rfl, h3⟩
 | [a, b, c], _, _, h3 => exact .inr (.inl ⟨a, b, c, rfl, h3⟩)
 | [a, b, c, d], _, _, h3 => exact .inr (.inr ⟨a, b, c, d, rfl, h3⟩)
 | [], _, h2, _ => simp at h2
 | [a], _, h2, _ => simp at h2
 | a :: b :: c :: d :: e :: r, h1, _, _ => simp at h1
theorem Acm {s : List UInt8} {b : UInt8} (h : s = [95, 45] ∨ s = [45] ∨ s = []) (hb : 128 ≤ b.toNat) : Lib.indexByte s b = -1 := by
 have ne : ∀ c : UInt8, c.toNat < 128 → (c == b) = false := fun c hc => by
  rw [beq_eq_false_iff_ne]; intro e; subst e; omega
 rcases h with rfl | rfl | rfl <;> simp [Lib.indexByte, ne 95 (by decide), ne 45 (by decide)]
set_option maxHeartbeats 4000000 in
theorem Xn (n : Nat) (hn : n < 2147483648) {h d} : FunOk Try.prog 61 [.pv (.s [46, 95, 45]), .pv (.i .i32 n)] h d (.pv (.i .i64 (ixD n))) [] := by
 refine Aw An fn61 (by simp) rfl rfl fun F => ?_;have h0 : (0 : Int) ≤ n := by omega
 by_cases h1 : (n : Int) < 128
 · have e : ixD n = Lib.indexByte [46, 95, 45] (UInt8.ofNat n) := by unfold ixD; rw [if_pos (by omega)]
   have ew : IntKind.u8.wrap (n : Int) = ((UInt8.ofNat n).toNat : Int) := Ei _;simp (disch := omega) only [ir61, h0, h1, ew, go_sem];refine Aa (Ary _ _) ?_;simp (disch := omega) only [e, go_sem]
 have e : ixD n = -1 := by unfold ixD; rw [if_neg (by omega)]
 by_cases h2 : (n : Int) = 65533
 · simp (disch := omega) only [ir61, h0, h1, h2, go_sem];have hl3 : (([46, 95, 45] : List UInt8).length) = 3 := rfl;have d0 : Nx [46, 95, 45] 0 = (46, 1) := by decide
   have d1 : Nx [46, 95, 45] 1 = (95, 1) := by decide
   have d2 : Nx [46, 95, 45] 2 = (45, 1) := by decide
   refine A7 An Zn (fun k => k ≤ 3) (fun k => 3 - k) 0 (by omega) (Ar ?_ ?_) fun k hk => ?_
   · simp (disch := omega) only [go_sem]
   · simp (disch := omega) only [go_sem]
   by_cases hlt : k < 3
   · have : k = 0 ∨ k = 1 ∨ k = 2 := by omega
     rcases this with rfl | rfl | rfl
     all_goals simp (disch := omega) only [Zn, hl3, d0, d1, d2, go_sem]
     · refine Az (x := (0 : Nat)) (1 : Nat) _ _ rfl (by omega) (by omega) ?_ ?_
       · simp (disch := omega) only [go_sem]
       · simp (disch := omega) only [go_sem]
     · refine Az (x := (1 : Nat)) (2 : Nat) _ _ rfl (by omega) (by omega) ?_ ?_
       · simp (disch := omega) only [go_sem]
       · simp (disch := omega) only [go_sem]
     · refine Az (x := (2 : Nat)) (3 : Nat) _ _ rfl (by omega) (by omega) ?_ ?_
       · simp (disch := omega) only [go_sem]
       · simp (disch := omega) only [go_sem]
   · obtain rfl : k = 3 := by omega
     simp (disch := omega) only [Zn, hl3, e, go_sem]
 · simp (disch := omega) only [ir61, h0, h1, h2, go_sem];refine Aa (Am3 n) ?_;cases hv : Oa n with
   | false => simp (disch := omega) only [hv, e, go_sem]
   | true =>
     have hl3 : (([46, 95, 45] : List UInt8).length : Int) = 3 := rfl;rcases Afp n (by omega) with ⟨a, b, he, hb⟩ | ⟨a, b, c, he, hb⟩ | ⟨a, b, c, d, he, hb⟩
     ·
      have hlen : (([a, b] : List UInt8).length : Int) = 2 := rfl;have hg : ((([46, 95, 45] : List UInt8).getD (Int.toNat 1) 0).toNat : Int) = 95 := rfl;have hg' : ([a, b] : List UInt8).getD (Int.toNat 1) 0 = b := rfl;have hne : ¬ (95 : Int) = (b.toNat : Int) := by omega
      have hdr : List.drop ((1 : Int) + 1).toNat (List.take 3 ([46, 95, 45] : List UInt8)) = [45] := rfl;have hib : Lib.indexByte [45] b = -1 := Acm (by simp) hb;simp (disch := omega) only [hv, he, hlen, go_sem];refine A7 An (Tp [a, b] 1) (fun _ => True) (fun _ => 0) () trivial (Ar ?_ ?_) fun _ _ => ?_
      · simp (disch := omega) only [go_sem]
      · simp (disch := omega) only [go_sem]
      simp (disch := omega) only [Tp, hl3, hlen, hg, hg', hne, hdr, go_sem];refine Aa (Ary [45] b) ?_;simp (disch := omega) only [hib, e, go_sem]
     ·
      have hlen : (([a, b, c] : List UInt8).length : Int) = 3 := rfl;have hg : ((([46, 95, 45] : List UInt8).getD (Int.toNat 2) 0).toNat : Int) = 45 := rfl;have hg' : ([a, b, c] : List UInt8).getD (Int.toNat 2) 0 = c := rfl;have hne : ¬ (45 : Int) = (c.toNat : Int) := by omega
      have hdr : List.drop ((2 : Int) + 1).toNat (List.take 3 ([46, 95, 45] : List UInt8)) = [] := rfl;have hib : Lib.indexByte [] c = -1 := Acm (by simp) hb;simp (disch := omega) only [hv, he, hlen, go_sem];refine A7 An (Tp [a, b, c] 2) (fun _ => True) (fun _ => 0) () trivial (Ar ?_ ?_) fun _ _ => ?_
      · simp (disch := omega) only [go_sem]
      · simp (disch := omega) only [go_sem]
      simp (disch := omega) only [Tp, hl3, hlen, hg, hg', hne, hdr, go_sem];refine Aa (Ary [] c) ?_;simp (disch := omega) only [hib, e, go_sem]
     · have hlen : (([a, b, c, d] : List UInt8).length : Int) = 4 := rfl;simp (disch := omega) only [hv, he, hlen, go_sem];refine A7 An (Tp [a, b, c, d] 3) (fun _ => True) (fun _ => 0) () trivial (Ar ?_ ?_) fun _ _ => ?_
       · simp (disch := omega) only [go_sem]
       · simp (disch := omega) only [go_sem]
       simp (disch := omega) only [Tp, hl3, hlen, e, go_sem]
def Afr (n : Nat) : Bool := decide (n = 46 ∨ n = 95 ∨ n = 45)
theorem An1 (n : Nat) : decide (0 ≤ ixD n) = Afr n := by
 by_cases h : n < 128
 · have : ∀ m, m < 128 → decide (0 ≤ ixD m) = Afr m := by decide
   exact this n h
 · have e : ixD n = -1 := by unfold ixD; rw [if_neg h]
   rw [e];have : ¬ (n = 46 ∨ n = 95 ∨ n = 45) := by omega
   simp [Afr]; omega
theorem G1 (n : Nat) (hn : n < 2147483648) {h d} : FunOk Try.prog 58 [.pv (.s [46, 95, 45]), .pv (.i .i32 n)] h d (.pv (.b (Afr n))) [] := by
 refine Aw An fn58 (by simp) rfl rfl fun F => ?_;have e := An1 n;simp (disch := omega) only [ir58, go_sem];refine Aa (Xn n hn) ?_;simp (disch := omega) only [e, go_sem]
def X3 (n : Nat) : Bool := decide ((97 ≤ n ∧ n ≤ 122) ∨ (65 ≤ n ∧ n ≤ 90))
theorem Xl (n : Nat) {h d} : FunOk Try.prog 57 [.pv (.i .i32 n)] h d (.pv (.b (X3 n))) [] := by
 refine Aw An fn57 (by simp) rfl rfl fun F => ?_;have : n < 65 ∨ (65 ≤ n ∧ n ≤ 90) ∨ (91 ≤ n ∧ n ≤ 96) ∨ (97 ≤ n ∧ n ≤ 122) ∨ 123 ≤ n := by omega
 rcases this with h1 | h1 | h1 | h1 | h1
 · have e : X3 n = false := decide_eq_false (by omega);simp (disch := omega) only [ir57, e, go_sem]
 · have e : X3 n = true := decide_eq_true (by omega);simp (disch := omega) only [ir57, e, go_sem]
 · have e : X3 n = false := decide_eq_false (by omega);simp (disch := omega) only [ir57, e, go_sem]
 · have e : X3 n = true := decide_eq_true (by omega);simp (disch := omega) only [ir57, e, go_sem]
 · have e : X3 n = false := decide_eq_false (by omega);simp (disch := omega) only [ir57, e, go_sem]
theorem Xw {s : List UInt8} {k : Nat} (hk : k < s.length) (h : R1 (s.getD k 0) = false) : C6 s = false := by
 have hm : s.getD k 0 ∈ s := by rw [List.getD_eq_getElem?_getD, List.getElem?_eq_getElem hk]; exact List.getElem_mem hk
 unfold C6;rw [show s.all R1 = false from by rw [List.all_eq_false]; exact ⟨_, hm, by rw [h]; decide⟩, Bool.and_false]
theorem Aei {s : List UInt8} (h1 : 1 ≤ s.length) (h2 : s.length ≤ 12) (h3 : s ≠ [46]) (h4 : s ≠ [46, 46]) (h : ∀ k, k < s.length → R1 (s.getD k 0) = true) : C6 s = true := by
 unfold C6;rw [decide_eq_true ⟨h1, h2, h3, h4⟩, Bool.true_and, List.all_eq_true];intro b hb;obtain ⟨k, hk, rfl⟩ := List.getElem_of_mem hb;have := h k hk
 rwa [List.getD_eq_getElem?_getD, List.getElem?_eq_getElem hk] at this
theorem Ve {s : List UInt8} (h : ¬ (1 ≤ s.length ∧ s.length ≤ 12 ∧ s ≠ [46] ∧ s ≠ [46, 46])) : C6 s = false := by
 unfold C6; rw [decide_eq_false h, Bool.false_and]
def Uw (s : List UInt8) (k : Nat) : FS := mk [(22, .p 22 0), (0, .pv (.s s))] [(22, some (.it s k))]
set_option maxHeartbeats 4000000 in
theorem Aaa (s : List UInt8) {h d} : FunOk Try.prog 51 [.pv (.s s)] h d (.pv (.b (C6 s))) [] := by
 refine Aw An fn51 (by simp) rfl rfl fun F => ?_;by_cases h1 : s = []
 · subst h1;have e : C6 [] = false := Ve (by simp);have hl0 : (([] : List UInt8).length : Int) = 0 := rfl;simp (disch := omega) only [ir51, hl0, e, go_sem]
 have h1' : 1 ≤ s.length := List.length_pos_iff.2 h1;by_cases h2 : 12 < (s.length : Int)
 · have e : C6 s = false := Ve (by omega);simp (disch := omega) only [ir51, h1, h2, e, go_sem]
 by_cases h3 : s = [46]
 · subst h3;have e : C6 [46] = false := Ve (fun h => h.2.2.1 rfl);have hl0 : (([46] : List UInt8).length : Int) = 1 := rfl;simp (disch := omega) only [ir51, h1, hl0, e, go_sem]
 by_cases h4 : s = [46, 46]
 · subst h4;have e : C6 [46, 46] = false := Ve (fun h => h.2.2.2 rfl);have hl0 : (([46, 46] : List UInt8).length : Int) = 2 := rfl;simp (disch := omega) only [ir51, h1, h3, hl0, e, go_sem]
 simp (disch := omega) only [ir51, h1, h2, h3, h4, go_sem];refine A7 An (Uw s) (fun k => k ≤ s.length ∧ ∀ j, j < k → R1 (s.getD j 0) = true) (fun k => s.length - k) 0 (by simp) (Ar ?_ ?_) fun k hk => ?_
 · simp (disch := omega) only [go_sem]
 · simp (disch := omega) only [go_sem]
 obtain ⟨hk1, hk2⟩ := hk;by_cases hlt : k < s.length
 · by_cases ha : (s.getD k 0).toNat < 128
   · have hd := Aft hlt ha;have hgo : R1 (s.getD k 0) = true → (k + 1 ≤ s.length ∧ ∀ j, j < k + 1 → R1 (s.getD j 0) = true) := fun h => ⟨hlt, fun j hj => by
      by_cases e : j = k
      · subst e; exact h
      · exact hk2 j (by omega)⟩
     have hbad := fun h => Xw (s := s) hlt h;generalize hb : s.getD k 0 = b at *;simp (disch := omega) only [Uw, hd, go_sem];refine Aa (Xl _) ?_;cases hL : X3 b.toNat with
     | true =>
       have hL' : (97 ≤ b.toNat ∧ b.toNat ≤ 122) ∨ (65 ≤ b.toNat ∧ b.toNat ≤ 90) := of_decide_eq_true hL;simp (disch := omega) only [hL, go_sem];refine Az (k + 1) _ _ rfl (hgo (decide_eq_true (by omega))) (by omega) ?_ ?_
       · simp (disch := omega) only [go_sem]
       · simp (disch := omega) only [go_sem]
     | false =>
       have hL' : ¬ ((97 ≤ b.toNat ∧ b.toNat ≤ 122) ∨ (65 ≤ b.toNat ∧ b.toNat ≤ 90)) := of_decide_eq_false hL;by_cases hdg : 48 ≤ b.toNat ∧ b.toNat ≤ 57
       · simp (disch := omega) only [hL, go_sem];refine Az (k + 1) _ _ rfl (hgo (decide_eq_true (by omega))) (by omega) ?_ ?_
         · simp (disch := omega) only [go_sem]
         · simp (disch := omega) only [go_sem]
       · have ht : b.toNat < 48 ∨ (48 ≤ b.toNat ∧ 57 < b.toNat) := by omega
         cases hdt : Afr b.toNat with
         | true =>
           have hdt' : b.toNat = 46 ∨ b.toNat = 95 ∨ b.toNat = 45 := of_decide_eq_true hdt;have hg := hgo (decide_eq_true (by omega));rcases ht with ht | ht
           all_goals simp (disch := omega) only [hL, go_sem]
           all_goals refine Aa (G1 b.toNat (by omega)) ?_
           all_goals simp (disch := omega) only [hdt, go_sem]
           all_goals refine Az (k + 1) _ _ rfl hg (by omega) ?_ ?_
           all_goals simp (disch := omega) only [go_sem]
         | false =>
           have hdt' : ¬ (b.toNat = 46 ∨ b.toNat = 95 ∨ b.toNat = 45) := of_decide_eq_false hdt;have hg := hbad (decide_eq_false (by omega));rcases ht with ht | ht
           all_goals simp (disch := omega) only [hL, go_sem]
           all_goals refine Aa (G1 b.toNat (by omega)) ?_
           all_goals simp (disch := omega) only [hdt, hg, go_sem]
   · obtain ⟨hd1, hd2⟩ := Ao7 hlt ha;have hg := Xw (s := s) hlt (decide_eq_false (by omega));generalize hc : (Nx s k).1 = c at *;have hL : X3 c = false := decide_eq_false (by omega);have hdt : Afr c = false := decide_eq_false (by omega);simp (disch := omega) only [Uw, hc, go_sem];refine Aa (Xl _) ?_;simp (disch := omega) only [hL, go_sem];refine Aa (G1 c hd2) ?_;simp (disch := omega) only [hdt, hg, go_sem]
 · obtain rfl : k = s.length := by omega
   have e := Aei h1' (by omega) h3 h4 hk2;simp (disch := omega) only [Uw, e, go_sem]
end Go.Proofs.Ytagpocgklmeoiaa.Fw
namespace Go.Proofs.Ytagpocgklmeoiaa.Fw
open Go.RowKit Go.Proofs
def Fi (e : Evt) : Prop := 1 ≤ e.rep ∧ e.rep ≤ 8 ∧ 1 ≤ e.seq ∧ e.seq ≤ 1048576 ∧ e.dep (e.rep - 1).toNat + 1 = e.seq ∧ 1 ≤ e.kind ∧ e.kind ≤ 9
def Jy (e : Evt) : Prop := ∀ i, i < 8 → e.dep i ≤ 1048576
def Bp (b : Evt) : Bool := F3 b.orep b.oseq && (F3 b.drep b.dseq && (decide (b.name = []) && (decide ((b.gone.l.length : Int) = 0) && (decide ((b.base.l.length : Int) = 0) && (decide (b.off = 0) && (decide (b.data = []) && decide (b.ward = 0)))))))
noncomputable def D9 (e : Evt) : Bool :=
 if e.kind = 1 ∨ e.kind = 2 then (C1 e && (C6 e.name))
 else if e.kind = 3 then (Dh e.dep e.orep e.oseq && (Ee e.base.l 1 e.dep && (Co (e.off) && (decide ((1 : Int) ≤ (e.data.length : Int)) && (Co ((e.data.length : Int)) && (Co (e.off + (e.data.length : Int))))))))
 else if e.kind = 4 then (Dh e.dep e.orep e.oseq && (Ee e.base.l 1 e.dep && (Co (e.off))))
 else if e.kind = 5 then (Dh e.dep e.orep e.oseq && (Ee e.base.l 8 e.dep && (decide ((2 : Int) ≤ (e.base.l.length : Int)) && (Co ((e.data.length : Int))))))
 else if e.kind = 6 then (Dh e.dep e.orep e.oseq && (Ee e.gone.l 8 e.dep))
 else if e.kind = 7 then (Dh e.dep e.orep e.oseq && (Ee e.gone.l 8 e.dep && (C1 e && (C6 e.name))))
 else if e.kind = 8 then (decide (1 ≤ e.ward) && (decide (e.ward ≤ 4)))
 else true
open Classical in
noncomputable def A6 (e : Evt) : Bool := decide (Fi e) && (decide (Jy e) && (Bp (Bn e) && D9 e))
theorem Fy {e : Evt} (h : ¬ Fi e) : A6 e = false := by simp [A6, h]
theorem Qv {e : Evt} (h : ¬ Jy e) : A6 e = false := by simp [A6, h]
theorem Apa {e : Evt} (h : Bp (Bn e) = false) : A6 e = false := by simp [A6, h]
theorem Apb {e : Evt} (h1 : Fi e) (h2 : Jy e) (h3 : Bp (Bn e) = true) : A6 e = D9 e := by simp [A6, h1, h2, h3]
def ev (e : Evt) : Prop := e.gone.ok ∧ e.base.ok ∧ e.gone.l.length ≤ 1000 ∧ e.base.l.length ≤ 1000 ∧ e.data.length ≤ 100000
theorem Vp {e : Evt} (h : e.kind = 1) : D9 e = (C1 e && (C6 e.name)) := by simp [D9, h]
theorem Vo {e : Evt} (h : e.kind = 2) : D9 e = (C1 e && (C6 e.name)) := by simp [D9, h]
theorem Vn {e : Evt} (h : e.kind = 3) : D9 e = (Dh e.dep e.orep e.oseq && (Ee e.base.l 1 e.dep && (Co (e.off) && (decide ((1 : Int) ≤ (e.data.length : Int)) && (Co ((e.data.length : Int)) && (Co (e.off + (e.data.length : Int)))))))) := by simp [D9, h]
theorem Vm {e : Evt} (h : e.kind = 4) : D9 e = (Dh e.dep e.orep e.oseq && (Ee e.base.l 1 e.dep && (Co (e.off)))) := by simp [D9, h]
theorem Vl {e : Evt} (h : e.kind = 5) : D9 e = (Dh e.dep e.orep e.oseq && (Ee e.base.l 8 e.dep && (decide ((2 : Int) ≤ (e.base.l.length : Int)) && (Co ((e.data.length : Int)))))) := by simp [D9, h]
theorem Vk {e : Evt} (h : e.kind = 6) : D9 e = (Dh e.dep e.orep e.oseq && (Ee e.gone.l 8 e.dep)) := by simp [D9, h]
theorem Vj {e : Evt} (h : e.kind = 7) : D9 e = (Dh e.dep e.orep e.oseq && (Ee e.gone.l 8 e.dep && (C1 e && (C6 e.name)))) := by simp [D9, h]
theorem Vi {e : Evt} (h : e.kind = 8) : D9 e = (decide (1 ≤ e.ward) && (decide (e.ward ≤ 4))) := by simp [D9, h]
theorem Vh {e : Evt} (h : e.kind = 9) : D9 e = (true) := by simp [D9, h]
def Abx (e : Evt) (k : Nat) : FS := mk [(55, .pv (.i .i64 k)), (54, .vec 8 (vE e.dep)), (1, .p 1 0)] [(1, some (.var (.vec 21 (Bw e))))]
set_option maxHeartbeats 16000000 in
theorem Ab9 (e : Evt) (he : ev e) {h d} : FunOk Try.prog 36 [.vec 21 (Bw e)] h d (.pv (.b (A6 e))) [] := by
 refine Aw An fn36 (by simp) rfl rfl fun F => ?_;have hl := Bu e;obtain ⟨hg, hb, hgn, hbn, hdl⟩ := he;by_cases r1 : e.rep < 1
 · have eb := Fy (e := e) fun h => by have := h.1; omega
   simp (disch := omega) only [ir36, I9, r1, eb, go_sem]
 by_cases r2 : 8 < e.rep
 · have eb := Fy (e := e) fun h => by have := h.2.1; omega
   simp (disch := omega) only [ir36, I9, r1, r2, eb, go_sem]
 by_cases r3 : (e.seq : Int) < 1
 · have eb := Fy (e := e) fun h => by have := h.2.2.1; omega
   simp (disch := omega) only [ir36, I9, Mf, r1, r2, r3, eb, go_sem]
 by_cases r4 : 1048576 < (e.seq : Int)
 · have eb := Fy (e := e) fun h => by have := h.2.2.2.1; omega
   simp (disch := omega) only [ir36, I9, Mf, r1, r2, r3, r4, eb, go_sem]
 obtain ⟨k, hk⟩ : ∃ k : Nat, e.rep = (k : Int) + 1 := ⟨(e.rep - 1).toNat, by omega⟩
 have hk8 : k < 8 := by omega
 have ek : ((k : Int) + 1 - 1) = (k : Int) := by omega
 have ekn : (e.rep - 1).toNat = k := by omega
 by_cases r5 : (e.dep k : Int) = (e.seq : Int) - 1;rotate_left
 · have eb := Fy (e := e) fun h => by have := h.2.2.2.2.1; rw [ekn] at this; omega
   simp (disch := omega) only [ir36, I9, Mf, I8, hk, ek, r3, r4, r5, eb, go_sem]
 by_cases r6 : e.kind < 1
 · have eb := Fy (e := e) fun h => by have := h.2.2.2.2.2.1; omega
   simp (disch := omega) only [ir36, I9, Mf, D2, I8, hk, ek, r3, r4, r5, r6, eb, go_sem]
 by_cases r7 : 9 < e.kind
 · have eb := Fy (e := e) fun h => by have := h.2.2.2.2.2.2; omega
   simp (disch := omega) only [ir36, I9, Mf, D2, I8, hk, ek, r3, r4, r5, r6, r7, eb, go_sem]
 have hB : Fi e := ⟨by omega, by omega, by omega, by omega, by rw [ekn]; omega, by omega, by omega⟩
 simp (disch := omega) only [ir36, I9, Mf, D2, Sc, I8, hk, ek, r3, r4, r5, r6, r7, go_sem];refine A7 An (Abx e) (fun k => k ≤ 8 ∧ ∀ i, i < k → e.dep i ≤ 1048576) (fun k => 8 - k) 0 (by simp) (Ar ?_ ?_) fun j hj => ?_
 · simp (disch := omega) only [go_sem]
 · simp (disch := omega) only [go_sem]
 obtain ⟨hj1, hj2⟩ := hj;by_cases hlt : j < 8
 · by_cases hd : 1048576 < (e.dep j : Int)
   · have eb := Qv (e := e) fun h => by have := h j hlt; omega
     simp (disch := omega) only [Abx, hd, eb, go_sem]
   · simp (disch := omega) only [Abx, hd, go_sem];refine Az (j + 1) _ _ rfl ⟨by omega, fun i hi => ?_⟩ (by omega) ?_ ?_
     · by_cases e : i = j
       · subst e; omega
       · exact hj2 i (by omega)
     · simp (disch := omega) only [go_sem]
     · simp (disch := omega) only [go_sem]
 obtain rfl : j = 8 := by omega
 have hD : Jy e := hj2;simp (disch := omega) only [Abx, E6, go_sem];refine Aa (Ar0 e) ?_;have cz := Apa (e := e);have ck := fun h3 => Apb (e := e) hB hD h3;have hbl := Bu (Bn e);generalize Bn e = b at *

 by_cases z1' : F3 b.orep b.oseq = false
 · have eb := cz (by simp only [Bp, z1', decide_true, decide_false, Bool.true_and, Bool.false_and, Bool.and_true, Bool.and_false, Bool.and_self]);simp (disch := omega) only [Af, Aj, Ai, Dc, hl, hbl, z1', eb, go_sem]
 have z1 : F3 b.orep b.oseq = true := by simpa using z1'
 by_cases z2' : F3 b.drep b.dseq = false
 · have eb := cz (by simp only [Bp, z1, z2', decide_true, decide_false, Bool.true_and, Bool.false_and, Bool.and_true, Bool.and_false, Bool.and_self]);simp (disch := omega) only [Af, Aj, Ai, Dc, hl, hbl, z1, z2', eb, go_sem]
 have z2 : F3 b.drep b.dseq = true := by simpa using z2'
 by_cases z3 : b.name = [];rotate_left
 · have eb := cz (by simp only [Bp, z1, z2, z3, decide_true, decide_false, Bool.true_and, Bool.false_and, Bool.and_true, Bool.and_false, Bool.and_self]);simp (disch := omega) only [Af, Aj, Ai, Dc, hl, hbl, z1, z2, z3, eb, go_sem]
 by_cases z4 : (b.gone.l.length : Int) = 0;rotate_left
 · have eb := cz (by simp only [Bp, z1, z2, z3, z4, decide_true, decide_false, Bool.true_and, Bool.false_and, Bool.and_true, Bool.and_false, Bool.and_self]);simp (disch := omega) only [Af, Aj, Ai, Dc, hl, hbl, z1, z2, z3, z4, eb, go_sem]
 by_cases z5 : (b.base.l.length : Int) = 0;rotate_left
 · have eb := cz (by simp only [Bp, z1, z2, z3, z4, z5, decide_true, decide_false, Bool.true_and, Bool.false_and, Bool.and_true, Bool.and_false, Bool.and_self]);simp (disch := omega) only [Af, Aj, Ai, Dc, hl, hbl, z1, z2, z3, z4, z5, eb, go_sem]
 by_cases z6 : b.off = 0;rotate_left
 · have eb := cz (by simp only [Bp, z1, z2, z3, z4, z5, z6, decide_true, decide_false, Bool.true_and, Bool.false_and, Bool.and_true, Bool.and_false, Bool.and_self]);simp (disch := omega) only [Af, Aj, Ai, Dc, hl, hbl, z1, z2, z3, z4, z5, z6, eb, go_sem]
 by_cases z7 : b.data = [];rotate_left
 · have eb := cz (by simp only [Bp, z1, z2, z3, z4, z5, z6, z7, decide_true, decide_false, Bool.true_and, Bool.false_and, Bool.and_true, Bool.and_false, Bool.and_self]);simp (disch := omega) only [Af, Aj, Ai, Dc, hl, hbl, z1, z2, z3, z4, z5, z6, z7, eb, go_sem]
 by_cases z8 : b.ward = 0;rotate_left
 · have eb := cz (by simp only [Bp, z1, z2, z3, z4, z5, z6, z7, z8, decide_true, decide_false, Bool.true_and, Bool.false_and, Bool.and_true, Bool.and_false, Bool.and_self]);simp (disch := omega) only [Af, Aj, Ai, Dc, hl, hbl, z1, z2, z3, z4, z5, z6, z7, z8, eb, go_sem]
 have ez := ck (by simp only [Bp, z1, z2, z3, z4, z5, z6, z7, z8, decide_true, decide_false, Bool.true_and, Bool.false_and, Bool.and_true, Bool.and_false, Bool.and_self]);have hkk : e.kind = 1 ∨ e.kind = 2 ∨ e.kind = 3 ∨ e.kind = 4 ∨ e.kind = 5 ∨ e.kind = 6 ∨ e.kind = 7 ∨ e.kind = 8 ∨ e.kind = 9 := by omega
 rcases hkk with hki | hki | hki | hki | hki | hki | hki | hki | hki
 · rw [Vp hki] at ez;simp (disch := omega) only [Af, Aj, Ai, Dc, hl, hbl, z1, z2, z3, z4, z5, z6, z7, z8, hki, go_sem];refine Aa (U8 e) ?_;by_cases s0' : C1 e = false
   · simp only [s0', decide_true, decide_false, Bool.true_and, Bool.false_and, Bool.and_true, Bool.and_false, Bool.and_self] at ez;simp (disch := omega) only [Af, Aj, Ai, s0', ez, go_sem]
   have s0 : C1 e = true := by simpa using s0'
   simp (disch := omega) only [Af, Aj, Ai, s0, go_sem];refine Aa (Aaa _) ?_;by_cases s1' : C6 e.name = false
   · simp only [s0, s1', decide_true, decide_false, Bool.true_and, Bool.false_and, Bool.and_true, Bool.and_false, Bool.and_self] at ez;simp (disch := omega) only [Af, Aj, Ai, s0, s1', ez, go_sem]
   have s1 : C6 e.name = true := by simpa using s1'
   simp only [s0, s1, decide_true, decide_false, Bool.true_and, Bool.false_and, Bool.and_true, Bool.and_false, Bool.and_self] at ez;simp (disch := omega) only [Af, Aj, Ai, s0, s1, ez, go_sem]
 · rw [Vo hki] at ez;simp (disch := omega) only [Af, Aj, Ai, Dc, hl, hbl, z1, z2, z3, z4, z5, z6, z7, z8, hki, go_sem];refine Aa (U8 e) ?_;by_cases s0' : C1 e = false
   · simp only [s0', decide_true, decide_false, Bool.true_and, Bool.false_and, Bool.and_true, Bool.and_false, Bool.and_self] at ez;simp (disch := omega) only [Af, Aj, Ai, s0', ez, go_sem]
   have s0 : C1 e = true := by simpa using s0'
   simp (disch := omega) only [Af, Aj, Ai, s0, go_sem];refine Aa (Aaa _) ?_;by_cases s1' : C6 e.name = false
   · simp only [s0, s1', decide_true, decide_false, Bool.true_and, Bool.false_and, Bool.and_true, Bool.and_false, Bool.and_self] at ez;simp (disch := omega) only [Af, Aj, Ai, s0, s1', ez, go_sem]
   have s1 : C6 e.name = true := by simpa using s1'
   simp only [s0, s1, decide_true, decide_false, Bool.true_and, Bool.false_and, Bool.and_true, Bool.and_false, Bool.and_self] at ez;simp (disch := omega) only [Af, Aj, Ai, s0, s1, ez, go_sem]
 · rw [Vn hki] at ez;simp (disch := omega) only [Af, Aj, Ai, Dc, hl, hbl, z1, z2, z3, z4, z5, z6, z7, z8, hki, go_sem];refine Aa (Hx _ _ _) ?_;by_cases s0' : Dh e.dep e.orep e.oseq = false
   · simp only [s0', decide_true, decide_false, Bool.true_and, Bool.false_and, Bool.and_true, Bool.and_false, Bool.and_self] at ez;simp (disch := omega) only [Af, Aj, Ai, s0', ez, go_sem]
   have s0 : Dh e.dep e.orep e.oseq = true := by simpa using s0'
   simp (disch := omega) only [Af, Aj, Ai, s0, go_sem];refine Aa (Xo (l := e.base.l) (most := 1) hb hbn) ?_;by_cases s1' : Ee e.base.l 1 e.dep = false
   · simp only [s0, s1', decide_true, decide_false, Bool.true_and, Bool.false_and, Bool.and_true, Bool.and_false, Bool.and_self] at ez;simp (disch := omega) only [Af, Aj, Ai, s0, s1', ez, go_sem]
   have s1 : Ee e.base.l 1 e.dep = true := by simpa using s1'
   simp (disch := omega) only [Af, Aj, Ai, s0, s1, go_sem];refine Aa (Ru (e.off)) ?_;by_cases s2' : Co (e.off) = false
   · simp only [s0, s1, s2', decide_true, decide_false, Bool.true_and, Bool.false_and, Bool.and_true, Bool.and_false, Bool.and_self] at ez;simp (disch := omega) only [Af, Aj, Ai, s0, s1, s2', ez, go_sem]
   have s2 : Co (e.off) = true := by simpa using s2'
   have s2b := of_decide_eq_true s2;by_cases s3 : (1 : Int) ≤ (e.data.length : Int);rotate_left
   · simp only [s0, s1, s2, s3, decide_true, decide_false, Bool.true_and, Bool.false_and, Bool.and_true, Bool.and_false, Bool.and_self] at ez;simp (disch := omega) only [Af, Aj, Ai, s0, s1, s2, s3, ez, go_sem]
   simp (disch := omega) only [Af, Aj, Ai, s0, s1, s2, s3, go_sem];refine Aa (Ru ((e.data.length : Int))) ?_;by_cases s4' : Co ((e.data.length : Int)) = false
   · simp only [s0, s1, s2, s3, s4', decide_true, decide_false, Bool.true_and, Bool.false_and, Bool.and_true, Bool.and_false, Bool.and_self] at ez;simp (disch := omega) only [Af, Aj, Ai, s0, s1, s2, s3, s4', ez, go_sem]
   have s4 : Co ((e.data.length : Int)) = true := by simpa using s4'
   have s4b := of_decide_eq_true s4;simp (disch := omega) only [Af, Aj, Ai, s0, s1, s2, s3, s4, go_sem];refine Aa (Ru (e.off + (e.data.length : Int))) ?_;by_cases s5' : Co (e.off + (e.data.length : Int)) = false
   · simp only [s0, s1, s2, s3, s4, s5', decide_true, decide_false, Bool.true_and, Bool.false_and, Bool.and_true, Bool.and_false, Bool.and_self] at ez;simp (disch := omega) only [Af, Aj, Ai, s0, s1, s2, s3, s4, s5', ez, go_sem]
   have s5 : Co (e.off + (e.data.length : Int)) = true := by simpa using s5'
   have s5b := of_decide_eq_true s5;simp only [s0, s1, s2, s3, s4, s5, decide_true, decide_false, Bool.true_and, Bool.false_and, Bool.and_true, Bool.and_false, Bool.and_self] at ez;simp (disch := omega) only [Af, Aj, Ai, s0, s1, s2, s3, s4, s5, ez, go_sem]
 · rw [Vm hki] at ez;simp (disch := omega) only [Af, Aj, Ai, Dc, hl, hbl, z1, z2, z3, z4, z5, z6, z7, z8, hki, go_sem];refine Aa (Hx _ _ _) ?_;by_cases s0' : Dh e.dep e.orep e.oseq = false
   · simp only [s0', decide_true, decide_false, Bool.true_and, Bool.false_and, Bool.and_true, Bool.and_false, Bool.and_self] at ez;simp (disch := omega) only [Af, Aj, Ai, s0', ez, go_sem]
   have s0 : Dh e.dep e.orep e.oseq = true := by simpa using s0'
   simp (disch := omega) only [Af, Aj, Ai, s0, go_sem];refine Aa (Xo (l := e.base.l) (most := 1) hb hbn) ?_;by_cases s1' : Ee e.base.l 1 e.dep = false
   · simp only [s0, s1', decide_true, decide_false, Bool.true_and, Bool.false_and, Bool.and_true, Bool.and_false, Bool.and_self] at ez;simp (disch := omega) only [Af, Aj, Ai, s0, s1', ez, go_sem]
   have s1 : Ee e.base.l 1 e.dep = true := by simpa using s1'
   simp (disch := omega) only [Af, Aj, Ai, s0, s1, go_sem];refine Aa (Ru (e.off)) ?_;by_cases s2' : Co (e.off) = false
   · simp only [s0, s1, s2', decide_true, decide_false, Bool.true_and, Bool.false_and, Bool.and_true, Bool.and_false, Bool.and_self] at ez;simp (disch := omega) only [Af, Aj, Ai, s0, s1, s2', ez, go_sem]
   have s2 : Co (e.off) = true := by simpa using s2'
   have s2b := of_decide_eq_true s2;simp only [s0, s1, s2, decide_true, decide_false, Bool.true_and, Bool.false_and, Bool.and_true, Bool.and_false, Bool.and_self] at ez;simp (disch := omega) only [Af, Aj, Ai, s0, s1, s2, ez, go_sem]
 · rw [Vl hki] at ez;simp (disch := omega) only [Af, Aj, Ai, Dc, hl, hbl, z1, z2, z3, z4, z5, z6, z7, z8, hki, go_sem];refine Aa (Hx _ _ _) ?_;by_cases s0' : Dh e.dep e.orep e.oseq = false
   · simp only [s0', decide_true, decide_false, Bool.true_and, Bool.false_and, Bool.and_true, Bool.and_false, Bool.and_self] at ez;simp (disch := omega) only [Af, Aj, Ai, s0', ez, go_sem]
   have s0 : Dh e.dep e.orep e.oseq = true := by simpa using s0'
   simp (disch := omega) only [Af, Aj, Ai, s0, go_sem];refine Aa (Xo (l := e.base.l) (most := 8) hb hbn) ?_;by_cases s1' : Ee e.base.l 8 e.dep = false
   · simp only [s0, s1', decide_true, decide_false, Bool.true_and, Bool.false_and, Bool.and_true, Bool.and_false, Bool.and_self] at ez;simp (disch := omega) only [Af, Aj, Ai, s0, s1', ez, go_sem]
   have s1 : Ee e.base.l 8 e.dep = true := by simpa using s1'
   by_cases s2 : (2 : Int) ≤ (e.base.l.length : Int);rotate_left
   · simp only [s0, s1, s2, decide_true, decide_false, Bool.true_and, Bool.false_and, Bool.and_true, Bool.and_false, Bool.and_self] at ez;simp (disch := omega) only [Af, Aj, Ai, s0, s1, s2, ez, go_sem]
   simp (disch := omega) only [Af, Aj, Ai, s0, s1, s2, go_sem];refine Aa (Ru ((e.data.length : Int))) ?_;by_cases s3' : Co ((e.data.length : Int)) = false
   · simp only [s0, s1, s2, s3', decide_true, decide_false, Bool.true_and, Bool.false_and, Bool.and_true, Bool.and_false, Bool.and_self] at ez;simp (disch := omega) only [Af, Aj, Ai, s0, s1, s2, s3', ez, go_sem]
   have s3 : Co ((e.data.length : Int)) = true := by simpa using s3'
   have s3b := of_decide_eq_true s3;simp only [s0, s1, s2, s3, decide_true, decide_false, Bool.true_and, Bool.false_and, Bool.and_true, Bool.and_false, Bool.and_self] at ez;simp (disch := omega) only [Af, Aj, Ai, s0, s1, s2, s3, ez, go_sem]
 · rw [Vk hki] at ez;simp (disch := omega) only [Af, Aj, Ai, Dc, hl, hbl, z1, z2, z3, z4, z5, z6, z7, z8, hki, go_sem];refine Aa (Hx _ _ _) ?_;by_cases s0' : Dh e.dep e.orep e.oseq = false
   · simp only [s0', decide_true, decide_false, Bool.true_and, Bool.false_and, Bool.and_true, Bool.and_false, Bool.and_self] at ez;simp (disch := omega) only [Af, Aj, Ai, s0', ez, go_sem]
   have s0 : Dh e.dep e.orep e.oseq = true := by simpa using s0'
   simp (disch := omega) only [Af, Aj, Ai, s0, go_sem];refine Aa (Xo (l := e.gone.l) (most := 8) hg hgn) ?_;by_cases s1' : Ee e.gone.l 8 e.dep = false
   · simp only [s0, s1', decide_true, decide_false, Bool.true_and, Bool.false_and, Bool.and_true, Bool.and_false, Bool.and_self] at ez;simp (disch := omega) only [Af, Aj, Ai, s0, s1', ez, go_sem]
   have s1 : Ee e.gone.l 8 e.dep = true := by simpa using s1'
   simp only [s0, s1, decide_true, decide_false, Bool.true_and, Bool.false_and, Bool.and_true, Bool.and_false, Bool.and_self] at ez;simp (disch := omega) only [Af, Aj, Ai, s0, s1, ez, go_sem]
 · rw [Vj hki] at ez;simp (disch := omega) only [Af, Aj, Ai, Dc, hl, hbl, z1, z2, z3, z4, z5, z6, z7, z8, hki, go_sem];refine Aa (Hx _ _ _) ?_;by_cases s0' : Dh e.dep e.orep e.oseq = false
   · simp only [s0', decide_true, decide_false, Bool.true_and, Bool.false_and, Bool.and_true, Bool.and_false, Bool.and_self] at ez;simp (disch := omega) only [Af, Aj, Ai, s0', ez, go_sem]
   have s0 : Dh e.dep e.orep e.oseq = true := by simpa using s0'
   simp (disch := omega) only [Af, Aj, Ai, s0, go_sem];refine Aa (Xo (l := e.gone.l) (most := 8) hg hgn) ?_;by_cases s1' : Ee e.gone.l 8 e.dep = false
   · simp only [s0, s1', decide_true, decide_false, Bool.true_and, Bool.false_and, Bool.and_true, Bool.and_false, Bool.and_self] at ez;simp (disch := omega) only [Af, Aj, Ai, s0, s1', ez, go_sem]
   have s1 : Ee e.gone.l 8 e.dep = true := by simpa using s1'
   simp (disch := omega) only [Af, Aj, Ai, s0, s1, go_sem];refine Aa (U8 e) ?_;by_cases s2' : C1 e = false
   · simp only [s0, s1, s2', decide_true, decide_false, Bool.true_and, Bool.false_and, Bool.and_true, Bool.and_false, Bool.and_self] at ez;simp (disch := omega) only [Af, Aj, Ai, s0, s1, s2', ez, go_sem]
   have s2 : C1 e = true := by simpa using s2'
   simp (disch := omega) only [Af, Aj, Ai, s0, s1, s2, go_sem];refine Aa (Aaa _) ?_;by_cases s3' : C6 e.name = false
   · simp only [s0, s1, s2, s3', decide_true, decide_false, Bool.true_and, Bool.false_and, Bool.and_true, Bool.and_false, Bool.and_self] at ez;simp (disch := omega) only [Af, Aj, Ai, s0, s1, s2, s3', ez, go_sem]
   have s3 : C6 e.name = true := by simpa using s3'
   simp only [s0, s1, s2, s3, decide_true, decide_false, Bool.true_and, Bool.false_and, Bool.and_true, Bool.and_false, Bool.and_self] at ez;simp (disch := omega) only [Af, Aj, Ai, s0, s1, s2, s3, ez, go_sem]
 · rw [Vi hki] at ez;by_cases s0 : 1 ≤ e.ward;rotate_left
   · simp only [s0, decide_true, decide_false, Bool.true_and, Bool.false_and, Bool.and_true, Bool.and_false, Bool.and_self] at ez;simp (disch := omega) only [Af, Aj, Ai, Dc, hl, hbl, z1, z2, z3, z4, z5, z6, z7, z8, hki, s0, ez, go_sem]
   by_cases s1 : e.ward ≤ 4;rotate_left
   · simp only [s0, s1, decide_true, decide_false, Bool.true_and, Bool.false_and, Bool.and_true, Bool.and_false, Bool.and_self] at ez;simp (disch := omega) only [Af, Aj, Ai, Dc, hl, hbl, z1, z2, z3, z4, z5, z6, z7, z8, hki, s0, s1, ez, go_sem]
   simp only [s0, s1, decide_true, decide_false, Bool.true_and, Bool.false_and, Bool.and_true, Bool.and_false, Bool.and_self] at ez;simp (disch := omega) only [Af, Aj, Ai, Dc, hl, hbl, z1, z2, z3, z4, z5, z6, z7, z8, hki, s0, s1, ez, go_sem]
 · rw [Vh hki] at ez;simp (disch := omega) only [Af, Aj, Ai, Dc, hl, hbl, z1, z2, z3, z4, z5, z6, z7, z8, hki, ez, go_sem]
theorem Eb {e : Evt} (h1 : Fi e) (h2 : Jy e) : A6 e = (Bp (Bn e) && D9 e) := by simp [A6, h1, h2]
theorem Iq : F3 0 0 = true := rfl
theorem Ajc (l : List K4) (n : Int) (a : Vc) : Ee l n a = (Js a l && decide ((l.length : Int) ≤ n)) := by unfold Ee; rw [Bool.and_comm]
theorem Aqb (f : Int) (s : List UInt8) : (Co f && (decide ((1 : Int) ≤ (s.length : Int)) && (Co (s.length : Int) && Co (f + (s.length : Int))))) = (Co f && (!decide (s = []) && decide ((s.length : Int) ≤ 200 - f))) := by
 have e1 : decide ((1 : Int) ≤ (s.length : Int)) = !decide (s = []) := by
  cases s with
  | nil => rfl
  | cons a s => simp; omega
 rw [e1];unfold Co;by_cases h1 : 0 ≤ f ∧ f ≤ 200
 · rw [decide_eq_true h1, Bool.true_and, Bool.true_and];congr 1;rw [← Bool.decide_and];exact decide_eq_decide.2 (by omega)
 · rw [decide_eq_false h1, Bool.false_and, Bool.false_and]
theorem Ag4 (s : List UInt8) : Co (s.length : Int) = decide ((s.length : Int) ≤ 200) := decide_eq_decide.2 (by omega)
theorem Ave {e : Evt} (h : e.kind = 1) : Bp (Bn e) = Cd e false true false false false false false := by simp [Bp, Bn, Cd, h, Iq, SlI.nil, Bool.and_assoc]
theorem Ac5 {e : Evt} (h1 : Fi e) (h2 : Jy e) (h : e.kind = 1) : A6 e = (Cd e false true false false false false false && (C1 e && (C6 e.name))) := by rw [Eb h1 h2, Ave h, Vp h]
theorem Avd {e : Evt} (h : e.kind = 2) : Bp (Bn e) = Cd e false true false false false false false := by simp [Bp, Bn, Cd, h, Iq, SlI.nil, Bool.and_assoc]
theorem Ac4 {e : Evt} (h1 : Fi e) (h2 : Jy e) (h : e.kind = 2) : A6 e = (Cd e false true false false false false false && (C1 e && (C6 e.name))) := by rw [Eb h1 h2, Avd h, Vo h]
theorem Avc {e : Evt} (h : e.kind = 3) : Bp (Bn e) = Cd e true false false true true true false := by simp [Bp, Bn, Cd, h, Iq, SlI.nil, Bool.and_assoc]
theorem Ac3 {e : Evt} (h1 : Fi e) (h2 : Jy e) (h : e.kind = 3) : A6 e = (Cd e true false false true true true false && (Dh e.dep e.orep e.oseq && (Js e.dep e.base.l && (decide ((e.base.l.length : Int) ≤ 1) && (Co e.off && (!decide (e.data = []) && (decide ((e.data.length : Int) ≤ 200 - e.off)))))))) := by rw [Eb h1 h2, Avc h, Vn h]; simp only [Ajc, Aqb, Bool.and_assoc]
theorem Avb {e : Evt} (h : e.kind = 4) : Bp (Bn e) = Cd e true false false true true false false := by simp [Bp, Bn, Cd, h, Iq, SlI.nil, Bool.and_assoc]
theorem Ac2 {e : Evt} (h1 : Fi e) (h2 : Jy e) (h : e.kind = 4) : A6 e = (Cd e true false false true true false false && (Dh e.dep e.orep e.oseq && (Js e.dep e.base.l && (decide ((e.base.l.length : Int) ≤ 1) && (Co e.off))))) := by rw [Eb h1 h2, Avb h, Vm h]; simp only [Ajc, Aqb, Bool.and_assoc]
theorem Ava {e : Evt} (h : e.kind = 5) : Bp (Bn e) = Cd e true false false true false true false := by simp [Bp, Bn, Cd, h, Iq, SlI.nil, Bool.and_assoc]
theorem Ac1 {e : Evt} (h1 : Fi e) (h2 : Jy e) (h : e.kind = 5) : A6 e = (Cd e true false false true false true false && (Dh e.dep e.orep e.oseq && (Js e.dep e.base.l && (decide ((2 : Int) ≤ (e.base.l.length : Int)) && (decide ((e.base.l.length : Int) ≤ 8) && (decide ((e.data.length : Int) ≤ 200))))))) := by rw [Eb h1 h2, Ava h, Vl h]; simp only [Ajc, Ag4, Bool.and_assoc]; congr 3; cases decide ((e.base.l.length : Int) ≤ 8) <;> cases decide ((2 : Int) ≤ (e.base.l.length : Int)) <;> rfl
theorem Au9 {e : Evt} (h : e.kind = 6) : Bp (Bn e) = Cd e true false true false false false false := by simp [Bp, Bn, Cd, h, Iq, SlI.nil, Bool.and_assoc]
theorem Ac0 {e : Evt} (h1 : Fi e) (h2 : Jy e) (h : e.kind = 6) : A6 e = (Cd e true false true false false false false && (Dh e.dep e.orep e.oseq && (Ee e.gone.l 8 e.dep))) := by rw [Eb h1 h2, Au9 h, Vk h]
theorem Au8 {e : Evt} (h : e.kind = 7) : Bp (Bn e) = Cd e true true true false false false false := by simp [Bp, Bn, Cd, h, Iq, SlI.nil, Bool.and_assoc]
theorem Acz {e : Evt} (h1 : Fi e) (h2 : Jy e) (h : e.kind = 7) : A6 e = (Cd e true true true false false false false && (Dh e.dep e.orep e.oseq && (Ee e.gone.l 8 e.dep && (C1 e && (C6 e.name))))) := by rw [Eb h1 h2, Au8 h, Vj h]
theorem Au7 {e : Evt} (h : e.kind = 8) : Bp (Bn e) = Cd e false false false false false false true := by simp [Bp, Bn, Cd, h, Iq, SlI.nil, Bool.and_assoc]
theorem Acy {e : Evt} (h1 : Fi e) (h2 : Jy e) (h : e.kind = 8) : A6 e = (Cd e false false false false false false true && (decide (1 ≤ e.ward) && (decide (e.ward ≤ 4)))) := by rw [Eb h1 h2, Au7 h, Vi h]
theorem Au6 {e : Evt} (h : e.kind = 9) : Bp (Bn e) = Cd e false false false false false false false := by simp [Bp, Bn, Cd, h, Iq, SlI.nil, Bool.and_assoc]
theorem Acx {e : Evt} (h1 : Fi e) (h2 : Jy e) (h : e.kind = 9) : A6 e = (Cd e false false false false false false false && (true)) := by rw [Eb h1 h2, Au6 h, Vh h]
structure Good (e : Evt) : Prop where
 base : Fi e
 dep : Jy e
 obj : Km (e.orep, e.oseq)
 dir : Km (e.drep, e.dseq)
 gone : (∀ x ∈ e.gone.l, Km x) ∧ e.gone.l.length ≤ 8
 basel : (∀ x ∈ e.base.l, Km x) ∧ e.base.l.length ≤ 8
 name : e.name.length ≤ 12
 off : 0 ≤ e.off ∧ e.off ≤ 200
 data : e.data.length ≤ 200
 ward : 0 ≤ e.ward ∧ e.ward ≤ 4
theorem Mi {a : Vc} {r : Int} {q : Nat} (hd : ∀ i, i < 8 → a i ≤ 1048576) (h : Dh a r q = true) : Km (r, q) := by
 have h := of_decide_eq_true h;unfold Th at h;split at h
 · rename_i hr;have := hd (r - 1).toNat (by omega);exact ⟨by simp only; omega, by simp only; omega, by simp only; omega⟩
 · omega
theorem E1 {r : Int} {q : Nat} (h : F3 r q = true) : Km (r, q) := by
 obtain ⟨rfl, rfl⟩ := of_decide_eq_true h;exact ⟨by decide, by decide, by decide⟩
theorem Ahk {a : Vc} {l : List K4} (hd : ∀ i, i < 8 → a i ≤ 1048576) (h : Js a l = true) : ∀ x ∈ l, Km x := by
 have hr : Ade a l := by simpa [Js] using h
 intro x hx;obtain ⟨j, hj, rfl⟩ := List.getElem_of_mem hx;exact Mi hd (hr j hj).1
theorem D1 {l : List K4} (h : (l.length : Int) = 0) : (∀ x ∈ l, Km x) ∧ l.length ≤ 8 := by
 have : l = [] := List.length_eq_zero_iff.1 (by omega);subst this; simp
theorem R4 {s : List UInt8} (h : C6 s = true) : s.length ≤ 12 := by
 unfold C6 at h;simp only [Bool.and_eq_true, decide_eq_true_eq] at h;exact h.1.2.1
theorem Qd {n : Int} (h : Co n = true) : 0 ≤ n ∧ n ≤ 200 := of_decide_eq_true h
theorem Se {a : Vc} {l : List K4} {n : Int} (hd : ∀ i, i < 8 → a i ≤ 1048576) (hn : n ≤ 8) (h : Ee l n a = true) : (∀ x ∈ l, Km x) ∧ l.length ≤ 8 := by
 unfold Ee at h;simp only [Bool.and_eq_true, decide_eq_true_eq] at h;exact ⟨Ahk hd h.2, by omega⟩
theorem D0 {s : List UInt8} {n : Nat} (h : s = []) : s.length ≤ n := by subst h; simp
theorem Rs {e : Evt} (hd : ∀ i, i < 8 → e.dep i ≤ 1048576) (h : C1 e = true) : Km (e.drep, e.dseq) := by
 unfold C1 at h;rcases Bool.or_eq_true_iff.1 h with h | h
 · exact E1 h
 · exact Mi hd h
theorem H1 {e : Evt} (h : A6 e = true) : Good e := by
 have hB : Fi e := Classical.byContradiction fun hn => by rw [Fy hn] at h; cases h
 have hD : Jy e := Classical.byContradiction fun hn => by rw [Qv hn] at h; cases h
 rw [Eb hB hD] at h;have hk : e.kind = 1 ∨ e.kind = 2 ∨ e.kind = 3 ∨ e.kind = 4 ∨ e.kind = 5 ∨ e.kind = 6 ∨ e.kind = 7 ∨ e.kind = 8 ∨ e.kind = 9 := by have := hB.2.2.2.2.2; omega
 have w0 : ∀ {n : Int}, n = 0 → 0 ≤ n ∧ n ≤ 4 := fun h => by omega
 have o0 : ∀ {n : Int}, n = 0 → 0 ≤ n ∧ n ≤ 200 := fun h => by omega
 rcases hk with k | k | k | k | k | k | k | k | k
 ·
  rw [Ave k, Vp k] at h;simp only [Cd, Bool.and_eq_true, Bool.or_eq_true, decide_eq_true_eq, true_or, false_or, true_and, Bool.false_eq_true, reduceCtorEq, and_true] at h;obtain ⟨⟨m1, m3, m4, m5, m6, m7⟩, k1, k2⟩ := h;exact ⟨hB, hD, E1 m1, Rs hD k1, D1 m3, D1 m4, R4 k2, o0 m5, D0 m6, w0 m7⟩
 ·
  rw [Avd k, Vo k] at h;simp only [Cd, Bool.and_eq_true, Bool.or_eq_true, decide_eq_true_eq, true_or, false_or, true_and, Bool.false_eq_true, reduceCtorEq, and_true] at h;obtain ⟨⟨m1, m3, m4, m5, m6, m7⟩, k1, k2⟩ := h;exact ⟨hB, hD, E1 m1, Rs hD k1, D1 m3, D1 m4, R4 k2, o0 m5, D0 m6, w0 m7⟩
 ·
  rw [Avc k, Vn k] at h;simp only [Cd, Bool.and_eq_true, Bool.or_eq_true, decide_eq_true_eq, true_or, false_or, true_and, Bool.false_eq_true, reduceCtorEq, and_true] at h;obtain ⟨⟨⟨m2, mn⟩, m3, m7⟩, k1, k2, k3, k4, k5, k6⟩ := h;exact ⟨hB, hD, Mi hD k1, E1 m2, D1 m3, Se hD (by decide) k2, D0 mn, Qd k3, by have := Qd k5; omega, w0 m7⟩
 ·
  rw [Avb k, Vm k] at h;simp only [Cd, Bool.and_eq_true, Bool.or_eq_true, decide_eq_true_eq, true_or, false_or, true_and, Bool.false_eq_true, reduceCtorEq, and_true] at h;obtain ⟨⟨⟨m2, mn⟩, m3, m6, m7⟩, k1, k2, k3⟩ := h;exact ⟨hB, hD, Mi hD k1, E1 m2, D1 m3, Se hD (by decide) k2, D0 mn, Qd k3, D0 m6, w0 m7⟩
 ·
  rw [Ava k, Vl k] at h;simp only [Cd, Bool.and_eq_true, Bool.or_eq_true, decide_eq_true_eq, true_or, false_or, true_and, Bool.false_eq_true, reduceCtorEq, and_true] at h;obtain ⟨⟨⟨m2, mn⟩, m3, m5, m7⟩, k1, k2, k3, k4⟩ := h;exact ⟨hB, hD, Mi hD k1, E1 m2, D1 m3, Se hD (by decide) k2, D0 mn, o0 m5, by have := Qd k4; omega, w0 m7⟩
 ·
  rw [Au9 k, Vk k] at h;simp only [Cd, Bool.and_eq_true, Bool.or_eq_true, decide_eq_true_eq, true_or, false_or, true_and, Bool.false_eq_true, reduceCtorEq, and_true] at h;obtain ⟨⟨⟨m2, mn⟩, m4, m5, m6, m7⟩, k1, k2⟩ := h;exact ⟨hB, hD, Mi hD k1, E1 m2, Se hD (by decide) k2, D1 m4, D0 mn, o0 m5, D0 m6, w0 m7⟩
 ·
  rw [Au8 k, Vj k] at h;simp only [Cd, Bool.and_eq_true, Bool.or_eq_true, decide_eq_true_eq, true_or, false_or, true_and, Bool.false_eq_true, reduceCtorEq, and_true] at h;obtain ⟨⟨m4, m5, m6, m7⟩, k1, k2, k3, k4⟩ := h;exact ⟨hB, hD, Mi hD k1, Rs hD k3, Se hD (by decide) k2, D1 m4, R4 k4, o0 m5, D0 m6, w0 m7⟩
 ·
  rw [Au7 k, Vi k] at h;simp only [Cd, Bool.and_eq_true, Bool.or_eq_true, decide_eq_true_eq, true_or, false_or, true_and, Bool.false_eq_true, reduceCtorEq, and_true] at h;obtain ⟨⟨m1, ⟨m2, mn⟩, m3, m4, m5, m6⟩, k1, k2⟩ := h;exact ⟨hB, hD, E1 m1, E1 m2, D1 m3, D1 m4, D0 mn, o0 m5, D0 m6, by omega⟩
 ·
  rw [Au6 k, Vh k] at h;simp only [Cd, Bool.and_eq_true, Bool.or_eq_true, decide_eq_true_eq, true_or, false_or, true_and, Bool.false_eq_true, reduceCtorEq, and_true] at h;obtain ⟨m1, ⟨m2, mn⟩, m3, m4, m5, m6, m7⟩ := h;exact ⟨hB, hD, E1 m1, E1 m2, D1 m3, D1 m4, D0 mn, o0 m5, D0 m6, w0 m7⟩
def Ba (e : Evt) : List (List UInt8) := [Bq e.rep.toNat, Bq e.seq, A4 e.dep (fun _ => 0), Bq e.kind.toNat, P6 (e.orep, e.oseq), P6 (e.drep, e.dseq), e.name, Mg e.gone.l, Mg e.base.l, Bq e.off.toNat, e.data, Bq e.ward.toNat]
def Mv (e : Evt) : List UInt8 := D6 (Ba e)
theorem Qb {n : Int} (h : 0 ≤ n ∧ n < 9223372036854775808) : IntKind.u64.wrap n = ((n.toNat : Nat) : Int) := by
 rw [Jz (by omega)]; omega
theorem Kk {n : Nat} (h : n < 18446744073709551616) : (Bq n).length ≤ 8 := D7 8 n (by omega)
theorem Ml {e : Evt} (g : Good e) : ∀ b ∈ Ba e, b.length ≤ 300 := by
 obtain ⟨b1, b2, b3, b4, b5, b6, b7⟩ := g.base;have h0 := Kk (n := e.rep.toNat) (by omega);have h1 := Kk (n := e.seq) (by omega);have h3 := Kk (n := e.kind.toNat) (by omega);have h9 := Kk (n := e.off.toNat) (by have := g.off; omega);have h11 := Kk (n := e.ward.toNat) (by have := g.ward; omega);have h4 := Hk _ g.obj;have h5 := Hk _ g.dir;have h7 := Sf g.gone.1;have h8 := Sf g.basel.1;have h7' := g.gone.2;have h8' := g.basel.2;have hn := g.name;have hd := g.data;have h2 : (A4 e.dep (fun _ => 0)).length ≤ 300 := by
  have := Kw e.dep (fun _ => 0) (fun i hi => by have := g.dep i hi; omega) (by simp) 8 (by omega);simp only [A4, List.length_cons]; omega
 intro b hb;simp only [Ba, List.mem_cons, List.not_mem_nil, or_false] at hb;rcases hb with rfl | rfl | rfl | rfl | rfl | rfl | rfl | rfl | rfl | rfl | rfl | rfl <;> omega
theorem Kp {e : Evt} (g : Good e) : Bo (Ba e) ≤ 3636 := by
 have h := Ml g;have key : ∀ L : List (List UInt8), (∀ b ∈ L, b.length ≤ 300) → Bo L ≤ 303 * L.length := by
  intro L
  induction L with
  | nil => intro _; simp [Bo]
  | cons b L ih =>
    intro hb;have h1 := hb b List.mem_cons_self;have h2 := ih fun c hc => hb c (List.mem_cons_of_mem _ hc);simp only [Bo, List.length_cons]; omega
 have := key _ h;simpa [Ba] using this
set_option maxHeartbeats 400000 in
theorem Ab5 (e : Evt) (he : ev e) (hc : A6 e = true) {h d} : FunOk Try.prog 26 [.vec 21 (Bw e)] h d (.tup [.os d, .pv (.i .i64 0)]) [.new d (.row 1 (Ac (Mv e)))] := by
 refine Si An fn26 (by simp) rfl (.inr (G5 _)) rfl fun F => ?_;have g := H1 hc;obtain ⟨b1, b2, b3, b4, b5, b6, b7⟩ := g.base;have hdep := g.dep;have w0 := Qb (n := e.rep) (by omega);have w1 : IntKind.u64.wrap (e.seq : Int) = (e.seq : Int) := Jz (by omega);have w3 := Qb (n := e.kind) (by omega);have w9 := Qb (n := e.off) (by have := g.off; omega);have w11 := Qb (n := e.ward) (by have := g.ward; omega);obtain ⟨hg1, hg2, hg3, hg4, hg5⟩ := he;simp (disch := omega) only [ir26, go_sem];refine Aa (Ab9 e ⟨hg1, hg2, hg3, hg4, hg5⟩) ?_;simp (disch := omega) only [hc, w0, w1, w3, w9, w11, go_sem];refine Aa (Rz e.rep.toNat (by omega)) ?_;simp (disch := omega) only [hc, w0, w1, w3, w9, w11, go_sem];refine Aa (Rz e.seq (by omega)) ?_;simp (disch := omega) only [hc, w0, w1, w3, w9, w11, Abn, go_sem];refine Aa (Rw e.dep (fun _ => 0) (fun i hi => by have := hdep i hi; omega) (by simp)) ?_;simp (disch := omega) only [hc, w0, w1, w3, w9, w11, go_sem];refine Aa (Rz e.kind.toNat (by omega)) ?_;simp (disch := omega) only [hc, w0, w1, w3, w9, w11, go_sem];refine Aa (Om (e.orep, e.oseq) g.obj) ?_;simp (disch := omega) only [hc, w0, w1, w3, w9, w11, go_sem];refine Aa (Om (e.drep, e.dseq) g.dir) ?_;simp (disch := omega) only [hc, w0, w1, w3, w9, w11, go_sem];refine Aa (Ma (l := e.gone.l) rfl rfl hg1 hg3 g.gone.1) ?_;simp (disch := omega) only [hc, w0, w1, w3, w9, w11, go_sem];refine Aa (Ma (l := e.base.l) rfl rfl hg2 hg4 g.basel.1) ?_;simp (disch := omega) only [hc, w0, w1, w3, w9, w11, go_sem];refine Aa (Rz e.off.toNat (by have := g.off; omega)) ?_;simp (disch := omega) only [hc, w0, w1, w3, w9, w11, go_sem];refine Aa (Rz e.ward.toNat (by have := g.ward; omega)) ?_;simp (disch := omega) only [hc, w0, w1, w3, w9, w11, go_sem];refine Aa (Z9 (f := false) (z := 1) (es := (Ba e).map bE) (L := Ba e) rfl rfl (Sw _) (.inr rfl) (by have := Kp g; omega) (fun b hb => by have := Ml g b hb; omega)) ?_;have hW : Mv e = D6 (Ba e) := rfl;rw [hW];generalize D6 (Ba e) = W;generalize hR : (fun (y : SV) (g : Nat → Option Blk) => ∃ n, y = SV.tup [SV.os n, SV.pv (PV.i .i64 0)] ∧ g n = some (Blk.row 1 (Ac W))) = R;simp (disch := omega) only [go_sem];rw [← hR];exact ⟨52, rfl, rfl⟩
theorem Vx {x : K4} (h : Km x) : Ro (P6 x) = x := by
 obtain ⟨h1, h2, h3⟩ := h;obtain ⟨r, q⟩ := x;simp only at h1 h2 h3;by_cases hz : r = 0 ∧ q = 0
 · obtain ⟨rfl, rfl⟩ := hz; rfl
 · have e : P6 (r, q) = UInt8.ofNat r.toNat :: Bq q := if_neg hz;rw [e];unfold Ro;have ea : Cj (Bq q) = (q, 0) := Ms (by omega);rw [List.drop_succ_cons, List.drop_zero, ea, if_pos ⟨by simp, rfl, h3⟩];simp only [List.getD_cons_zero];rw [UInt8.toNat_ofNat'];exact Prod.ext (by simp only; omega) rfl
theorem Gv {n : Nat} (h : n ≤ 1073741824) : Gw (Bq n) = n := by
 unfold Gw;rw [Ms (by omega), if_pos ⟨rfl, h⟩]
def Uu (l : List K4) (k : Nat) : FS := mk [(22, .pv (.i .i64 k)), (21, .pv (.i .i64 l.length)), (20, .os 14), (8, .os 40), (0, .pv (.sl false 1 (Ac (Mg l))))] [(40, some (.row 2 ((l.take k).map Lw))), (14, some (.row 1 ((l.map P6).map bE)))]
set_option maxHeartbeats 2000000 in
theorem Ni {l : List K4} (hn : l.length ≤ 8) (hok : ∀ y ∈ l, Km y) {h d} :
 FunOk Try.prog 45 [.pv (.sl false 1 (Ac (Mg l))), .pv (.i .i64 8)] h d (.tup [.pv (.sl false 2 (l.map Lw)), .pv (.i .i64 0)]) [] := by
 refine Li An fn45 (by simp) rfl rfl fun F => ?_;have hw := Sf hok;have hu : B0 (Mg l) [] 8 = (l.map P6, 0) := It (l.map P6) 8 (fun b hb => by
  obtain ⟨y, hy, rfl⟩ := List.mem_map.1 hb;have := Hk y (hok y hy); omega) (by simp; omega)
 simp (disch := omega) only [ir45, go_sem];refine Aa (Ng (f := false) (z := 1) (b := Mg l) (most := 8) (.inr rfl) (by omega)) ?_;rw [hu]
 (try simp only [E0, Ez, Ey, Ew, Ev, Eu, Et, Er]); simp (disch := omega) only [go_sem]
 refine A7 An (Uu l) (fun k => k ≤ l.length) (fun k => l.length - k) 0 (by simp) (Zh 8 40 2 rfl (by omega) (Ar ?_ ?_)) fun k hk => ?_
 · simp (disch := omega) only [go_sem]
 · simp (disch := omega) only [go_sem];rfl
 by_cases hlt : k < l.length
 · have he : ((l.map P6).map bE)[k]? = some (bE (P6 l[k])) := by simp [hlt]
   have ht : l.take (k + 1) = l.take k ++ [l[k]] := by rw [List.take_add_one, List.getElem?_eq_getElem hlt]; rfl
   have hm := hok l[k] (List.getElem_mem hlt);generalize l[k] = y at *;have hil := Hk y hm;have hib := Vx hm;have hkl : (l.take k).length ≤ 8 := by simp; omega
   simp (disch := omega) only [Uu, he, bE, Ih, go_sem];refine Aa (Rx (f := false) (z := 1) (b := P6 y) (.inr rfl) (by omega)) ?_;simp (disch := omega) only [hib, go_sem];refine ⟨k + 1, by omega, by omega, C0 30 40 (by decide) rfl (Ar ?_ ?_)⟩
   · simp (disch := omega) only [go_sem]
   · simp (disch := omega) only [ht, List.map_append, List.map_cons, List.map_nil, Lw, bE, go_sem]
 · obtain rfl : k = l.length := by omega
   have e := List.take_length (l := l);have hself : decide (Mg l = Mg l) = true := by simp
   simp (disch := omega) only [Uu, e, go_sem];refine Aa (Ma (f := false) (z := 2) (l := l) rfl rfl (.inr rfl) (by omega) hok) ?_;simp (disch := omega) only [go_sem];refine Aa (Xp (f := false) (g := false) (y := 1) (z := 1) (a := Mg l) (b := Mg l) rfl rfl (.inr rfl) (.inr rfl) (by omega) (by omega)) ?_
   (try simp only [E0, Ez, Ey, Ew, Ev, Eu, Et, Er]); simp (disch := omega) only [hself, go_sem]
   refine ⟨_, J0 40 rfl (.same _), ?_⟩
   (try simp only [E0, Ez, Ey, Ew, Ev, Eu, Et, Er]); simp (disch := omega) only [go_sem]
def A5 (e : Evt) : Evt := { e with gone := ⟨false, 2, e.gone.l⟩, base := ⟨false, 2, e.base.l⟩ }
theorem Pr (e : Evt) : A6 (A5 e) = A6 e := by
 by_cases hB : Fi e
 · by_cases hD : Jy e
   · have hB' : Fi (A5 e) := hB;have hD' : Jy (A5 e) := hD;have hk : e.kind = 1 ∨ e.kind = 2 ∨ e.kind = 3 ∨ e.kind = 4 ∨ e.kind = 5 ∨ e.kind = 6 ∨ e.kind = 7 ∨ e.kind = 8 ∨ e.kind = 9 := by have := hB.2.2.2.2.2; omega
     rcases hk with k | k | k | k | k | k | k | k | k
     · rw [Ac5 hB hD k, Ac5 hB' hD' k]; rfl
     · rw [Ac4 hB hD k, Ac4 hB' hD' k]; rfl
     · rw [Ac3 hB hD k, Ac3 hB' hD' k]; rfl
     · rw [Ac2 hB hD k, Ac2 hB' hD' k]; rfl
     · rw [Ac1 hB hD k, Ac1 hB' hD' k]; rfl
     · rw [Ac0 hB hD k, Ac0 hB' hD' k]; rfl
     · rw [Acz hB hD k, Acz hB' hD' k]; rfl
     · rw [Acy hB hD k, Acy hB' hD' k]; rfl
     · rw [Acx hB hD k, Acx hB' hD' k]; rfl
   · rw [Qv hD, Qv (e := A5 e) hD]
 · rw [Fy hB, Fy (e := A5 e) hB]
def Ri (e : Evt) : List SV := [.pv (.i .i64 e.rep), .pv (.i .u32 e.seq), .vec 8 (vE e.dep), .pv (.i .i64 e.kind), .pv (.i .i64 e.orep), .pv (.i .u32 e.oseq), .pv (.i .i64 e.drep), .pv (.i .u32 e.dseq), .pv (.s e.name), .pv e.gone.pv, .pv e.base.pv, .pv (.i .i64 e.off), .pv (.s e.data), .pv (.i .i64 e.ward)]
theorem K9 (e : Evt) : SV.cellsL? (Ri e) = some (Bw e) := rfl
set_option maxHeartbeats 8000000 in
theorem Tx (e : Evt) (hc : A6 e = true) (he : ev e) {h d} : FunOk Try.prog 30 [.pv (.sl false 1 (Ac (Mv e)))] h d (.tup [.agg (Ri (A5 e)), .pv (.i .i64 0)]) [] := by
 refine Aw An fn30 (by simp) rfl rfl fun F => ?_;have g := H1 hc;obtain ⟨b1, b2, b3, b4, b5, b6, b7⟩ := g.base;have hpk := Kp g;have hlen := Fl (Ba e);have hfl := Ml g;have hu : B0 (Mv e) [] 12 = (Ba e, 0) := It (Ba e) 12 (fun b hb => by have := hfl b hb; omega) (by simp [Ba]);have hel : (Mv e).length ≤ 3636 := by unfold Mv; omega
 have hl12 : ((Ba e).map bE).length = 12 := rfl;have f0 : ((Ba e).map bE)[0]? = some [.sl false 1 (Ac (Bq e.rep.toNat))] := rfl;have f1 : ((Ba e).map bE)[Int.toNat 1]? = some [.sl false 1 (Ac (Bq e.seq))] := rfl;have f2 : ((Ba e).map bE)[Int.toNat 2]? = some [.sl false 1 (Ac (A4 e.dep (fun _ => 0)))] := rfl;have f3 : ((Ba e).map bE)[Int.toNat 3]? = some [.sl false 1 (Ac (Bq e.kind.toNat))] := rfl;have f4 : ((Ba e).map bE)[Int.toNat 4]? = some [.sl false 1 (Ac (P6 (e.orep, e.oseq)))] := rfl;have f5 : ((Ba e).map bE)[Int.toNat 5]? = some [.sl false 1 (Ac (P6 (e.drep, e.dseq)))] := rfl;have f6 : ((Ba e).map bE)[Int.toNat 6]? = some [.sl false 1 (Ac e.name)] := rfl;have f7 : ((Ba e).map bE)[Int.toNat 7]? = some [.sl false 1 (Ac (Mg e.gone.l))] := rfl;have f8 : ((Ba e).map bE)[Int.toNat 8]? = some [.sl false 1 (Ac (Mg e.base.l))] := rfl;have f9 : ((Ba e).map bE)[Int.toNat 9]? = some [.sl false 1 (Ac (Bq e.off.toNat))] := rfl;have f10 : ((Ba e).map bE)[Int.toNat 10]? = some [.sl false 1 (Ac e.data)] := rfl;have f11 : ((Ba e).map bE)[Int.toNat 11]? = some [.sl false 1 (Ac (Bq e.ward.toNat))] := rfl;have q3 := hfl (Bq e.kind.toNat) (by simp [Ba]);have q9 := hfl (Bq e.off.toNat) (by simp [Ba]);have q11 := hfl (Bq e.ward.toNat) (by simp [Ba]);have q0 := hfl (Bq e.rep.toNat) (by simp [Ba]);have q1 := hfl (Bq e.seq) (by simp [Ba]);have q4 := Hk _ g.obj;have q5 := Hk _ g.dir;have s3 : Gw (Bq e.kind.toNat) = e.kind := by rw [Gv (by omega)]; omega
 have s9 : Gw (Bq e.off.toNat) = e.off := by have := g.off; rw [Gv (by omega)]; omega
 have s11 : Gw (Bq e.ward.toNat) = e.ward := by have := g.ward; rw [Gv (by omega)]; omega
 have s0 : Gw (Bq e.rep.toNat) = e.rep := by rw [Gv (by omega)]; omega
 have s1 : Gw (Bq e.seq) = (e.seq : Int) := Gv (by omega);have i4 : Ro (P6 (e.orep, e.oseq)) = (e.orep, e.oseq) := Vx g.obj;have i5 : Ro (P6 (e.drep, e.dseq)) = (e.drep, e.dseq) := Vx g.dir;simp (disch := omega) only [ir30, go_sem];refine Aa (Ng (f := false) (z := 1) (b := Mv e) (most := 12) (.inr rfl) (by omega)) ?_;rw [hu];generalize hE : (Ba e).map bE = E at *
 (try simp only [E0, Ez, Ey, Ew, Ev, Eu, Et, Er]); simp (disch := omega) only [hl12, f3, f4, f5, f6, f9, f10, f11, Cw, go_sem]
 refine Aa (Nh (f := false) (z := 1) (b := Bq e.kind.toNat) (.inr rfl) (by omega)) ?_;simp (disch := omega) only [hl12, f3, f4, f5, f6, f9, f10, f11, Cw, s3, go_sem];refine Aa (Rx (f := false) (z := 1) (b := P6 (e.orep, e.oseq)) (.inr rfl) (by omega)) ?_;simp (disch := omega) only [hl12, f3, f4, f5, f6, f9, f10, f11, Cw, i4, go_sem];refine Aa (Rx (f := false) (z := 1) (b := P6 (e.drep, e.dseq)) (.inr rfl) (by omega)) ?_;simp (disch := omega) only [hl12, f3, f4, f5, f6, f9, f10, f11, Cw, i5, go_sem];refine Aa (Nh (f := false) (z := 1) (b := Bq e.off.toNat) (.inr rfl) (by omega)) ?_;simp (disch := omega) only [hl12, f3, f4, f5, f6, f9, f10, f11, Cw, s9, go_sem];refine Aa (Nh (f := false) (z := 1) (b := Bq e.ward.toNat) (.inr rfl) (by omega)) ?_;simp (disch := omega) only [hl12, f0, f1, f2, f7, f8, Cw, s11, go_sem];refine Aa (Nh (f := false) (z := 1) (b := Bq e.rep.toNat) (.inr rfl) (by omega)) ?_;simp (disch := omega) only [hl12, f0, f1, f2, f7, f8, Cw, s0, go_sem];refine Aa (Nh (f := false) (z := 1) (b := Bq e.seq) (.inr rfl) (by omega)) ?_;simp (disch := omega) only [hl12, f0, f1, f2, f7, f8, Cw, s1, go_sem];have hmx : max (0 : Int) (e.seq : Int) = (e.seq : Int) := by omega
 have hgs := E8 e.dep (fun _ => 0) (fun i hi => by have := g.dep i hi; omega) (by simp);have hge : vE (Fg (A4 e.dep fun _ => 0) fun _ => 0).1 = vE e.dep := J1 hgs.2;have hs2 := Kw e.dep (fun _ => 0) (fun i hi => by have := g.dep i hi; omega) (by simp) 8 (by omega);have hsl : (A4 e.dep (fun _ => 0)).length ≤ 42 := by simp only [A4, List.length_cons]; omega
 refine Aa (R0 (l := A4 e.dep fun _ => 0) (fun _ => 0) (by simp) (by omega) rfl rfl (.inr rfl)) ?_;rw [hge, hgs.1];simp (disch := omega) only [hl12, f7, f8, Cw, hmx, go_sem];refine Aa (Ni g.gone.2 g.gone.1) ?_;simp (disch := omega) only [hl12, f7, f8, Cw, hmx, go_sem];refine Aa (Ni g.basel.2 g.basel.1) ?_;simp (disch := omega) only [hmx, go_sem];have hev : ev (A5 e) := ⟨.inr rfl, .inr rfl, he.2.2.1, he.2.2.2.1, he.2.2.2.2⟩
 refine Aa ((Ab5 (A5 e) hev (by rw [Pr]; exact hc)).imp ⟨Lh (by rfl) (Bu (A5 e)), trivial⟩ (by simp [A2, tn])) ?_;have hcb : Mv (A5 e) = Mv e := rfl;rw [hcb];have hself : decide (Mv e = Mv e) = true := by simp
 simp (disch := omega) only [go_sem];refine Aa (Xp (f := false) (g := false) (y := 1) (z := 1) (a := Mv e) (b := Mv e) rfl rfl (.inr rfl) (.inr rfl) (by omega) (by omega)) ?_
 (try simp only [E0, Ez, Ey, Ew, Ev, Eu, Et, Er]); simp (disch := omega) only [hself, Ri, A5, go_sem]
abbrev Ag8 : Sh := .st [Wy, .arr 8 (.int .u32), .int .i64, Wy, Wy, .str, .sl Wy, .sl Wy, .int .i64, .str, .int .i64]
theorem Aus {cs : List PV} (h : GC Ag8 cs) : ∃ e : Evt, cs = Bw e ∧ (∀ i, i < 8 → e.dep i < 4294967296) ∧ e.gone.ok ∧ e.base.ok ∧ e.name.length ≤ maxLen ∧ e.data.length ≤ maxLen := by
 simp only [GC] at h;simp only [GCL] at h;obtain ⟨c0, r0, rfl, g0, c1, r1, rfl, g1, c2, r2, rfl, ⟨n2, rfl, w2⟩, c3, r3, rfl, g3, c4, r4, rfl, g4, c5, r5, rfl, ⟨s5, rfl, w5⟩, c6, r6, rfl, g6, c7, r7, rfl, g7, c8, r8, rfl, ⟨n8, rfl, w8⟩, c9, r9, rfl, ⟨s9, rfl, w9⟩, c10, r10, rfl, ⟨n10, rfl, w10⟩, rfl⟩ := h;obtain ⟨b0, rfl, hb0⟩ := Zd (by simp only [GC]; exact g0);obtain ⟨a, rfl, ha⟩ := Alr (by simp only [GC]; exact g1);obtain ⟨b3, rfl, hb3⟩ := Zd (by simp only [GC]; exact g3);obtain ⟨b4, rfl, hb4⟩ := Zd (by simp only [GC]; exact g4);obtain ⟨e6, rfl, l6, g6⟩ := Adf (s := Wy) (by simp only [GC]; exact g6);obtain ⟨e7, rfl, l7, g7⟩ := Adf (s := Wy) (by simp only [GC]; exact g7);obtain ⟨m6, rfl, _⟩ := Sq (f := Lw) Zd g6;obtain ⟨m7, rfl, _⟩ := Sq (f := Lw) Zd g7;exact ⟨⟨b0.1, b0.2, a, n2, b3.1, b3.2, b4.1, b4.2, s5, ⟨false, 2, m6⟩, ⟨false, 2, m7⟩, n8, s9, n10⟩, by simp [Bw, Lw, SlI.pv]; rfl, ha, .inr rfl, .inr rfl, w5, w9⟩
theorem Asu (n : Nat) (e : Evt) : SV.killL n (Ri e) = Ri e := rfl
theorem Aqg (e : Evt) : SV.widthL (Ri e) = 21 := rfl
theorem Aox (e : Evt) : SV.flatBL (Ri e) = true := rfl
theorem Aor (n : Nat) (v : PV) (e : Evt) : SV.frzL n v (Ri e) = Ri e := rfl
attribute [go_sem] Asu Aqg Aox Aor
theorem Ad0 (e : Evt) : Cg e (A5 e) = true := by
 simp [Cg, A5, Ze]
theorem Akm {e : Evt} (h : ev e) : ev (A5 e) := ⟨.inr rfl, .inr rfl, h.2.2.1, h.2.2.2.1, h.2.2.2.2⟩
structure Msg where
 k : Int
 fr : Int
 to : Int
 kn : Vc
 tb : Nat → Vc
 f : Bool
 z : Nat
 evs : List Evt
def Ch (m : Msg) : List PV := [.i .i64 m.k, .i .i64 m.fr, .i .i64 m.to] ++ vE m.kn ++ tE m.tb ++ [.sl m.f m.z (m.evs.map Bw)]
def E4 (m : Msg) : List SV := [.pv (.i .i64 m.k), .pv (.i .i64 m.fr), .pv (.i .i64 m.to), .vec 8 (vE m.kn), .vec 64 (tE m.tb), .pv (.sl m.f m.z (m.evs.map Bw))]
theorem D8 (m : Msg) : (Ch m).length = 76 := by simp [Ch, vE, tE, Cm]
theorem Fk (m : Msg) : SV.cellsL? (E4 m) = some (Ch m) := rfl
theorem Ask (m : Msg) (K : KK) : LoadK (some (Ch m)) 0 1 false K = K (.pv (.i .i64 m.k)) [] := by
 simp only [LoadK, Ja, eq_iff_iff];exact ⟨fun h => h.2.2, fun h => ⟨by simp [Ch, vE, tE, Cm], .inr trivial, h⟩⟩
theorem Asj (m : Msg) (K : KK) : LoadK (some (Ch m)) 1 1 false K = K (.pv (.i .i64 m.fr)) [] := by
 simp only [LoadK, Ja, eq_iff_iff];exact ⟨fun h => h.2.2, fun h => ⟨by simp [Ch, vE, tE, Cm], .inr trivial, h⟩⟩
theorem Asi (m : Msg) (K : KK) : LoadK (some (Ch m)) 2 1 false K = K (.pv (.i .i64 m.to)) [] := by
 simp only [LoadK, Ja, eq_iff_iff];exact ⟨fun h => h.2.2, fun h => ⟨by simp [Ch, vE, tE, Cm], .inr trivial, h⟩⟩
theorem Anq (m : Msg) (K : KK) : LoadK (some (Ch m)) 75 1 false K = K (.pv (.sl m.f m.z (m.evs.map Bw))) [] := by
 simp only [LoadK, Ja, eq_iff_iff];exact ⟨fun h => h.2.2, fun h => ⟨by simp [Ch, vE, tE, Cm], .inr trivial, h⟩⟩
theorem Ash (m : Msg) (K : KK) : LoadK (some (Ch m)) 3 8 true K = K (.vec 8 (vE m.kn)) [] := by
 simp only [LoadK, Ja, eq_iff_iff];exact ⟨fun h => h.2.2, fun h => ⟨by simp [Ch, vE, tE, Cm], .inl trivial, h⟩⟩
theorem Asg (m : Msg) (K : KK) : LoadK (some (Ch m)) 11 64 true K = K (.vec 64 (tE m.tb)) [] := by
 simp only [LoadK, Ja, eq_iff_iff];exact ⟨fun h => h.2.2, fun h => ⟨by simp [Ch, vE, tE, Cm], .inl trivial, h⟩⟩
theorem Aw8 (m : Msg) (K : KK) : LoadK (some (Ch m)) 0 76 true K = K (.vec 76 (Ch m)) [] := I5 (D8 m) K
attribute [go_sem] Ask Asj Asi Anq Ash Asg Aw8 D8
theorem Ast (n : Nat) (m : Msg) : SV.killL n (E4 m) = E4 m := rfl
theorem Aqf (m : Msg) : SV.widthL (E4 m) = 76 := rfl
theorem Aow (m : Msg) : SV.flatBL (E4 m) = true := rfl
theorem Aoq (n : Nat) (v : PV) (m : Msg) : SV.frzL n v (E4 m) = E4 m := rfl
attribute [go_sem] Ast Aqf Aow Aoq
def mv (m : Msg) : Prop := (m.evs = [] ∨ m.z = 21) ∧ m.evs.length ≤ 1000 ∧ (∀ e ∈ m.evs, ev e ∧ ∀ i, i < 8 → e.dep i < 4294967296) ∧ (∀ i, i < 8 → m.kn i < 4294967296) ∧ ∀ i, i < 8 → ∀ j, j < 8 → m.tb i j < 4294967296
def Pz (m : Msg) : Prop := (m.k = 1 ∨ m.k = 2) ∧ (1 ≤ m.fr ∧ m.fr ≤ 8) ∧ (1 ≤ m.to ∧ m.to ≤ 8) ∧ m.fr ≠ m.to ∧ m.evs.length ≤ 8 ∧ (m.k = 1 → m.evs.length = 0)
noncomputable def Ci (m : Msg) : Bool := open Classical in decide (Pz m) && m.evs.all A6
theorem C9 {m : Msg} (h : ¬ Pz m) : Ci m = false := by simp [Ci, h]
theorem Io {m : Msg} (h : Pz m) : Ci m = m.evs.all A6 := by simp [Ci, h]
def Hw (n : Int) : Bool := decide (1 ≤ n ∧ n ≤ 8)
theorem U7 (n : Int) {h d} : FunOk Try.prog 33 [.pv (.i .i64 n)] h d (.pv (.b (Hw n))) [] := by
 refine Aw An fn33 (by simp) rfl rfl fun F => ?_;by_cases h1 : 1 ≤ n
 · have e : Hw n = decide (n ≤ 8) := by simp [Hw, h1]
   simp (disch := omega) only [ir33, h1, e, go_sem]
 · have e : Hw n = false := by simp [Hw, h1]
   simp (disch := omega) only [ir33, h1, e, go_sem]
theorem Ar1 (e : Evt) (he : ev e) {h d} : FunOk Try.prog 35 [.vec 21 (Bw e)] h d (.pv (.b (!A6 e))) [] := by
 refine Aw An fn35 (by simp) rfl rfl fun F => ?_;simp (disch := omega) only [ir35, go_sem];refine Aa (Ab9 e he) ?_;simp (disch := omega) only [go_sem]
def Zm (f : Bool) (z : Nat) (l : List Evt) (k : Nat) : FS := mk [(8, .pv (.i .i64 k)), (7, .pv (.i .i64 l.length)), (0, .pv (.sl f z (l.map Bw))), (1, .fn (.func 35) [])] []
theorem Ah5 {f : Bool} {z : Nat} {l : List Evt} (hz : l = [] ∨ z = 21) (hl : ∀ e ∈ l, ev e) (hn : l.length ≤ 1000) :
 ∃ n : Int, (0 ≤ n ↔ l.all A6 = false) ∧ ∀ h d, FunOk Try.prog 47 [.pv (.sl f z (l.map Bw)), .fn (.func 35) []] h d (.pv (.i .i64 n)) [] := by
 refine ⟨if l.findIdx (fun e => !A6 e) < l.length then (l.findIdx (fun e => !A6 e) : Int) else -1, ?_, ?_⟩
 · by_cases hi : l.findIdx (fun e => !A6 e) < l.length
   · rw [if_pos hi];obtain ⟨x, hx, hp⟩ := List.findIdx_lt_length.1 hi;refine ⟨fun _ => ?_, fun _ => by omega⟩;rw [List.all_eq_false];exact ⟨x, hx, by simpa using hp⟩
   · rw [if_neg hi];refine ⟨fun h => by omega, fun h => ?_⟩;rw [List.all_eq_false] at h;obtain ⟨x, hx, hp⟩ := h;exact absurd (List.findIdx_lt_length.2 ⟨x, hx, by simpa using hp⟩) hi
 intro h d;refine Aw An fn47 (by simp) rfl rfl fun F => ?_;simp (disch := omega) only [ir47, List.length_map, go_sem];refine A7 An (Zm f z l) (fun k => k ≤ l.length ∧ ∀ j, (hj : j < l.length) → j < k → A6 l[j] = true) (fun k => l.length - k) 0 (by simp) (Ar ?_ ?_) fun k hk => ?_
 · simp (disch := omega) only [go_sem]
 · simp (disch := omega) only [go_sem]
 obtain ⟨hk1, hk2⟩ := hk;by_cases hlt : k < l.length
 · have hz2 : z = 21 := hz.resolve_left fun e => by subst e; simp at hlt
   subst hz2;have he : (l.map Bw)[k]? = some (Bw l[k]) := by simp [hlt]
   have hv := Bu l[k];simp (disch := omega) only [Zm, List.length_map, he, E6, go_sem];refine Aa (Ar1 l[k] (hl _ (List.getElem_mem hlt))) ?_;by_cases hp : A6 l[k] = true
   · simp (disch := omega) only [hp, go_sem];refine Az (k + 1) _ _ rfl ⟨by omega, fun j hj hjk => ?_⟩ (by omega) ?_ ?_
     · by_cases e : j = k
       · subst e; exact hp
       · exact hk2 j hj (by omega)
     · simp (disch := omega) only [go_sem]
     · simp (disch := omega) only [go_sem]
   · have hp' : A6 l[k] = false := by simpa using hp
     have e : l.findIdx (fun e => !A6 e) = k := (List.findIdx_eq hlt).2 ⟨by simp [hp'], fun j hj => by simp [hk2 j (by omega) hj]⟩;simp (disch := omega) only [hp', e, hlt, go_sem]
 · obtain rfl : k = l.length := by omega
   have e : l.findIdx (fun e => !A6 e) = l.length := List.findIdx_eq_length.2 fun x hx => by
    obtain ⟨j, hj, rfl⟩ := List.getElem_of_mem hx;simp [hk2 j hj hj]
   simp (disch := omega) only [Zm, e, hlt, go_sem]
theorem Ab8 {f : Bool} {z : Nat} {l : List Evt} (hz : l = [] ∨ z = 21) (hl : ∀ e ∈ l, ev e) (hn : l.length ≤ 1000) {h d} :
 FunOk Try.prog 34 [.pv (.sl f z (l.map Bw)), .fn (.func 35) []] h d (.pv (.b (!l.all A6))) [] := by
 refine Aw An fn34 (by simp) rfl rfl fun F => ?_;simp (disch := omega) only [ir34, go_sem];obtain ⟨n, hn', hc⟩ := Ah5 (f := f) (z := z) hz hl hn;refine Aa (hc _ _) ?_;cases ha : l.all A6
 · have h0 : 0 ≤ n := hn'.2 ha;simp (disch := omega) only [h0, go_sem]
 · have h0 : ¬ 0 ≤ n := fun h => by rw [hn'.1 h] at ha; cases ha
   simp (disch := omega) only [h0, go_sem]
set_option maxHeartbeats 8000000 in
theorem Xs (m : Msg) (hm : mv m) {h d} : FunOk Try.prog 24 [.vec 76 (Ch m)] h d (.pv (.b (Ci m))) [] := by
 refine Aw An fn24 (by simp) rfl rfl fun F => ?_;obtain ⟨h1, h2, h3, h4, h5⟩ := hm;by_cases k1 : m.k = 1 ∨ m.k = 2;rotate_left
 · have e := C9 (m := m) fun h => k1 h.1;have n1 : ¬ m.k = 1 := fun h => k1 (.inl h);have n2 : ¬ m.k = 2 := fun h => k1 (.inr h);simp (disch := omega) only [ir24, List.length_map, n1, n2, e, go_sem]
 rcases k1 with hk | hk
 ·
  simp (disch := omega) only [ir24, List.length_map, hk, go_sem];refine Aa (U7 m.fr) ?_;by_cases r1 : 1 ≤ m.fr ∧ m.fr ≤ 8;rotate_left
  · have e := C9 (m := m) fun h => r1 h.2.1;have er : Hw m.fr = false := by simp only [Hw, r1, decide_false]
    simp (disch := omega) only [er, e, go_sem]
  have er : Hw m.fr = true := by simp only [Hw, r1, and_self, decide_true]
  simp (disch := omega) only [er, go_sem];refine Aa (U7 m.to) ?_;by_cases r2 : 1 ≤ m.to ∧ m.to ≤ 8;rotate_left
  · have e := C9 (m := m) fun h => r2 h.2.2.1;have er : Hw m.to = false := by simp only [Hw, r2, decide_false]
    simp (disch := omega) only [er, e, go_sem]
  have er : Hw m.to = true := by simp only [Hw, r2, and_self, decide_true]
  by_cases r3 : m.fr = m.to
  · have e := C9 (m := m) fun h => h.2.2.2.1 r3;simp (disch := omega) only [er, r3, e, go_sem]
  by_cases r4 : (8 : Int) < (m.evs.length : Int)
  · have e := C9 (m := m) fun h => by have := h.2.2.2.2.1; omega
    simp (disch := omega) only [er, r3, r4, e, go_sem]
  by_cases r5 : (0 : Int) < (m.evs.length : Int)
  · have e := C9 (m := m) fun h => by have := h.2.2.2.2.2 hk; omega
    simp (disch := omega) only [er, r3, r4, hk, r5, e, List.length_map, go_sem]
  have e := Io (m := m) ⟨.inl hk, r1, r2, r3, by omega, fun _ => by omega⟩;simp (disch := omega) only [er, r3, r4, hk, r5, List.length_map, go_sem];refine Aa (Ab8 h1 (fun e he => (h3 e he).1) h2) ?_;simp (disch := omega) only [e, Bool.not_not, go_sem]
 ·
  simp (disch := omega) only [ir24, List.length_map, hk, go_sem];refine Aa (U7 m.fr) ?_;by_cases r1 : 1 ≤ m.fr ∧ m.fr ≤ 8;rotate_left
  · have e := C9 (m := m) fun h => r1 h.2.1;have er : Hw m.fr = false := by simp only [Hw, r1, decide_false]
    simp (disch := omega) only [er, e, go_sem]
  have er : Hw m.fr = true := by simp only [Hw, r1, and_self, decide_true]
  simp (disch := omega) only [er, go_sem];refine Aa (U7 m.to) ?_;by_cases r2 : 1 ≤ m.to ∧ m.to ≤ 8;rotate_left
  · have e := C9 (m := m) fun h => r2 h.2.2.1;have er : Hw m.to = false := by simp only [Hw, r2, decide_false]
    simp (disch := omega) only [er, e, go_sem]
  have er : Hw m.to = true := by simp only [Hw, r2, and_self, decide_true]
  by_cases r3 : m.fr = m.to
  · have e := C9 (m := m) fun h => h.2.2.2.1 r3;simp (disch := omega) only [er, r3, e, go_sem]
  by_cases r4 : (8 : Int) < (m.evs.length : Int)
  · have e := C9 (m := m) fun h => by have := h.2.2.2.2.1; omega
    simp (disch := omega) only [er, r3, r4, e, go_sem]
  have e := Io (m := m) ⟨.inr hk, r1, r2, r3, by omega, fun h => by omega⟩;simp (disch := omega) only [er, r3, r4, hk, List.length_map, go_sem];refine Aa (Ab8 h1 (fun e he => (h3 e he).1) h2) ?_;simp (disch := omega) only [e, Bool.not_not, go_sem]
abbrev v0 : Vc := fun _ => 0
theorem Ek (v base : Vc) (hv : ∀ i, i < 8 → v i < 4294967296) (hb : ∀ i, i < 8 → base i < 4294967296) : (A4 v base).length ≤ 42 := by
 have := Kw v base hv hb 8 (by omega);simp [A4]; omega
def Gj (m : Msg) : List UInt8 := [UInt8.ofNat m.k.toNat, UInt8.ofNat m.fr.toNat, UInt8.ofNat m.to.toNat]
def Hg (m : Msg) (k : Nat) : List (List UInt8) := (List.range k).map fun i => A4 (m.tb i) m.kn
def P8 (m : Msg) (k j : Nat) : List (List UInt8) := [Gj m, A4 m.kn v0] ++ (Hg m k ++ (m.evs.take j).map Mv)
def A1 (m : Msg) : List (List UInt8) := [Gj m, A4 m.kn v0] ++ (Hg m 8 ++ m.evs.map Mv)
def Av (m : Msg) : List UInt8 := D6 (A1 m)
theorem Rm (m : Msg) (k : Nat) : Hg m (k + 1) = Hg m k ++ [A4 (m.tb k) m.kn] := by simp [Hg, List.range_succ]
theorem Np {m : Msg} (hc : Ci m = true) : Pz m := Classical.byContradiction fun hn => by rw [C9 hn] at hc; cases hc
theorem V2 {m : Msg} (hc : Ci m = true) : ∀ e ∈ m.evs, A6 e = true := by
 rw [Io (Np hc), List.all_eq_true] at hc; exact hc
theorem Yg (m : Msg) (k j : Nat) : (P8 m k j).length = 2 + k + min j m.evs.length := by simp [P8, Hg]; omega
theorem Ajv (m : Msg) (k : Nat) : (P8 m (k + 1) 0).map bE = (P8 m k 0).map bE ++ [[PV.sl false 1 (Ac (A4 (m.tb k) m.kn))]] := by
 simp [P8, Rm, bE]
theorem Aot {m : Msg} {j : Nat} (h : j < m.evs.length) : (P8 m 8 (j + 1)).map bE = (P8 m 8 j).map bE ++ [[PV.sl false 1 (Ac (Mv m.evs[j]))]] := by
 simp only [P8, List.take_add_one, List.getElem?_eq_getElem h, List.map_append, List.map_cons, List.map_nil, Option.toList_some, bE, List.append_assoc, List.cons_append, List.nil_append]
theorem Ajw (m : Msg) : P8 m 8 m.evs.length = A1 m := by simp [P8, A1]
theorem Atl {e : Evt} (h : A6 e = true) : (Mv e).length ≤ 3636 := Nat.le_trans (Fl _) (Kp (H1 h))
theorem Z6 {L : List (List UInt8)} {c : Nat} (h : ∀ b ∈ L, b.length ≤ c) : Bo L ≤ (c + 3) * L.length := by
 induction L with
 | nil => simp [Bo]
 | cons b l ih =>
   have h1 := h b List.mem_cons_self;have h2 := ih fun x hx => h x (List.mem_cons_of_mem _ hx);simp only [Bo, List.length_cons, Nat.mul_add, Nat.mul_one];omega
theorem Jk {m : Msg} (hm : mv m) (hc : Ci m = true) : ∀ b ∈ A1 m, b.length ≤ 3636 := fun b hb => by
 obtain ⟨h1, h2, h3, h4, h5⟩ := hm;have v0ok : ∀ i, i < 8 → v0 i < 4294967296 := fun i _ => by show 0 < _; omega
 simp only [A1, Hg, List.mem_append, List.mem_cons, List.not_mem_nil, or_false, List.mem_map, List.mem_range] at hb;rcases hb with (hb | hb) | ⟨i, hi, hb⟩ | ⟨e, he, hb⟩
 · subst hb; simp [Gj]
 · subst hb; have := Ek m.kn v0 h4 v0ok; omega
 · subst hb; have := Ek (m.tb i) m.kn (h5 i hi) h4; omega
 · subst hb; exact Atl (V2 hc e he)
theorem Kq (m : Msg) : (A1 m).length = 10 + m.evs.length := by simp [A1, Hg]; omega
theorem Jj {m : Msg} (hm : mv m) (hc : Ci m = true) : Bo (A1 m) ≤ 65502 := by
 have h1 := Z6 (Jk hm hc);have h2 := (Np hc).2.2.2.2.1;have h3 := Kq m;rw [h3] at h1;omega
theorem U6 (m : Msg) (hm : mv m) (hc : Ci m = false) {h d} : FunOk Try.prog 16 [.vec 76 (Ch m)] h d (.tup [.pv (.sl true 0 []), .pv (.i .i64 7)]) [] := by
 refine Aw An fn16 (by simp) rfl rfl fun F => ?_;simp (disch := omega) only [ir16, go_sem];refine Aa (Xs m hm) ?_;simp (disch := omega) only [hc, go_sem]
def Aqv (m : Msg) (k : Nat) : FS := mk [(31, .pv (.i .i64 k)), (30, .vec 64 (tE m.tb)), (4, .os 50), (1, .p 1 0)] [(1, some (.var (.vec 76 (Ch m)))), (50, some (.row 1 ((P8 m k 0).map bE)))]
def Aqw (m : Msg) (k : Nat) : FS := mk [(45, .pv (.i .i64 k)), (44, .pv (.i .i64 m.evs.length)), (43, .pv (.sl m.f m.z (m.evs.map Bw))), (4, .os 50), (1, .p 1 0)] [(1, some (.var (.vec 76 (Ch m)))), (50, some (.row 1 ((P8 m 8 k).map bE)))]
theorem Akp {n : Int} (h0 : 0 ≤ n) (h1 : n ≤ 8) : IntKind.u8.wrap n = ((UInt8.ofNat n.toNat).toNat : Int) := by
 obtain ⟨k, rfl⟩ : ∃ k : Nat, n = k := ⟨n.toNat, by omega⟩
 rw [Int.toNat_natCast]; exact Ei k
set_option maxHeartbeats 8000000 in
theorem Xh (m : Msg) (hm : mv m) (hc : Ci m = true) {h d} : FunOk Try.prog 16 [.vec 76 (Ch m)] h d (.tup [.os d, .pv (.i .i64 0)]) [.new d (.row 1 (Ac (Av m)))] := by
 refine Si An fn16 (by simp) rfl (.inr (G5 _)) rfl fun F => ?_;have hH := Np hc;have hE := V2 hc;obtain ⟨h1, h2, h3, h4, h5⟩ := id hm;obtain ⟨q1, q2, q3, q4, q5, q6⟩ := hH;have w1 := Akp (n := m.k) (by omega) (by omega);have w2 := Akp (n := m.fr) (by omega) (by omega);have w3 := Akp (n := m.to) (by omega) (by omega);simp (disch := omega) only [ir16, go_sem];refine Aa (Xs m hm) ?_;simp (disch := omega) only [hc, w1, w2, w3, go_sem];have v0ok : ∀ i, i < 8 → v0 i < 4294967296 := fun i _ => by show 0 < _; omega
 refine Aa (Rw m.kn v0 h4 v0ok) ?_;have e1 : [[PV.i IntKind.u8 ((UInt8.ofNat m.k.toNat).toNat : Int)], [PV.i IntKind.u8 ((UInt8.ofNat m.fr.toNat).toNat : Int)], [PV.i IntKind.u8 ((UInt8.ofNat m.to.toNat).toNat : Int)]] = Ac (Gj m) := rfl;simp (disch := omega) only [e1, go_sem];refine A7 An (Aqv m) (fun k => k ≤ 8) (fun k => 8 - k) 0 (by simp) (C0 28 50 (by decide) rfl (Ar ?_ ?_)) fun k hk => ?_
 · simp (disch := omega) only [go_sem]
 · simp (disch := omega) only [go_sem];rfl
 by_cases hlt : k < 8
 · have hr := Rm m k;simp (disch := omega) only [Aqv, hlt, go_sem];refine Aa (Rw (m.tb k) m.kn (h5 k hlt) h4) ?_;have hl := Yg m k 0;have hf := Ajv m k;simp (disch := omega) only [List.length_map, go_sem];refine ⟨k + 1, by omega, by omega, C0 40 50 (by decide) rfl (Ar ?_ ?_)⟩
   · simp (disch := omega) only [go_sem]
   · simp (disch := omega) only [hf, go_sem]
 obtain rfl : k = 8 := by omega
 simp (disch := omega) only [Aqv, List.length_map, go_sem];refine A7 An (Aqw m) (fun k => k ≤ m.evs.length) (fun k => m.evs.length - k) 0 (by simp) (Ar ?_ ?_) fun j hj => ?_
 · simp (disch := omega) only [go_sem]
 · simp (disch := omega) only [go_sem]
 by_cases hlj : j < m.evs.length
 · have hz2 : m.z = 21 := h1.resolve_left fun e => by rw [e] at hlj; simp at hlj
   have he : (m.evs.map Bw)[j]? = some (Bw m.evs[j]) := by simp [hlj]
   have hl := Yg m 8 j;have hf := Aot hlj;have hmem := List.getElem_mem hlj;have hce := hE _ hmem;have hev := (h3 _ hmem).1;have hvl := Bu m.evs[j];generalize m.evs[j] = e at *;simp (disch := omega) only [Aqw, List.length_map, hz2, he, E6, hlj, go_sem];refine Aa (Ab5 e hev hce) ?_;simp (disch := omega) only [List.length_map, go_sem];refine ⟨j + 1, by omega, by omega, C0 60 50 (by decide) rfl (Ar ?_ ?_)⟩
   · simp (disch := omega) only [hz2, go_sem]
   · simp (disch := omega) only [hf, go_sem]
 obtain rfl : j = m.evs.length := by omega
 have hal := Ajw m;simp (disch := omega) only [Aqw, hal, go_sem];have hfl := Jk hm hc;have hfp := Jj hm hc;refine Aa (Z9 (f := false) (z := 1) (L := A1 m) rfl rfl (Sw _) (.inr rfl) (by omega) fun b hb => by have := hfl b hb; omega) ?_;simp (disch := omega) only [Av, go_sem]
end Go.Proofs.Ytagpocgklmeoiaa.Fw
namespace Go.Proofs.Ytagpocgklmeoiaa.Fw
open Go.RowKit Go.Proofs
variable {P : Program} {F : Fr} {N : Nat} {ρ ρ' : Nat → Value} {s : FS} {a : Act} {w w' : World} {V V' : View}
def A0u (x y : PV) : Prop := ∀ (V : View) (v : Value), PConc V x v → PConc V y v
def PImpL : List PV → List PV → Prop
 | [], [] => True
 | x :: l, y :: m => A0u x y ∧ PImpL l m
 | _, _ => False
def PImpR : List (List PV) → List (List PV) → Prop
 | [], [] => True
 | x :: l, y :: m => PImpL x y ∧ PImpR l m
 | _, _ => False
theorem PImpL.len : ∀ {l m : List PV}, PImpL l m → l.length = m.length
 | [], [], _ => rfl
 | x :: l, y :: m, h => by simp [PImpL.len h.2]
 | [], _ :: _, h => h.elim
 | _ :: _, [], h => h.elim
theorem PImpR.len : ∀ {l m : List (List PV)}, PImpR l m → l.length = m.length
 | [], [], _ => rfl
 | x :: l, y :: m, h => by simp [PImpR.len h.2]
 | [], _ :: _, h => h.elim
 | _ :: _, [], h => h.elim
def ImpS : List SV → List SV → Prop
 | [], [] => True
 | x :: l, y :: m => (Imp x y ∧ x.width = y.width) ∧ ImpS l m
 | _, _ => False
theorem ImpS.cells : ∀ {l m : List SV} {vs : List Value}, ImpS l m → Cells V ρ l vs → Cells V ρ m vs
 | [], [], vs, _, h => h
 | x :: l, y :: m, vs, h, k => by
   simp only [Cells] at k ⊢;obtain ⟨u, us, rfl, k1, k2, k3, k4⟩ := k;exact ⟨u, us, rfl, h.1.1 V ρ u k1, by rw [← h.1.2]; exact k2, k3, h.2.cells k4⟩
 | [], _ :: _, _, h, _ => h.elim
 | _ :: _, [], _, h, _ => h.elim
end Go.Proofs.Ytagpocgklmeoiaa.Fw
namespace Go.Proofs.Ytagpocgklmeoiaa.Fw
open Go.RowKit Go.Proofs
def Adb : List SV → List PV → Prop
 | [], cs => cs = []
 | .pv x :: l, cs => ∃ r, cs = x :: r ∧ Adb l r
 | .vec n c :: l, cs => c.length = n ∧ ∃ r, cs = c ++ r ∧ Adb l r
 | _ :: _, _ => False
theorem O5 {V : View} {ρ : Nat → Value} : ∀ {l : List SV} {cs : List PV} {vs : List Value}, Adb l cs → PCells V cs vs → Cells V ρ l vs
 | [], cs, vs, h, hp => by
   have h : cs = [] := h;subst h;simp only [Cells];exact List.eq_nil_of_length_eq_zero hp.1.symm
 | .pv x :: l, cs, vs, h, hp => by
   obtain ⟨r, rfl, h⟩ := h;simp only [Cells];obtain ⟨v, hv, hx⟩ := hp.2 0 x rfl;cases vs with
   | nil => cases hv
   | cons u us =>
     have : u = v := by simpa using hv
     subst this;have hf : Am u = [u] := by have := hx.one; cases u <;> simp_all [Am, Au]
     refine ⟨u, us, by rw [hf]; rfl, by simp only [Conc]; exact hx, by rw [hf]; rfl, fun c hc => ?_, O5 h ⟨by simpa using hp.1, fun j y hy => by simpa using hp.2 (j + 1) y (by simpa using hy)⟩⟩;rw [hf] at hc;rw [List.mem_singleton.1 hc];exact hx.one
 | .vec n c :: l, cs, vs, h, hp => by
   obtain ⟨hn, r, rfl, h⟩ := h;simp only [Cells];have hl : c.length + r.length = vs.length := by simpa using hp.1
   have hA : PCells V c (vs.take n) := ⟨by simp; omega, fun j y hy => by
    have hj := (List.getElem?_eq_some_iff.1 hy).1;obtain ⟨v, h1, h2⟩ := hp.2 j y (by rw [List.getElem?_append_left hj]; exact hy);exact ⟨v, by rw [List.getElem?_take_of_lt (by omega)]; exact h1, h2⟩⟩
   refine ⟨.agg ⟨vs.take n⟩, vs.drop n, (List.take_append_drop n vs).symm, by simp only [Conc]; exact ⟨_, rfl, by simp; omega, hA⟩, by simp [Am, SV.width]; omega, fun x hx => hA.one x hx, O5 h ⟨by simp; omega, fun j y hy => by
    obtain ⟨v, h1, h2⟩ := hp.2 (n + j) y (by rw [List.getElem?_append_right (by omega)]; simpa [hn] using hy);exact ⟨v, by rw [List.getElem?_drop]; exact h1, h2⟩⟩⟩
 | .agg _ :: _, _, _, h, _ => h.elim
 | .tup _ :: _, _, _, h, _ => h.elim
 | .p _ _ :: _, _, _, h, _ => h.elim
 | .ps _ _ :: _, _, _, h, _ => h.elim
 | .pr _ _ _ _ :: _, _, _, h, _ => h.elim
 | .pi _ _ _ _ :: _, _, _, h, _ => h.elim
 | .os _ :: _, _, _, h, _ => h.elim
 | .ov _ _ _ _ :: _, _, _, h, _ => h.elim
 | .fn _ _ :: _, _, _, h, _ => h.elim
 | .dead :: _, _, _, h, _ => h.elim
theorem Acl {l : List SV} {cs : List PV} {n : Nat} (h : Adb l cs) : Imp (.vec n cs) (.agg l) := by
 intro V ρ v hv;simp only [Conc] at hv ⊢;obtain ⟨vs, rfl, _, hp⟩ := hv;exact ⟨vs, rfl, O5 h hp⟩
def Fc (m : Msg) : Msg := { m with f := m.evs.isEmpty, z := if m.evs.isEmpty then 0 else 21, evs := m.evs.map A5 }
def evS (l : List Evt) (k : Nat) : SV := if k = 0 then .pv (.sl true 0 []) else if k = l.length then .pv (.sl false 21 (l.map Bw)) else .os 60
def evK (l : List Evt) (k : Nat) : Option Blk := if k = 0 ∨ k = l.length then none else some (.row 21 ((l.take k).map Bw))
theorem Aj2 (l : List Evt) : evS l 0 = .pv (.sl true 0 []) := if_pos rfl
theorem Aj7 (l : List Evt) : evK l 0 = none := if_pos (.inl rfl)
theorem Aj1 {l : List Evt} {k : Nat} (h : 0 < k ∧ k < l.length) : evS l k = .os 60 := by unfold evS; rw [if_neg (by omega), if_neg (by omega)]
theorem Aj6 {l : List Evt} {k : Nat} (h : 0 < k ∧ k < l.length) : evK l k = some (.row 21 ((l.take k).map Bw)) := if_neg (by omega)
theorem Aj0 {l : List Evt} {k : Nat} (h : 0 < k ∧ k = l.length) : evS l k = .pv (.sl false 21 (l.map Bw)) := by unfold evS; rw [if_neg (by omega), if_pos h.2]
theorem Aj5 {l : List Evt} {k : Nat} (h : 0 < k ∧ k = l.length) : evK l k = none := if_pos (.inr h.2)
def tbM (m : Msg) (t : Nat → Vc) : Msg := { m with tb := t, f := true, z := 0, evs := [] }
theorem Tq (m : Msg) (t : Nat → Vc) {k : Nat} (hk : k < 8) (v : Vc) : splice (Ch (tbM m t)) (11 + k * 8) (vE v) = Ch (tbM m (J8 t k v)) := by
 have e : tE (J8 t k v) = splice (tE t) (k * 8) (vE v) := (Tr hk t v).symm;simp only [splice, Ch, tbM] at e ⊢;rw [e];have hk2 : k = 0 ∨ k = 1 ∨ k = 2 ∨ k = 3 ∨ k = 4 ∨ k = 5 ∨ k = 6 ∨ k = 7 := by omega
 rcases hk2 with rfl | rfl | rfl | rfl | rfl | rfl | rfl | rfl <;> rfl
def C5 (m : Msg) (x : SV) : List SV := [.pv (.i .i64 m.k), .pv (.i .i64 m.fr), .pv (.i .i64 m.to), .vec 8 (vE m.kn), .vec 64 (tE m.tb), x]
abbrev Ahg : List SV := [.pv (.i .i64 0), .pv (.i .i64 0), .pv (.i .i64 0), .vec 8 (vE fun _ => 0), .vec 64 (tE fun _ _ => 0), .pv (.sl true 0 [])]
theorem Zg (m : Msg) : Av (Fc m) = Av m := by
 have e : (Fc m).evs.map Mv = m.evs.map Mv := by show (m.evs.map A5).map Mv = _; rw [List.map_map]; exact List.map_congr_left fun e _ => rfl
 unfold Av A1;rw [e]; rfl
theorem Aad {m : Msg} (h : mv m) : mv (Fc m) := by
 obtain ⟨h1, h2, h3, h4, h5⟩ := h;refine ⟨?_, by show (m.evs.map A5).length ≤ _; simpa using h2, fun e he => ?_, h4, h5⟩
 · show m.evs.map A5 = [] ∨ (if m.evs.isEmpty then 0 else 21) = 21;cases m.evs <;> simp
 · obtain ⟨x, hx, rfl⟩ := List.mem_map.1 (show e ∈ m.evs.map A5 from he);exact ⟨Akm (h3 x hx).1, (h3 x hx).2⟩
theorem Afw (m : Msg) : Ci (Fc m) = Ci m := by
 have e : (Fc m).evs.all A6 = m.evs.all A6 := by
  show (m.evs.map A5).all A6 = _;rw [List.all_map];congr 1;funext x;exact Pr x
 have hH : Pz (Fc m) ↔ Pz m := by
  unfold Pz;rw [show (Fc m).evs.length = m.evs.length from List.length_map _];exact Iff.rfl
 by_cases h : Pz m
 · rw [Io h, Io (hH.2 h), e]
 · rw [C9 h, C9 fun g => h (hH.1 g)]
theorem Rt (m : Msg) (hm : mv m) (hc : Ci m = true) {x : SV} (hx : .agg (E4 (Fc m)) = x) {h d} : FunOk Try.prog 16 [x] h d (.tup [.os d, .pv (.i .i64 0)]) [.new d (.row 1 (Ac (Av m)))] := by
 subst hx;have hwr := Xh (Fc m) (Aad hm) ((Afw m).trans hc) (h := h) (d := d);rw [Zg] at hwr;exact hwr.imp ⟨Lh (Fk _) (D8 _), trivial⟩ (by simp [A2, tn])
theorem Qk (e : Evt) (K : KK) : Ot (cut (Ri e) 0 21) true (some (Bw e)) 0 21 K = K (.agg (Ri e)) [] := (rfl)
def Ame (m : Msg) (l : List UInt8) (k : Nat) : FS := mk [(89, .pv (.i .i64 k)), (88, .pv (.i .i64 m.evs.length)), (87, .pv (.sl false 1 ((m.evs.map Mv).map bE))), (2, .p 2 0), (6, .p 6 0), (0, .pv (.sl false 1 (Ac l)))] [(6, some (.var (.agg (C5 m (evS (m.evs.map A5) k))))), (60, evK (m.evs.map A5) k), (2, some (.var (.agg Ahg)))]
def Adp (m : Msg) (l : List UInt8) (E : List (List PV)) (k : Nat) : FS := mk [(65, .pv (.i .i64 k)), (2, .p 2 0), (4, .os 50), (6, .p 6 0), (0, .pv (.sl false 1 (Ac l)))] [(6, some (.var (.vec 76 (Ch (tbM m fun i => if i < k then m.tb i else v0))))), (50, some (.row 1 E)), (2, some (.var (.agg Ahg)))]
set_option maxHeartbeats 8000000 in
theorem Ab7 (m : Msg) (hm : mv m) (hc : Ci m = true) {h d} : FunOk Try.prog 20 [.pv (.sl false 1 (Ac (Av m)))] h d (.tup [.agg (E4 (Fc m)), .pv (.i .i64 0)]) [] := by
 refine Li An fn20 (by simp) rfl rfl fun F => ?_;have hH := Np hc;have hE := V2 hc;obtain ⟨h1, h2, h3, h4, h5⟩ := id hm;obtain ⟨q1, q2, q3, q4, q5, q6⟩ := hH;have hfl := Jk hm hc;have hfp := Jj hm hc;have hfn := Kq m;have hpl := Fl (A1 m);have hu : B0 (Av m) [] 18 = (A1 m, 0) := It (A1 m) 18 (fun b hb => by have := hfl b hb; omega) (by omega);have hwl : (Av m).length ≤ 65502 := by unfold Av; omega
 have hel : ((A1 m).map bE).length = 10 + m.evs.length := by simp [hfn]
 have f0 : ((A1 m).map bE)[0]? = some [.sl false 1 (Ac (Gj m))] := by simp [A1, bE]
 have f1 : ((A1 m).map bE)[Int.toNat 1]? = some [.sl false 1 (Ac (A4 m.kn v0))] := by simp [A1, bE]
 have ft : ∀ k, k < 8 → ((A1 m).map bE)[2 + k]? = some [.sl false 1 (Ac (A4 (m.tb k) m.kn))] := fun k hk => by
  rw [show 2 + k = k + 1 + 1 by omega];simp only [A1, Hg, bE, List.cons_append, List.nil_append, List.map_cons, List.getElem?_cons_succ, List.map_append, List.map_map];rw [List.getElem?_append_left (by simpa using hk)];simp [hk]; rfl
 have fe : ((A1 m).map bE).drop 10 = (m.evs.map Mv).map bE := by
  have : A1 m = ([Gj m, A4 m.kn v0] ++ Hg m 8) ++ m.evs.map Mv := by simp [A1]
  rw [this, List.map_append, List.drop_left' (by simp [Hg])]
 have b0 : (Ac (Gj m))[0]? = some [.i .u8 ((UInt8.ofNat m.k.toNat).toNat : Int)] := rfl;have b1 : (Ac (Gj m))[Int.toNat 1]? = some [.i .u8 ((UInt8.ofNat m.fr.toNat).toNat : Int)] := rfl;have b2 : (Ac (Gj m))[Int.toNat 2]? = some [.i .u8 ((UInt8.ofNat m.to.toNat).toNat : Int)] := rfl;have bl : (Ac (Gj m)).length = 3 := rfl;have wb : ∀ n : Int, 0 ≤ n → n ≤ 8 → IntKind.i64.wrap ((UInt8.ofNat n.toNat).toNat : Int) = n := fun n h0 h8 => by
  rw [E3 (by omega), Int.toNat_of_nonneg h0]; exact C4 (by omega)
 have w1 := wb m.k (by omega) (by omega);have w2 := wb m.fr (by omega) (by omega);have w3 := wb m.to (by omega) (by omega);have v0ok : ∀ i, i < 8 → v0 i < 4294967296 := fun i _ => by show 0 < _; omega
 have gk := E8 m.kn v0 h4 v0ok;have gke : vE (Fg (A4 m.kn v0) v0).1 = vE m.kn := J1 gk.2;have skl := Ek m.kn v0 h4 v0ok;generalize hEE : (A1 m).map bE = E at *;simp (disch := omega) only [ir20, go_sem];refine Aa (Ng (f := false) (z := 1) (b := Av m) (most := 18) (.inr rfl) (by omega)) ?_;rw [hu, hEE]
 (try simp only [E0, Ez, Ey, Ew, Ev, Eu, Et, Er]); simp (disch := omega) only [hel, f0, b0, b1, b2, bl, w1, w2, w3, Ih, Cw, f1, go_sem]
 refine Aa (R0 v0 v0ok (by omega) rfl rfl (.inr rfl)) ?_;simp (disch := omega) only [gk.1, gke, go_sem];refine A7 An (Adp m (Av m) E) (fun k => k ≤ 8) (fun k => 8 - k) 0 (by simp) (C0 16 50 (by decide) rfl (Ar ?_ ?_)) fun k hk => ?_
 · simp (disch := omega) only [go_sem]
 · simp (disch := omega) only [go_sem];refine Lh ?_ (D8 _);rw [Ch, show tE (tbM m fun i => if i < 0 then m.tb i else v0).tb = tE (fun _ _ => 0) from Abs m.tb (fun _ => v0) rfl];rfl
 by_cases hlt : k < 8
 · have fk := ft k hlt;have en : ((2 : Int) + (k : Int)) = ((2 + k : Nat) : Int) := by omega
   have gt := E8 (m.tb k) m.kn (h5 k hlt) h4;have gte : vE (Fg (A4 (m.tb k) m.kn) m.kn).1 = vE (m.tb k) := J1 gt.2;have tl := Ek (m.tb k) m.kn (h5 k hlt) h4;have hsp := Tq m (fun i => if i < k then m.tb i else v0) hlt (m.tb k);have hkn : ∀ t, (tbM m t).kn = m.kn := fun _ => rfl;simp (disch := omega) only [Adp, hlt, en, fk, hel, Ih, hkn, go_sem];refine Aa (R0 (l := A4 (m.tb k) m.kn) m.kn h4 (by omega) rfl rfl (.inr rfl)) ?_;simp (disch := omega) only [gt.1, gte, hsp, go_sem];refine Az (k + 1) _ _ rfl (by omega) (by omega) ?_ ?_
   · simp (disch := omega) only [go_sem]
   · simp (disch := omega) only [go_sem];refine Ack ?_;rw [Ch, Ch, show tE (tbM m (J8 (fun i => if i < k then m.tb i else v0) k (m.tb k))).tb = tE (tbM m fun i => if i < k + 1 then m.tb i else v0).tb from Ra _ _ _ fun i hi => rfl];rfl
 obtain rfl : k = 8 := by omega
 have htb : tE (tbM m fun i => if i < 8 then m.tb i else v0).tb = tE m.tb := Ags _ _ (Nat.le_refl 8);have etk : List.take (10 + m.evs.length) E = E := List.take_of_length_le (by omega);have e10 : Int.toNat 10 = 10 := rfl;simp (disch := omega) only [Adp, hel, etk, e10, fe, List.length_map, go_sem];refine A7 An (Ame m (Av m)) (fun k => k ≤ m.evs.length) (fun k => m.evs.length - k) 0 (by simp) (Ar ?_ ?_) fun k hk => ?_
 · simp (disch := omega) only [go_sem]
 · simp (disch := omega) only [C5, Aj2, Aj7, go_sem];refine Acl ⟨_, rfl, _, rfl, _, rfl, H5 _, _, rfl, Oc _, [.sl true 0 []], ?_, _, rfl, rfl⟩;rw [← htb]; rfl
 by_cases hlt : k < m.evs.length
 · have he : ((m.evs.map Mv).map bE)[k]? = some [.sl false 1 (Ac (Mv m.evs[k]))] := by simp [hlt]; rfl
   have hmem := List.getElem_mem hlt;have hce := hE _ hmem;have hev := (h3 _ hmem).1;have ht : ((m.evs.map A5).take (k + 1)).map Bw = ((m.evs.map A5).take k).map Bw ++ [Bw (A5 m.evs[k])] := by
    rw [List.take_add_one, List.getElem?_eq_getElem (by simpa using hlt)]; simp
   have hvl := Bu (A5 m.evs[k]);have hkl : ((m.evs.map A5).take k).length ≤ 8 := by simp; omega
   have hkl' : (((m.evs.map A5).take k).map Bw).length ≤ 8 := by simpa using hkl
   have hz := Bu (A5 m.evs[k]);generalize m.evs[k] = e at *;generalize hN : m.evs.map A5 = N at *;have hNl : N.length = m.evs.length := by rw [← hN]; simp
   simp (disch := omega) only [Ame, C5, hlt, he, Ih, List.length_map, hN, go_sem];refine Aa (Tx e hce hev) ?_;by_cases hk0 : k = 0
   · subst hk0;rw [List.take_zero, List.map_nil, List.nil_append, Nat.zero_add] at ht;have h0 : ([Bw (A5 e)] = []) = False := by simp
     simp (disch := omega) only [Aj2, Aj7, K9, Qk, hz, h0, go_sem];by_cases hn : 1 < m.evs.length
     · have sS := Aj1 (l := N) (k := 1) ⟨by omega, by omega⟩;have sK := Aj6 (l := N) (k := 1) ⟨by omega, by omega⟩;refine ⟨1, by omega, by omega, C0 105 60 (by decide) rfl (Ar ?_ ?_)⟩
       · simp (disch := omega) only [go_sem]
       · simp (disch := omega) only [ht, C5, sS, sK, hN, go_sem]
     · have sS := Aj0 (l := N) (k := 1) ⟨by omega, by omega⟩;have sK := Aj5 (l := N) (k := 1) ⟨by omega, by omega⟩;have htk : N.take (1) = N := List.take_of_length_le (by omega);rw [htk] at ht;refine ⟨1, by omega, by omega, J0 105 rfl (Ar ?_ ?_)⟩
       · simp (disch := omega) only [hN, go_sem]
       · simp (disch := omega) only [ht, C5, sS, sK, hN, go_sem]
   · have sS0 := Aj1 (l := N) (k := k) ⟨by omega, by omega⟩;have sK0 := Aj6 (l := N) (k := k) ⟨by omega, by omega⟩;simp (disch := omega) only [sS0, sK0, K9, Qk, hz, go_sem];by_cases hn : k + 1 < m.evs.length
     · have sS := Aj1 (l := N) (k := k + 1) ⟨by omega, by omega⟩;have sK := Aj6 (l := N) (k := k + 1) ⟨by omega, by omega⟩;refine ⟨k + 1, by omega, by omega, C0 105 60 (by decide) rfl (Ar ?_ ?_)⟩
       · simp (disch := omega) only [go_sem]
       · simp (disch := omega) only [ht, C5, sS, sK, hN, go_sem]
     · have sS := Aj0 (l := N) (k := k + 1) ⟨by omega, by omega⟩;have sK := Aj5 (l := N) (k := k + 1) ⟨by omega, by omega⟩;have htk : N.take (k + 1) = N := List.take_of_length_le (by omega);rw [htk] at ht;refine ⟨k + 1, by omega, by omega, J0 105 rfl (Ar ?_ ?_)⟩
       · simp (disch := omega) only [hN, go_sem]
       · simp (disch := omega) only [ht, C5, sS, sK, hN, go_sem]
 obtain rfl : k = m.evs.length := by omega
 by_cases h0 : m.evs = []
 · have hcan : E4 (Fc m) = C5 m (.pv (.sl true 0 [])) := by simp [E4, Fc, C5, h0]
   have hl0 : m.evs.length = 0 := by simp [h0]
   simp (disch := omega) only [Ame, hl0, Aj2, Aj7, C5, go_sem];refine Aa (Rt m hm hc (congrArg SV.agg hcan)) ?_;simp (disch := omega) only [go_sem];refine Aa (Xp (f := false) (g := false) (y := 1) (z := 1) (a := Av m) (b := Av m) rfl rfl (.inr rfl) (.inr rfl) (by omega) (by omega)) ?_
   (try simp only [E0, Ez, Ey, Ew, Ev, Eu, Et, Er]); simp (disch := omega) only [hcan, C5, go_sem]
   refine ⟨_, .same _, ?_⟩
   (try simp only [E0, Ez, Ey, Ew, Ev, Eu, Et, Er]); simp (disch := omega) only [go_sem]
 have hpos := List.length_pos_iff.2 h0;have sS := Aj0 (l := m.evs.map A5) (k := m.evs.length) ⟨hpos, by simp⟩;have sK := Aj5 (l := m.evs.map A5) (k := m.evs.length) ⟨hpos, by simp⟩;have hcan : E4 (Fc m) = C5 m (.pv (.sl false 21 ((m.evs.map A5).map Bw))) := by
  have : m.evs.isEmpty = false := by simp [h0]
  simp only [E4, Fc, C5, this]; rfl
 simp (disch := omega) only [Ame, sS, sK, C5, go_sem];refine Aa (Rt m hm hc (congrArg SV.agg hcan)) ?_;simp (disch := omega) only [go_sem];refine Aa (Xp (f := false) (g := false) (y := 1) (z := 1) (a := Av m) (b := Av m) rfl rfl (.inr rfl) (.inr rfl) (by omega) (by omega)) ?_
 (try simp only [E0, Ez, Ey, Ew, Ev, Eu, Et, Er]); simp (disch := omega) only [hcan, C5, go_sem]
 refine ⟨_, .same _, ?_⟩
 (try simp only [E0, Ez, Ey, Ew, Ev, Eu, Et, Er]); simp (disch := omega) only [go_sem]
noncomputable def Em (l m : List Evt) : Bool := decide (l.length = m.length) && (l.zip m).all fun p => Cg p.1 p.2
def Ax6 (f : Bool) (z : Nat) (l : List Evt) : Prop := (l = [] ∨ z = 21) ∧ l.length ≤ 1000 ∧ ∀ e ∈ l, ev e
def Re (f g : Bool) (y z : Nat) (l m : List Evt) (k : Nat) : FS := mk [(5, .pv (.i .i64 k)), (0, .pv (.sl f y (l.map Bw))), (1, .pv (.sl g z (m.map Bw)))] []
set_option maxHeartbeats 2000000 in
theorem Ahy {f g : Bool} {y z : Nat} {l m : List Evt} (hl : Ax6 f y l) (hm : Ax6 g z m) {h d} :
 FunOk Try.prog 21 [.pv (.sl f y (l.map Bw)), .pv (.sl g z (m.map Bw))] h d (.pv (.b (Em l m))) [] := by
 refine Aw An fn21 (by simp) rfl rfl fun F => ?_;obtain ⟨l1, l2, l3⟩ := hl;obtain ⟨m1, m2, m3⟩ := hm;by_cases hn : l.length = m.length;rotate_left
 · have e : Em l m = false := by simp [Em, hn]
   have hz : ¬ (l.length : Int) = (m.length : Int) := by omega
   simp (disch := omega) only [ir21, List.length_map, hz, e, go_sem]
 have hz : (l.length : Int) = (m.length : Int) := by omega
 have e0 : Em l m = (l.zip m).all fun p => Cg p.1 p.2 := by simp [Em, hn]
 simp (disch := omega) only [ir21, List.length_map, hz, go_sem];refine A7 An (Re f g y z l m) (fun k => k ≤ l.length ∧ ∀ j, (h1 : j < l.length) → (h2 : j < m.length) → j < k → Cg l[j] m[j] = true) (fun k => l.length - k) 0 (by simp) (Ar ?_ ?_) fun k hk => ?_
 · simp (disch := omega) only [go_sem]
 · simp (disch := omega) only [go_sem]
 obtain ⟨hk1, hk2⟩ := hk;by_cases hlt : k < l.length
 · have hlm : k < m.length := by omega
   have hy2 : y = 21 := l1.resolve_left fun e => by subst e; simp at hlt
   have hz2 : z = 21 := m1.resolve_left fun e => by subst e; simp at hlm
   subst hy2 hz2;have he : (l.map Bw)[k]? = some (Bw l[k]) := by simp [hlt]
   have hf : (m.map Bw)[k]? = some (Bw m[k]) := by simp [hlm]
   have ha := l3 _ (List.getElem_mem hlt);have hb := m3 _ (List.getElem_mem hlm);simp (disch := omega) only [Re, List.length_map, he, hf, E6, go_sem];refine Aa (Ahx l[k] m[k] ⟨ha.1, ha.2.1, ha.2.2.1, ha.2.2.2.1⟩ ⟨hb.1, hb.2.1, hb.2.2.1, hb.2.2.2.1⟩) ?_;by_cases hs : Cg l[k] m[k] = true
   · simp (disch := omega) only [hs, go_sem];refine Az (k + 1) _ _ rfl ⟨by omega, fun j h1 h2 hjk => ?_⟩ (by omega) ?_ ?_
     · by_cases e : j = k
       · subst e; exact hs
       · exact hk2 j h1 h2 (by omega)
     · simp (disch := omega) only [go_sem]
     · simp (disch := omega) only [go_sem]
   · have hs' : Cg l[k] m[k] = false := by simpa using hs
     have e : Em l m = false := by
      rw [e0, List.all_eq_false];exact ⟨(l[k], m[k]), List.mem_iff_getElem.2 ⟨k, by simp; omega, by simp⟩, by simp [hs']⟩
     simp (disch := omega) only [hs', e, go_sem]
 · obtain rfl : k = l.length := by omega
   have e : Em l m = true := by
    rw [e0, List.all_eq_true];intro p hp;obtain ⟨j, hj, rfl⟩ := List.getElem_of_mem hp;have hj' : j < l.length ∧ j < m.length := by simp at hj; omega
    rw [List.getElem_zip];exact hk2 j hj'.1 hj'.2 hj'.1
   simp (disch := omega) only [Re, List.length_map, e, go_sem]
noncomputable def El (a b : Msg) : Bool := decide (a.k = b.k) && (decide (a.fr = b.fr) && (decide (a.to = b.to) && (decide (Ze a.kn b.kn) && (decide (tEq a.tb b.tb) && Em a.evs b.evs))))
set_option maxHeartbeats 8000000 in
theorem Am4 (a b : Msg) (ha : mv a) (hb : mv b) {h d} : FunOk Try.prog 9 [.vec 76 (Ch a), .vec 76 (Ch b)] h d (.pv (.b (El a b))) [] := by
 refine Aw An fn9 (by simp) rfl rfl fun F => ?_;by_cases c1 : a.k = b.k;rotate_left
 · have e : El a b = false := by simp [El, c1]
   simp (disch := omega) only [ir9, c1, e, go_sem]
 by_cases c2 : a.fr = b.fr;rotate_left
 · have e : El a b = false := by simp [El, c2]
   simp (disch := omega) only [ir9, c1, c2, e, go_sem]
 by_cases c3 : a.to = b.to;rotate_left
 · have e : El a b = false := by simp [El, c3]
   simp (disch := omega) only [ir9, c1, c2, c3, e, go_sem]
 by_cases c4 : Ze a.kn b.kn;rotate_left
 · have e : El a b = false := by simp [El, c4]
   simp (disch := omega) only [ir9, c1, c2, c3, c4, Bi, Ca, e, go_sem]
 by_cases c5 : tEq a.tb b.tb;rotate_left
 · have e : El a b = false := by simp [El, c5]
   simp (disch := omega) only [ir9, c1, c2, c3, c4, c5, Bi, Ca, V0, Z5, e, go_sem]
 have e : El a b = Em a.evs b.evs := by simp [El, c1, c2, c3, c4, c5]
 simp (disch := omega) only [ir9, c1, c2, c3, c4, c5, Bi, Ca, V0, Z5, go_sem];refine Aa (Ahy ⟨ha.1, ha.2.1, fun e he => (ha.2.2.1 e he).1⟩ ⟨hb.1, hb.2.1, fun e he => (hb.2.2.1 e he).1⟩) ?_;simp (disch := omega) only [e, go_sem]
theorem Xi (a b : Msg) (ha : mv a) (hb : mv b) {h d} : FunOk Try.prog 9 [.agg (E4 a), .vec 76 (Ch b)] h d (.pv (.b (El a b))) [] :=
 (Am4 a b ha hb).imp ⟨Lh (Fk a) (D8 a), Imp.refl _, trivial⟩ (by simp [A2, tn])
theorem W2 : ∀ l : List Evt, (l.zip (l.map A5)).all (fun p => Cg p.1 p.2) = true
 | [] => rfl
 | e :: l => by simp only [List.map_cons, List.zip_cons_cons, List.all_cons, W2 l, Ad0, Bool.and_self]
theorem Zy (m : Msg) : El m (Fc m) = true := by
 have e : Em m.evs (m.evs.map A5) = true := by
  unfold Em;rw [W2, List.length_map]; simp
 have h1 : Ze m.kn m.kn := fun _ _ => rfl;have h2 : tEq m.tb m.tb := fun _ _ _ _ => rfl;show (decide (m.k = m.k) && (decide (m.fr = m.fr) && (decide (m.to = m.to) && (decide (Ze m.kn m.kn) && (decide (tEq m.tb m.tb) && Em m.evs (m.evs.map A5)))))) = true;rw [e];simp [h1, h2]
mutual
theorem W7 {π : Nat → Nat} : ∀ {x : SV}, x.closed = true → x.rn π = x
 | .pv _, _ => rfl
 | .vec _ _, _ => rfl
 | .pi _ _ _ _, _ => rfl
 | .dead, _ => rfl
 | .agg l, h => by simp only [SV.closed] at h; simp only [SV.rn, Oj h]
 | .tup l, h => by simp only [SV.closed] at h; simp only [SV.rn, Oj h]
 | .fn f l, h => by simp only [SV.closed] at h; simp only [SV.rn, Oj h]
 | .p _ _, h => by simp [SV.closed] at h
 | .ps _ _, h => by simp [SV.closed] at h
 | .pr _ _ _ _, h => by simp [SV.closed] at h
 | .os _, h => by simp [SV.closed] at h
 | .ov _ _ _ _, h => by simp [SV.closed] at h
theorem Oj {π : Nat → Nat} : ∀ {l : List SV}, SV.closedL l = true → SV.rnL π l = l
 | [], _ => rfl
 | x :: l, h => by
   simp only [SV.closedL, Bool.and_eq_true] at h;simp only [SV.rnL, W7 h.1, Oj h.2]
end
mutual
theorem Avl : ∀ {x : SV}, x.closed = true → tn x = []
 | .pv _, _ => rfl
 | .vec _ _, _ => rfl
 | .pi _ _ _ _, _ => rfl
 | .dead, _ => rfl
 | .agg l, h => by simp only [SV.closed] at h; simp only [tn, K8 h]
 | .tup l, h => by simp only [SV.closed] at h; simp only [tn, K8 h]
 | .fn f l, h => by simp only [SV.closed] at h; simp only [tn, K8 h]
 | .p _ _, h => by simp [SV.closed] at h
 | .ps _ _, h => by simp [SV.closed] at h
 | .pr _ _ _ _, h => by simp [SV.closed] at h
 | .os _, h => by simp [SV.closed] at h
 | .ov _ _ _ _, h => by simp [SV.closed] at h
theorem K8 : ∀ {l : List SV}, SV.closedL l = true → A2 l = []
 | [], _ => rfl
 | x :: l, h => by
   simp only [SV.closedL, Bool.and_eq_true] at h;simp only [A2, Avl h.1, K8 h.2, List.append_nil]
end
theorem Rc (a m : Nat) : Wt a m a = m := if_pos rfl
theorem FunOk.io {P : Program} {f : Nat} {a : List SV} {c c' x : SV} (hf : ∀ h d, h 900 = some (.var c) → FunOk P f (.p 900 0 :: a) h d x [.upd 900 (.var c')]) (ha : SV.closedL a = true) (hx : x.closed = true) (hc : c.closed = true) (hc' : c'.closed = true) {g : Nat} {h : Nat → Option Blk} {d : Nat} (hg : h g = some (.var c)) :
 FunOk P f (.p g 0 :: a) h d x [.upd g (.var c')] := by
 have h1 := (hf (fun k => h (Wt 900 g k)) d (by show h (Wt 900 g 900) = _; rw [Rc]; exact hg)).rn (π := Wt 900 g) (Gl 900 g) (d' := d);simp only [SV.rnL, SV.rn, HU.rn, Blk.rn, List.map_cons, List.map_nil, Rc, Oj ha, W7 hx, W7 hc'] at h1;refine h1.at fun n hn => ?_;simp only [A2, tn, K8 ha, List.append_nil, List.mem_singleton] at hn;subst hn;simp only [Gl, hg, Option.map_some, Blk.rn, W7 hc]
theorem FunOk.ownAny {P : Program} {f : Nat} {a : List SV} {sz sz' : Nat} {es es' : List (List PV)} (hf : ∀ h d, h 900 = some (.row sz es) → FunOk P f (.os 900 :: a) h d (.os d) [.del 900, .new d (.row sz' es')]) (ha : SV.closedL a = true) {g : Nat} {h : Nat → Option Blk} {d : Nat} (hg : h g = some (.row sz es)) :
 FunOk P f (.os g :: a) h d (.os d) [.del g, .new d (.row sz' es')] := by
 have h1 := (hf (fun k => h (Wt 900 g k)) (Wt 900 g d) (by show h (Wt 900 g 900) = _; rw [Rc]; exact hg)).rn (π := Wt 900 g) (Gl 900 g) (d' := d);simp only [SV.rnL, SV.rn, HU.rn, Blk.rn, List.map_cons, List.map_nil, Rc, Oj ha, Gl] at h1;refine h1.at fun n hn => ?_;simp only [A2, tn, K8 ha, List.append_nil, List.mem_singleton] at hn;subst hn;simp only [Gl, hg, Option.map_some, Blk.rn]
def Da (f : Bool) (z : Nat) (L : List (List UInt8)) (most : Int) : SV := .agg [.pv (.sl f z (L.map bE)), .pv (.i .i64 most)]
theorem Ah2 (most : Int) {h d} : FunOk Try.prog 6 [.pv (.i .i64 most)] h d (.p d 0) [.new d (.var (Da true 0 [] (max 0 most)))] := by
 refine Aon An fn6 (by simp) rfl rfl fun F => ?_;simp (disch := omega) only [ir6, go_sem];exact ⟨6, rfl, if_pos rfl⟩
theorem Aab {f : Bool} {z : Nat} {L : List (List UInt8)} {most : Int} {g : Nat} {h d} (hg : h g = some (.var (Da f z L most))) : FunOk Try.prog 12 [.p g 0] h d (.pv (.i .i64 L.length)) [.upd g (.var (Da f z L most))] := by
 refine FunOk.io (fun h d hg => ?_) rfl rfl rfl rfl hg;refine Je (g := 900) An fn12 (by simp) (by simp [A2, tn]) (by simp [A2, tn]) hg rfl (by simp [Blk.ptr, SV.kill]) rfl (fun _ => rfl) fun F => ?_;simp (disch := omega) only [ir12, Da, Blk.ptr, go_sem];refine ⟨_, .same _, ?_⟩
 (try simp only [E0, Ez, Ey, Ew, Ev, Eu, Et, Er]); simp (disch := omega) only [go_sem]
 exact ⟨900, rfl, if_pos rfl⟩
def Aek (L : List (List UInt8)) (i : Int) : Int := if 0 ≤ i ∧ i < L.length then 0 else 2
theorem Ah3 {f : Bool} {z : Nat} {L : List (List UInt8)} {most i : Int} {g : Nat} {h d} (hg : h g = some (.var (Da f z L most))) : FunOk Try.prog 23 [.p g 0, .pv (.i .i64 i)] h d (.pv (.i .i64 (Aek L i))) [.upd g (.var (Da f z L most))] := by
 refine FunOk.io (fun h d hg => ?_) rfl rfl rfl rfl hg;refine Je (g := 900) An fn23 (by simp) (by simp [A2, tn]) (by simp [A2, tn]) hg rfl (by simp [Blk.ptr, SV.kill]) rfl (fun _ => rfl) fun F => ?_;by_cases h0 : i < 0
 · have e : Aek L i = 2 := if_neg (by omega);simp (disch := omega) only [ir23, Da, Blk.ptr, h0, go_sem];refine ⟨_, .same _, ?_⟩
   (try simp only [E0, Ez, Ey, Ew, Ev, Eu, Et, Er]); simp (disch := omega) only [e, go_sem]
   exact ⟨900, rfl, if_pos rfl⟩
 by_cases h1 : (L.length : Int) ≤ i
 · have e : Aek L i = 2 := if_neg (by omega);simp (disch := omega) only [ir23, Da, Blk.ptr, h0, h1, List.length_map, go_sem];refine ⟨_, .same _, ?_⟩
   (try simp only [E0, Ez, Ey, Ew, Ev, Eu, Et, Er]); simp (disch := omega) only [e, go_sem]
   exact ⟨900, rfl, if_pos rfl⟩
 · have e : Aek L i = 0 := if_pos (by omega);simp (disch := omega) only [ir23, Da, Blk.ptr, h0, h1, List.length_map, go_sem];refine ⟨_, .same _, ?_⟩
   (try simp only [E0, Ez, Ey, Ew, Ev, Eu, Et, Er]); simp (disch := omega) only [e, go_sem]
   exact ⟨900, rfl, if_pos rfl⟩
theorem Am6 {f : Bool} {z : Nat} {es : List (List PV)} (hz : es = [] ∨ z = 1) {h d} : FunOk Try.prog 17 [.pv (.sl f z es)] h d (.pv (.sl true z es)) [] := by
 refine Aw An fn17 (by simp) rfl rfl fun F => ?_;have e := List.take_length (l := es);simp (disch := omega) only [ir17, hz, e, List.drop_zero, go_sem]
theorem Xr {f : Bool} {z : Nat} {es : List (List PV)} (hne : es ≠ []) (hz : es = [] ∨ z = 1) (hn : es.length ≤ 100000) {h d} : FunOk Try.prog 19 [.pv (.sl f z es)] h d (.os d) [.new d (.row 1 es)] := by
 refine Nq An fn19 (by simp) rfl (.inl rfl) fun F => ?_;simp (disch := omega) only [ir19, hz, go_sem];intro b hb;have hb' := hb hne;subst hb';simp (disch := omega) only [hz, go_sem]
theorem Ah7 {es : List (List PV)} {i : Nat} (hi : i < es.length) (hn : es.length ≤ 100000) {g : Nat} {h d} (hg : h g = some (.row 1 es)) : FunOk Try.prog 22 [.os g, .pv (.i .i64 i), .pv (.i .i64 ((i : Int) + 1))] h d (.os d) [.del g, .new d (.row 1 (es.take i ++ es.drop (i + 1)))] := by
 refine FunOk.ownAny (fun h d hg => ?_) rfl hg;refine Ajr An fn22 (by simp) rfl fun F => ?_;have n1 : ¬ (i : Int) = (i : Int) + 1 := by omega
 have ei : ((i : Int) + 1).toNat = i + 1 := by omega
 have hA : (es.take i ++ es.drop (i + 1)).length = i + (es.drop (i + 1)).length := by simp; omega
 simp (disch := omega) only [ir22, hg, n1, ei, go_sem];refine ⟨by simp; omega, by simp; omega, by simp; omega, 900, _, _, rfl, if_pos rfl, ?_⟩;rw [List.take_left' hA, List.append_assoc, List.take_left' hA]
theorem R5 (m : Msg) (K : KK) : Ot (cut (E4 m) 0 76) true (some (Ch m)) 0 76 K = K (.agg (E4 m)) [] := (rfl)
theorem Ap8 {f : Bool} {z : Nat} {L : List (List UInt8)} {most : Int} {k : Nat} {m : Msg} (hz : L = [] ∨ z = 1) (hk : L[k]? = some (Av m)) (hm : mv m) (hc : Ci m = true) {g : Nat} {h d} (hg : h g = some (.var (Da f z L most))) : FunOk Try.prog 11 [.p g 0, .pv (.i .i64 k)] h d (.tup [.agg (E4 (Fc m)), .pv (.i .i64 0)]) [.upd g (.var (Da f z L most))] := by
 refine FunOk.io (fun h d hg => ?_) rfl rfl rfl rfl hg;refine Je (g := 900) An fn11 (by simp) (by simp [A2, tn]) (by simp [A2, tn]) hg rfl (by simp [Blk.ptr, SV.kill]) rfl (fun _ => rfl) fun F => ?_;have hlt := (List.getElem?_eq_some_iff.1 hk).1;have e : Aek L k = 0 := if_pos (by omega);have hz1 : z = 1 := hz.resolve_left fun e => by subst e; simp at hlt
 subst hz1;have he : (L.map bE)[k]? = some [.sl false 1 (Ac (Av m))] := by rw [List.getElem?_map, hk]; rfl
 simp (disch := omega) only [ir11, Blk.ptr, go_sem];refine Aa (Ah3 (by simp [mk, lk]; rfl)) ?_;simp (disch := omega) only [e, Da, List.length_map, he, Ih, go_sem];refine Aa (Ab7 m hm hc) ?_;simp (disch := omega) only [go_sem];refine ⟨_, .same _, ?_⟩
 (try simp only [E0, Ez, Ey, Ew, Ev, Eu, Et, Er]); simp (disch := omega) only [Fk, R5, go_sem]
 exact ⟨900, rfl, rfl⟩
theorem Ry {f : Bool} {z : Nat} {L : List (List UInt8)} {most : Int} (m : Msg) (hm : mv m) (hc : Ci m = false) {g : Nat} {h d} (hg : h g = some (.var (Da f z L most))) : FunOk Try.prog 7 [.p g 0, .vec 76 (Ch m)] h d (.pv (.i .i64 7)) [.upd g (.var (Da f z L most))] := by
 refine FunOk.io (fun h d hg => ?_) rfl rfl rfl rfl hg;refine Je (g := 900) An fn7 (by simp) (by simp [A2, tn]) (by simp [A2, tn]) hg rfl (by simp [Blk.ptr, SV.kill]) rfl (fun _ => rfl) fun F => ?_;simp (disch := omega) only [ir7, Blk.ptr, go_sem];refine Aa (U6 m hm hc) ?_;simp (disch := omega) only [go_sem];refine ⟨_, .same _, ?_⟩
 (try simp only [E0, Ez, Ey, Ew, Ev, Eu, Et, Er]); simp (disch := omega) only [go_sem]
 exact ⟨900, rfl, rfl⟩
theorem Z8 {f : Bool} {z : Nat} {L : List (List UInt8)} {most : Int} (m : Msg) (hm : mv m) (hc : Ci m = true) (hf : ¬ most ≤ L.length) (hz : L = [] ∨ z = 1) (hn : L.length ≤ 1000) {g : Nat} {h d} (hg : h g = some (.var (Da f z L most))) : FunOk Try.prog 7 [.p g 0, .vec 76 (Ch m)] h d (.pv (.i .i64 0)) [.upd g (.var (Da false 1 (L ++ [Av m]) most))] := by
 refine FunOk.io (fun h d hg => ?_) rfl rfl rfl rfl hg;refine Je (g := 900) An fn7 (by simp) (by simp [A2, tn]) (by simp [A2, tn]) hg rfl (by simp [Blk.ptr, SV.kill]) rfl (fun _ => rfl) fun F => ?_;have hz' : L.map bE = [] ∨ z = 1 := hz.imp_left fun e => by rw [e]; rfl
 simp (disch := omega) only [ir7, Blk.ptr, go_sem];refine Aa (Xh m hm hc) ?_;simp (disch := omega) only [Da, List.length_map, hf, go_sem];refine Aa (Am6 hz') ?_;have ne : ([[PV.sl false 1 (Ac (Av m))]] = ([] : List (List PV))) = False := by simp
 have em : L.map bE ++ [[PV.sl false 1 (Ac (Av m))]] = (L ++ [Av m]).map bE := by simp [bE]
 simp (disch := omega) only [List.length_map, hz', ne, em, go_sem];refine ⟨_, J0 37 rfl (.same _), ?_⟩
 (try simp only [E0, Ez, Ey, Ew, Ev, Eu, Et, Er]); simp (disch := omega) only [go_sem]
 exact ⟨900, rfl, rfl⟩
theorem Am5 {f : Bool} {z : Nat} {L : List (List UInt8)} {most : Int} {k : Nat} {b : List UInt8} (hz : L = [] ∨ z = 1) (hk : L[k]? = some b) (hn : L.length ≤ 1000) {g : Nat} {h d} (hg : h g = some (.var (Da f z L most))) : FunOk Try.prog 15 [.p g 0, .pv (.i .i64 k)] h d (.pv (.i .i64 0)) [.upd g (.var (Da false 1 (L.take k ++ L.drop (k + 1) ++ [b]) most))] := by
 refine FunOk.io (fun h d hg => ?_) rfl rfl rfl rfl hg;refine Je (g := 900) An fn15 (by simp) (by simp [A2, tn]) (by simp [A2, tn]) hg rfl (by simp [Blk.ptr, SV.kill]) rfl (fun _ => rfl) fun F => ?_;have hlt := (List.getElem?_eq_some_iff.1 hk).1;have e : Aek L k = 0 := if_pos (by omega);have hz1 : z = 1 := hz.resolve_left fun e => by subst e; simp at hlt
 subst hz1;have hne : L.map bE ≠ [] := by intro e; rw [List.map_eq_nil_iff] at e; subst e; simp at hlt
 have he : (L.map bE)[k]? = some [.sl false 1 (Ac b)] := by rw [List.getElem?_map, hk]; rfl
 have hml : (L.map bE).length ≤ 100000 := by simp; omega
 have hmk : k < (L.map bE).length := by simpa using hlt
 simp (disch := omega) only [ir15, Blk.ptr, go_sem];refine Aa (Ah3 (by simp [mk, lk]; rfl)) ?_;simp (disch := omega) only [e, Da, List.length_map, he, Ih, go_sem];refine Aa (Xr hne (.inr rfl) hml) ?_;simp (disch := omega) only [go_sem];refine Aa (Ah7 hmk hml rfl) ?_;have em : List.take k (L.map bE) ++ List.drop (k + 1) (L.map bE) ++ [[PV.sl false 1 (Ac b)]] = (L.take k ++ L.drop (k + 1) ++ [b]).map bE := by simp [bE]
 simp (disch := omega) only [List.length_append, List.length_take, List.length_drop, List.length_map, em, go_sem];refine ⟨_, J0 32 rfl (.same _), ?_⟩
 (try simp only [E0, Ez, Ey, Ew, Ev, Eu, Et, Er]); simp (maxSteps := 10000000) (disch := omega) only [go_sem]
 exact ⟨900, rfl, rfl⟩
theorem Ab6 {f : Bool} {z : Nat} {L : List (List UInt8)} {most : Int} {k : Nat} {m : Msg} (hz : L = [] ∨ z = 1) (hk : L[k]? = some (Av m)) (hm : mv m) (hc : Ci m = true) (hn : L.length ≤ 1000) {g : Nat} {h d} (hg : h g = some (.var (Da f z L most))) : FunOk Try.prog 10 [.p g 0, .pv (.i .i64 k)] h d (.tup [.agg (E4 (Fc m)), .pv (.i .i64 0)]) [.upd g (.var (Da false 1 (L.take k ++ L.drop (k + 1)) most))] := by
 refine FunOk.io (fun h d hg => ?_) rfl rfl rfl rfl hg;refine Je (g := 900) An fn10 (by simp) (by simp [A2, tn]) (by simp [A2, tn]) hg rfl (by simp [Blk.ptr, SV.kill]) rfl (fun _ => rfl) fun F => ?_;have hlt := (List.getElem?_eq_some_iff.1 hk).1;have hz1 : z = 1 := hz.resolve_left fun e => by subst e; simp at hlt
 subst hz1;have hne : L.map bE ≠ [] := by intro e; rw [List.map_eq_nil_iff] at e; subst e; simp at hlt
 have hml : (L.map bE).length ≤ 100000 := by simp; omega
 have hmk : k < (L.map bE).length := by simpa using hlt
 simp (disch := omega) only [ir10, Blk.ptr, go_sem];refine Aa (Ap8 hz hk hm hc (by simp [mk, lk]; rfl)) ?_;simp (disch := omega) only [Da, go_sem];refine Aa (Xr hne (.inr rfl) hml) ?_;simp (disch := omega) only [go_sem];refine Aa (Ah7 hmk hml rfl) ?_;have em : List.take k (L.map bE) ++ List.drop (k + 1) (L.map bE) = (L.take k ++ L.drop (k + 1)).map bE := by simp
 simp (disch := omega) only [em, Fk, R5, go_sem];refine ⟨_, J0 25 rfl (.same _), ?_⟩
 (try simp only [E0, Ez, Ey, Ew, Ev, Eu, Et, Er]); simp (maxSteps := 10000000) (disch := omega) only [Fk, R5, go_sem]
 exact ⟨900, rfl, rfl⟩
theorem Ah1 {f : Bool} {z : Nat} {L : List (List UInt8)} {most : Int} (m : Msg) (hm : mv m) (hc : Ci m = true) (hf : ¬ most ≤ L.length) (hz : L = [] ∨ z = 1) (hn : L.length ≤ 1000) {g : Nat} {h d} (hg : h g = some (.var (Da f z L most))) : FunOk Try.prog 7 [.p g 0, .agg (E4 m)] h d (.pv (.i .i64 0)) [.upd g (.var (Da false 1 (L ++ [Av m]) most))] :=
 (Z8 m hm hc hf hz hn hg).imp ⟨Imp.refl _, Lh (Fk m) (D8 m), trivial⟩ (by simp [A2, tn])
def Lp (a b : Int) : Msg := ⟨1, a, b, fun _ => 0, fun _ _ => 0, true, 0, []⟩
theorem Wc (a b : Int) : mv (Lp a b) := ⟨.inl rfl, (by show 0 ≤ 1000; omega), fun e he => (by cases he), fun i _ => by show 0 < 4294967296; omega, fun i _ j _ => by show 0 < 4294967296; omega⟩
theorem S2 {a b : Int} (ha : 1 ≤ a ∧ a ≤ 8) (hb : 1 ≤ b ∧ b ≤ 8) (hn : a ≠ b) : Ci (Lp a b) = true := by
 rw [Io ⟨.inl rfl, ha, hb, hn, by show 0 ≤ 8; omega, fun _ => rfl⟩]; rfl
theorem Acb (a b : Int) {h d} : FunOk Try.prog 13 [.pv (.i .i64 a), .pv (.i .i64 b)] h d (.agg (E4 (Lp a b))) [] := by
 refine Aw An fn13 (by simp) rfl rfl fun F => ?_;simp (disch := omega) only [ir13, E4, Lp, List.map_nil, go_sem]
set_option maxHeartbeats 4000000 in
theorem X2 {h d} : FunOk Try.prog 4 [] h d (.pv (.b true)) [] := by
 refine Aw An fn4 (by simp) rfl rfl fun F => ?_;have c1 := S2 (a := 1) (b := 2) (by omega) (by omega) (by omega);have c2 := S2 (a := 2) (b := 3) (by omega) (by omega) (by omega);have m3 : max (0 : Int) 3 = 3 := by omega
 simp (disch := omega) only [ir4, go_sem];refine Aa (Ah2 3) ?_;rw [m3];simp (disch := omega) only [go_sem];refine Aa (Acb 1 2) ?_;simp (disch := omega) only [go_sem];refine Aa (Ah1 (L := []) (Lp 1 2) (Wc 1 2) c1 (by simp) (.inl rfl) (by simp) rfl) ?_;simp (disch := omega) only [go_sem];refine Aa (Acb 2 3) ?_;simp (disch := omega) only [List.nil_append, go_sem];refine Aa (Ah1 (L := [Av (Lp 1 2)]) (Lp 2 3) (Wc 2 3) c2 (by simp) (.inr rfl) (by simp) rfl) ?_;simp (disch := omega) only [List.cons_append, List.nil_append, go_sem];refine Aa (Am5 (k := 0) (L := [Av (Lp 1 2), Av (Lp 2 3)]) (.inr rfl) rfl (by simp) rfl) ?_;simp (disch := omega) only [List.take_zero, List.drop_succ_cons, List.drop_zero, List.nil_append, List.cons_append, go_sem];refine Aa (Aab (L := [Av (Lp 2 3), Av (Lp 1 2)]) rfl) ?_;simp (disch := omega) only [List.length_cons, List.length_nil, go_sem];refine Aa (Ap8 (k := 1) (L := [Av (Lp 2 3), Av (Lp 1 2)]) (.inr rfl) rfl (Wc 1 2) c1 rfl) ?_;simp (disch := omega) only [E4, show (Fc (Lp 1 2)).fr = 1 from rfl, go_sem]
structure Act where
 kind : Int
 m : Msg
 at_ : Int
def Jp (a : Act) : List PV := .i .i64 a.kind :: (Ch a.m ++ [.i .i64 a.at_])
theorem S8 (a : Act) : (Jp a).length = 78 := by simp [Jp, D8]
theorem Aw9 (a : Act) (K : KK) : LoadK (some (Jp a)) 0 78 true K = K (.vec 78 (Jp a)) [] := I5 (S8 a) K
theorem Anx (a : Act) (K : KK) : LoadK (some (Jp a)) 76 1 false K = K (.pv (.sl a.m.f a.m.z (a.m.evs.map Bw))) [] := by
 simp only [LoadK, Ja, eq_iff_iff];exact ⟨fun h => h.2.2, fun h => ⟨by simp [Jp, Ch, vE, tE, Cm], .inr trivial, h⟩⟩
theorem Asn (a : Act) (K : KK) : LoadK (some (Jp a)) 1 76 true K = K (.vec 76 (Ch a.m)) [] := by
 have e : ((Jp a).drop 1).take 76 = Ch a.m := by
  show (Ch a.m ++ [PV.i .i64 a.at_]).take 76 = _;rw [List.take_left' (D8 _)]
 simp only [LoadK, Ja, eq_iff_iff, e];exact ⟨fun h => h.2.2, fun h => ⟨by simp [S8], .inl trivial, h⟩⟩
attribute [go_sem] Aw9 Anx Asn S8
abbrev Ap4 : Sh := .st [.int .i64, .int .i64, .int .i64, .arr 8 (.int .u32), .arr 8 (.arr 8 (.int .u32)), .sl Ag8]
abbrev Aha : Sh := .st [.int .i64, Ap4, .int .i64]
def okE (e : Evt) : Prop := (∀ i, i < 8 → e.dep i < 4294967296) ∧ e.gone.ok ∧ e.base.ok
def okM (m : Msg) : Prop := (m.evs = [] ∨ m.z = 21) ∧ (∀ e ∈ m.evs, okE e) ∧ (∀ i, i < 8 → m.kn i < 4294967296) ∧ ∀ i, i < 8 → ∀ j, j < 8 → m.tb i j < 4294967296
theorem Auq {cs : List PV} (h : GC Ap4 cs) : ∃ m : Msg, cs = Ch m ∧ okM m := by
 simp only [GC] at h;simp only [GCL] at h;obtain ⟨c0, r0, rfl, ⟨n0, rfl, w0⟩, c1, r1, rfl, ⟨n1, rfl, w1⟩, c2, r2, rfl, ⟨n2, rfl, w2⟩, c3, r3, rfl, g3, c4, r4, rfl, g4, c5, r5, rfl, g5, rfl⟩ := h;obtain ⟨a, rfl, ha⟩ := Alr (by simp only [GC]; exact g3);obtain ⟨t, rfl, ht⟩ := Azc (by simp only [GC]; exact g4);obtain ⟨es, rfl, l6, g6⟩ := Adf (s := Ag8) (by simp only [GC]; exact g5);obtain ⟨m6, rfl, h6⟩ := Sq (f := Bw) Aus g6;exact ⟨⟨n0, n1, n2, a, t, false, 21, m6⟩, by simp [Ch]; rfl, .inr rfl, fun e he => ⟨(h6 e he).1, (h6 e he).2.1, (h6 e he).2.2.1⟩, ha, ht⟩
theorem Aut {cs : List PV} (h : GC Aha cs) : ∃ a : Act, cs = Jp a ∧ okM a.m := by
 simp only [GC] at h;simp only [GCL] at h;obtain ⟨c0, r0, rfl, ⟨n0, rfl, w0⟩, c1, r1, rfl, g1, c2, r2, rfl, ⟨n2, rfl, w2⟩, rfl⟩ := h;obtain ⟨m, rfl, hm⟩ := Auq (by simp only [GC]; simp only [GCL]; exact g1);exact ⟨⟨n0, m, n2⟩, rfl, hm⟩
def Axv (e : Evt) : Prop := e.name.length ≤ 30 ∧ e.data.length ≤ 250 ∧ e.gone.l.length ≤ 10 ∧ e.base.l.length ≤ 10
def Afj (a : Act) : Prop := a.m.evs.length ≤ 10 ∧ ∀ e ∈ a.m.evs, Axv e
noncomputable def Sj (l : List Act) : Bool := open Classical in decide (l.length ≤ 40 ∧ ∀ a ∈ l, Afj a)
theorem Jh {l : List Act} (h : ¬ (l.length ≤ 40 ∧ ∀ a ∈ l, Afj a)) : Sj l = false := by simp only [Sj, h, decide_false]
theorem Ajx {l : List Act} (h : l.length ≤ 40 ∧ ∀ a ∈ l, Afj a) : Sj l = true := by
 unfold Sj;exact @decide_eq_true _ (_) h
theorem Aov {l : List Act} (h : Sj l = true) : l.length ≤ 40 ∧ ∀ a ∈ l, Afj a := Classical.byContradiction fun hn => by rw [Jh hn] at h; cases h
theorem Aw2 {a : Act} (h : Afj a) (hm : okM a.m) : mv a.m :=
 ⟨hm.1, by have := h.1; omega, fun e he => by
  obtain ⟨h1, h2, h3⟩ := hm.2.1 e he;obtain ⟨f1, f2, f3, f4⟩ := h.2 e he;exact ⟨⟨h2, h3, by omega, by omega, by omega⟩, h1⟩, hm.2.2.1, hm.2.2.2⟩
def Abv (l : List Act) (k : Nat) : FS := mk [(12, .pv (.i .i64 k)), (11, .pv (.i .i64 l.length)), (10, .pv (.sl false 78 (l.map Jp)))] []
def L5 (l : List Act) (m : Msg) (k j : Nat) : FS := mk [(25, .pv (.i .i64 j)), (24, .pv (.i .i64 m.evs.length)), (23, .pv (.sl m.f m.z (m.evs.map Bw))), (12, .pv (.i .i64 k)), (11, .pv (.i .i64 l.length)), (10, .pv (.sl false 78 (l.map Jp)))] []
set_option maxHeartbeats 8000000 in
theorem Arz {l : List Act} (hl : ∀ a ∈ l, a.m.evs = [] ∨ a.m.z = 21) {h d} : FunOk Try.prog 5 [.pv (.sl false 78 (l.map Jp))] h d (.pv (.b (Sj l))) [] := by
 refine Aw An fn5 (by simp) rfl rfl fun F => ?_;by_cases hlen : (40 : Int) < (l.length : Int)
 · have e := Jh (l := l) fun h => by omega
   simp (disch := omega) only [ir5, List.length_map, hlen, e, go_sem]
 simp (disch := omega) only [ir5, List.length_map, hlen, go_sem];refine A7 An (Abv l) (fun k => k ≤ l.length ∧ ∀ a ∈ l.take k, Afj a) (fun k => l.length - k) 0 (by simp) (Ar ?_ ?_) fun k hk => ?_
 · simp (disch := omega) only [go_sem]
 · simp (disch := omega) only [go_sem]
 obtain ⟨hk1, hk2⟩ := hk;by_cases hlt : k < l.length
 · have he : (l.map Jp)[k]? = some (Jp l[k]) := by simp [hlt]
   have hmem := List.getElem_mem hlt;have hz := hl _ hmem;have ht : l.take (k + 1) = l.take k ++ [l[k]] := by rw [List.take_add_one, List.getElem?_eq_getElem hlt]; rfl
   generalize l[k] = a at *;by_cases h10 : (10 : Int) < (a.m.evs.length : Int)
   · have e := Jh (l := l) fun h => by have := (h.2 a hmem).1; omega
     simp (disch := omega) only [Abv, List.length_map, he, h10, e, go_sem]
   simp (disch := omega) only [Abv, List.length_map, he, h10, go_sem];refine A7 An (L5 l a.m k) (fun j => j ≤ a.m.evs.length ∧ ∀ e ∈ a.m.evs.take j, Axv e) (fun j => a.m.evs.length - j) 0 (by simp) (Ar ?_ ?_) fun j hj => ?_
   · simp (disch := omega) only [go_sem]
   · simp (disch := omega) only [go_sem]
   obtain ⟨hj1, hj2⟩ := hj;by_cases hltj : j < a.m.evs.length
   · have hz2 : a.m.z = 21 := hz.resolve_left fun e => by rw [e] at hltj; simp at hltj
     have hej : (a.m.evs.map Bw)[j]? = some (Bw a.m.evs[j]) := by simp [hltj]
     have hmj := List.getElem_mem hltj;have htj : a.m.evs.take (j + 1) = a.m.evs.take j ++ [a.m.evs[j]] := by rw [List.take_add_one, List.getElem?_eq_getElem hltj]; rfl
     generalize a.m.evs[j] = x at *;by_cases n1 : (30 : Int) < (x.name.length : Int)
     · have e := Jh (l := l) fun h => by have := ((h.2 a hmem).2 x hmj).1; omega
       simp (disch := omega) only [L5, List.length_map, hz2, hej, E6, n1, e, go_sem]
     by_cases n2 : (250 : Int) < (x.data.length : Int)
     · have e := Jh (l := l) fun h => by have := ((h.2 a hmem).2 x hmj).2.1; omega
       simp (disch := omega) only [L5, List.length_map, hz2, hej, E6, n1, n2, e, go_sem]
     by_cases n3 : (10 : Int) < (x.gone.l.length : Int)
     · have e := Jh (l := l) fun h => by have := ((h.2 a hmem).2 x hmj).2.2.1; omega
       simp (disch := omega) only [L5, List.length_map, hz2, hej, E6, n1, n2, n3, e, go_sem]
     by_cases n4 : (10 : Int) < (x.base.l.length : Int)
     · have e := Jh (l := l) fun h => by have := ((h.2 a hmem).2 x hmj).2.2.2; omega
       simp (disch := omega) only [L5, List.length_map, hz2, hej, E6, n1, n2, n3, n4, e, go_sem]
     simp (disch := omega) only [L5, List.length_map, hz2, hej, E6, n1, n2, n3, n4, go_sem];refine Az (j + 1) _ _ rfl ⟨by omega, fun e he => ?_⟩ (by omega) ?_ ?_
     · rw [htj] at he;rcases List.mem_append.1 he with he | he
       · exact hj2 e he
       · rw [List.mem_singleton.1 he]; exact ⟨by omega, by omega, by omega, by omega⟩
     · simp (disch := omega) only [hz2, go_sem]
     · simp (disch := omega) only [go_sem]
   obtain rfl : j = a.m.evs.length := by omega
   rw [List.take_length] at hj2;simp (disch := omega) only [L5, go_sem];refine Az (k + 1) _ _ rfl ⟨by omega, fun b hb => ?_⟩ (by omega) ?_ ?_
   · rw [ht] at hb;rcases List.mem_append.1 hb with hb | hb
     · exact hk2 b hb
     · rw [List.mem_singleton.1 hb]; exact ⟨by omega, hj2⟩
   · simp (disch := omega) only [go_sem]
   · simp (disch := omega) only [go_sem]
 obtain rfl : k = l.length := by omega
 rw [List.take_length] at hk2;have e := Ajx (l := l) ⟨by omega, hk2⟩;simp (disch := omega) only [Abv, e, go_sem]
theorem Ai7 (n : Int) : Imp (.agg [.pv (.sl true 0 []), .pv (.i .i64 n)]) (.agg [.pv (.sl false 1 []), .pv (.i .i64 n)]) = True := by
 refine eq_true fun V ρ v h => ?_;simp only [Conc, Cells] at h ⊢;obtain ⟨vs, rfl, u, us, e1, h1, h2, h3, h4⟩ := h;refine ⟨vs, rfl, u, us, e1, ?_, h2, h3, h4⟩;cases h1 with
 | sl _ _ _ a cap cs bl off arr hcap hfull hsz ha hcs hel =>
   exact .sl false 1 [] a cap cs bl off arr hcap (by simp) (by simp) (by simp) (by simp) (by simp)
theorem Axg (n f z L m) : SV.kill n (Da f z L m) = Da f z L m := (rfl)
theorem Avx (a b f z L m) : SV.ren a b (Da f z L m) = Da f z L m := (rfl)
theorem Avg (f z L m) : (Da f z L m).width = 2 := (rfl)
attribute [go_sem] Axg Avx Avg
end Go.Proofs.Ytagpocgklmeoiaa.Fw
