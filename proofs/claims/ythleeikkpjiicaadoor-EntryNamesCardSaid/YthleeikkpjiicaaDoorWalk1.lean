/- What the functions compute that the laws of this seat reach. -/
import Derived.Test.YthleeikkpjiicaaDoorIr
import Derived.OpenShut
import Derived.ShutString
import Derived.ChangeOld
import Derived.SizedLaws
import Derived.ChangeOld
import Derived.KernelRfl
import Derived.LaidSub
import Derived.Lib.AppendIntMem
import Derived.Lib.Overlaps
import Derived.OpenShut
import Derived.Shelf.Strconv.Itoa3
import Derived.ShutString
import Derived.SizedLaws
import Derived.Test.YthleeikkpjiicaaDoorProg
set_option linter.unusedVariables false
set_option linter.unusedSimpArgs false
set_option linter.unusedSectionVars false
set_option maxRecDepth 100000
namespace Go.Proofs.YthleeikkpjiicaaDoor.Fw
open Go.RowKit Go.Proofs
end Go.Proofs.YthleeikkpjiicaaDoor.Fw
namespace Go.Proofs.YthleeikkpjiicaaDoor.Fw
open Go.RowKit
noncomputable abbrev Gi (w : World) : View := Aj w fun _ => False
theorem O3 {w : World} {a : Addr} {v : Value} (h : w.cell? a = some v) : a.spot = none ∧ ∃ arr, Gi w a.block = some arr ∧ arr[a.off]? = some v := by
 unfold World.cell? at h;split at h
 · rename_i c ty fr hb;split at h
   · cases h
   · rename_i hs;refine ⟨by cases hx : a.spot <;> simp_all, c, ?_, h⟩;unfold Gi Aj Bl;simp [hb]
 · cases h
inductive Sh where
 | int (k : IntKind) | bool | str | arr (n : Nat) (s : Sh) | st (l : List Sh) | sl (s : Sh)
mutual
def Sh.w : Sh → Nat
 | .arr n s => n * s.w
 | .st l => Sh.wL l
 | _ => 1
def Sh.wL : List Sh → Nat
 | [] => 0
 | s :: l => s.w + Sh.wL l
end
mutual
def Qo (P : Program) : Sh → TypeId → Bool
 | .int k, t => match P.underlying t with | some (.int k') => decide (k = k') | _ => false
 | .bool, t => match P.underlying t with | some .bool => true | _ => false
 | .str, t => match P.underlying t with | some .string => true | _ => false
 | .arr n s, t => match P.underlying t with | some (.array n' e) => decide (n = n') && decide (P.cellsOf e = s.w) && decide (P.cellsOf t = n * s.w) && Qo P s e | _ => false
 | .st l, t => match P.underlying t with | some (.struct fs) => decide (P.cellsOf t = Sh.wL l) && Yq P l fs.toList 0 | _ => false
 | .sl s, t => match P.underlying t with | some (.slice e) => decide (P.cellsOf e = s.w) && decide (0 < s.w) && Qo P s e | _ => false
def Yq (P : Program) : List Sh → List Field → Nat → Bool
 | [], [], _ => true
 | s :: l, f :: fs, off => decide (f.offset = off) && decide (P.cellsOf f.type = s.w) && Qo P s f.type && Yq P l fs (off + s.w)
 | _, _, _ => false
end
mutual
def GC : Sh → List PV → Prop
 | .int k, cs => ∃ n, cs = [.i k n] ∧ (Lit.int k n).wf = true
 | .bool, cs => ∃ b, cs = [.b b]
 | .str, cs => ∃ l, cs = [.s l] ∧ l.length ≤ maxLen
 | .arr n s, cs => ∃ cc : List (List PV), cs = cc.flatten ∧ cc.length = n ∧ ∀ c ∈ cc, GC s c
 | .st l, cs => GCL l cs
 | .sl s, cs => ∃ es, cs = [.sl false s.w es] ∧ es.length ≤ maxLen ∧ ∀ c ∈ es, GC s c
def GCL : List Sh → List PV → Prop
 | [], cs => cs = []
 | s :: l, cs => ∃ c cs', cs = c ++ cs' ∧ GC s c ∧ GCL l cs'
end
theorem Rw {w : Nat} : ∀ {cc : List (List PV)}, (∀ c ∈ cc, c.length = w) → cc.flatten.length = cc.length * w
 | [], _ => by simp
 | c :: cc, h => by
   rw [List.flatten_cons, List.length_append, Rw fun c hc => h c (by simp [hc]), h c (by simp), List.length_cons, Nat.add_mul]; omega
mutual
theorem GC.len : ∀ {s : Sh} {cs : List PV}, GC s cs → cs.length = s.w
 | .int k, cs, h => by obtain ⟨n, rfl, _⟩ := h; rfl
 | .bool, cs, h => by obtain ⟨n, rfl⟩ := h; rfl
 | .str, cs, h => by obtain ⟨n, rfl, _⟩ := h; rfl
 | .arr n s, cs, h => by
   simp only [GC] at h;obtain ⟨cc, rfl, rfl, h⟩ := h;rw [Rw fun c hc => GC.len (h c hc)]; rfl
 | .st l, cs, h => by simp only [GC] at h; simp only [Sh.w]; exact GCL.len h
 | .sl s, cs, h => by obtain ⟨n, rfl, _⟩ := h; rfl
theorem GCL.len : ∀ {l : List Sh} {cs : List PV}, GCL l cs → cs.length = Sh.wL l
 | [], cs, h => by simp only [GCL] at h; subst h; rfl
 | s :: l, cs, h => by
   simp only [GCL] at h;obtain ⟨c, cs', rfl, h1, h2⟩ := h;rw [List.length_append, GC.len h1, GCL.len h2]; rfl
end
theorem Abl {V : View} {s : Sh} : ∀ (n : Nat) (vs : List Value), vs.length = n * s.w → (∀ i, i < n → ∃ c, GC s c ∧ PCells V c ((vs.drop (i * s.w)).take s.w)) → ∃ cc : List (List PV), cc.length = n ∧ (∀ c ∈ cc, GC s c) ∧ PCells V cc.flatten vs
 | 0, vs, hl, h => by
   have : vs = [] := List.eq_nil_of_length_eq_zero (by omega);subst this;exact ⟨[], rfl, by simp, PCells.nil⟩
 | n + 1, vs, hl, h => by
   rw [Nat.add_mul] at hl;obtain ⟨c, g, p⟩ := h 0 (by omega);rw [Nat.zero_mul, List.drop_zero] at p;obtain ⟨cc, e1, e2, e3⟩ := Abl (V := V) (s := s) n (vs.drop s.w) (by rw [List.length_drop]; omega) fun i hi => by
    obtain ⟨c', g', p'⟩ := h (i + 1) (by omega);refine ⟨c', g', ?_⟩;rw [List.drop_drop, show s.w + i * s.w = (i + 1) * s.w from by rw [Nat.add_mul]; omega];exact p'
   refine ⟨c :: cc, by simp [e1], fun x hx => ?_, ?_⟩
   · rcases List.mem_cons.1 hx with rfl | hx
     · exact g
     · exact e2 x hx
   · rw [List.flatten_cons];have := PCells.append p e3
     rwa [List.take_append_drop] at this
theorem Afa {a : Addr} (h : a.spot = none) (i j : Nat) : (a.add i).add j = ⟨a.block, a.off + (i + j), none⟩ := by
 obtain ⟨b, o, sp⟩ := a;simp only at h; subst h;unfold Addr.add;by_cases hi : i = 0
 · subst hi;by_cases hj : j = 0
   · subst hj; simp
   · simp [hj]
 · by_cases hj : j = 0
   · subst hj; simp [hi]
   · simp [hi, hj]; omega
theorem Ym {w : World} {s : Sh} {a : Addr} {len cap : Nat} (hcap : len ≤ cap) (hw : 0 < s.w)
 (h : ∀ i, i < len → ∃ c vs, GC s c ∧ PCells (Gi w) c vs ∧ w.cells? 0 (a.add (i * s.w)) s.w = some vs) :
 ∃ es : List (List PV), es.length = len ∧ (∀ c ∈ es, GC s c) ∧ PConc (Gi w) (.sl false s.w es) (.slice (some a) len cap) := by
 by_cases h0 : len = 0
 · subst h0;exact ⟨[], rfl, by simp, .sl false s.w [] (some a) cap (fun _ _ => undef) 0 0 #[] (by simp) (by simp) (by simp) (by simp) (by simp) (by simp)⟩
 · have h' : ∀ i, ∃ c vs, i < len → GC s c ∧ PCells (Gi w) c vs ∧ w.cells? 0 (a.add (i * s.w)) s.w = some vs := fun i => by
    by_cases hi : i < len
    · obtain ⟨c, vs, h1⟩ := h i hi; exact ⟨c, vs, fun _ => h1⟩
    · exact ⟨[], [], fun h => absurd h hi⟩
   obtain ⟨c, hc⟩ := Classical.axiomOfChoice h';obtain ⟨vs, hv⟩ := Classical.axiomOfChoice hc;obtain ⟨g0, p0, k0⟩ := hv 0 (by omega);obtain ⟨_, l0, c0⟩ := World.cells?_some k0;have c00 := c0 0 hw;have hlen0 : 0 < (vs 0).length := by omega
   rw [List.getElem?_eq_getElem hlen0, Nat.zero_mul] at c00;have e0 : (a.add 0).add 0 = a := by simp [Addr.add]
   rw [e0] at c00;obtain ⟨hs, arr, harr, _⟩ := O3 c00;have hget : ∀ i j, i < len → j < s.w → arr[a.off + (i * s.w + j)]? = (vs i)[j]? := fun i j hi hj => by
    obtain ⟨_, _, k⟩ := hv i hi;obtain ⟨_, ll, cc⟩ := World.cells?_some k;have h1 := cc j hj;have hlt : j < (vs i).length := by omega
    rw [List.getElem?_eq_getElem hlt, Afa hs] at h1;obtain ⟨_, arr', ha', h2⟩ := O3 h1;simp only at ha' h2;rw [harr] at ha'; cases ha';rw [h2, List.getElem?_eq_getElem hlt]
   have hel : ∀ i, i < len → ((List.range len).map c)[i]? = some (c i) := fun i hi => by simp [hi]
   refine ⟨(List.range len).map c, by simp, fun x hx => ?_, ?_⟩
   · obtain ⟨i, hi, rfl⟩ := List.mem_map.1 hx;exact (hv i (by simpa using hi)).1
   · have e := PConc.sl (V := Gi w) false s.w ((List.range len).map c) (some a) cap (fun i j => (vs i).getD j undef) a.block a.off arr (by simpa using hcap) (by simp) (fun x hx => by
      obtain ⟨i, hi, rfl⟩ := List.mem_map.1 hx;exact (hv i (by simpa using hi)).1.len) (fun _ => by
      obtain ⟨b, o, sp⟩ := a;simp only at hs; subst hs;exact ⟨rfl, harr⟩) (fun i j hi hj => by
      have hi' : i < len := by simpa using hi
      rw [hget i j hi' hj];have : j < (vs i).length := by
       obtain ⟨_, ll, _⟩ := World.cells?_some (hv i hi').2.2; omega
      simp [List.getD_eq_getElem?_getD, this]) (fun i j x y hx hy => by
      have hi' : i < len := by
       have := (List.getElem?_eq_some_iff.1 hx).1; simpa using this
      rw [hel i hi'] at hx; cases hx;obtain ⟨v, hv1, hv2⟩ := (hv i hi').2.1.2 j y hy;simp only [List.getD_eq_getElem?_getD, hv1, Option.getD_some]; exact hv2)
     simpa using e
section
variable {H : Type} {enc : TypeId × Value → H} {P : Program} {w : World} {spare : Nat → Bool} {held : Bool}
mutual
theorem Ll : ∀ (s : Sh) {t : TypeId} {fuel : Nat} {vs : List Value} {x}, Qo P s t = true → DataW.trod enc P w 0 spare held fuel t vs = some x → ∃ cs, GC s cs ∧ PCells (Gi w) cs vs
 | .int k, t, fuel, vs, x, hs, h => by
   simp only [Qo] at hs;split at hs
   · rename_i k' hu;obtain rfl := of_decide_eq_true hs;obtain ⟨n, rfl, _, hw⟩ := DataW.trod_int hu h;exact ⟨[.i k n], ⟨n, rfl, hw⟩, PCells.cons (.i _ _) PCells.nil⟩
   · cases hs
 | .bool, t, fuel, vs, x, hs, h => by
   simp only [Qo] at hs;split at hs
   · rename_i hu;obtain ⟨n, rfl, _⟩ := DataW.trod_bool hu h;exact ⟨[.b n], ⟨n, rfl⟩, PCells.cons (.b _) PCells.nil⟩
   · cases hs
 | .str, t, fuel, vs, x, hs, h => by
   simp only [Qo] at hs;split at hs
   · rename_i hu;obtain ⟨b, rfl, _, hl⟩ := DataW.trod_string hu h;refine ⟨[.s b.data.toList], ⟨b.data.toList, rfl, by simpa using hl⟩, PCells.cons ?_ PCells.nil⟩;have := PConc.s (V := Gi w) b.data.toList;simpa using this
   · cases hs
 | .arr n s, t, fuel, vs, x, hs, h => by
   simp only [Qo] at hs;split at hs
   · rename_i n' e hu;simp only [Bool.and_eq_true, decide_eq_true_eq] at hs;obtain ⟨⟨⟨rfl, h1⟩, h2⟩, h3⟩ := hs;obtain ⟨xs, m, rfl, _, hl, hx, hg⟩ := DataW.trod_array hu h;rw [h1] at hg;obtain ⟨cc, e1, e2, e3⟩ := Abl (V := Gi w) (s := s) n vs (by rw [hl, h2]) fun i hi => by
      have := hg i hi;rw [List.getElem?_eq_getElem (by omega)] at this;exact Ll s h3 this
     exact ⟨cc.flatten, by simp only [GC]; exact ⟨cc, rfl, e1, e2⟩, e3⟩
   · cases hs
 | .st l, t, fuel, vs, x, hs, h => by
   simp only [Qo] at hs;split at hs
   · rename_i fs hu;simp only [Bool.and_eq_true, decide_eq_true_eq] at hs;obtain ⟨h2, h3⟩ := hs;obtain ⟨xs, m, rfl, _, hl, hx, hg⟩ := DataW.trod_struct hu h;obtain ⟨cs, e1, e2⟩ := Qq l (off := 0) (vs := vs) h3 fun f hf => by
      obtain ⟨i, hi⟩ := List.mem_iff_getElem?.1 hf;have hi2 : fs[i]? = some f := by simpa using hi
      have := hg i f hi2;have hlt := (Array.getElem?_eq_some_iff.1 hi2).1;rw [List.getElem?_eq_getElem (by omega)] at this;exact ⟨_, _, this⟩
     rw [List.drop_zero, ← h2, ← hl, List.take_length] at e2;exact ⟨cs, by simp only [GC]; exact e1, e2⟩
   · cases hs
 | .sl s, t, fuel, vs, x, hs, h => by
   simp only [Qo] at hs;split at hs
   · rename_i e hu;simp only [Bool.and_eq_true, decide_eq_true_eq] at hs;obtain ⟨⟨h1, h2⟩, h3⟩ := hs;rcases DataW.trod_slice hu h with ⟨rfl, _⟩ | ⟨a, len, cap, Bn, rest, n, rfl, rfl, _, _, hl, hm, hle, hg, _⟩
     · exact ⟨[.sl false s.w []], by simp only [GC]; exact ⟨[], rfl, by simp, by simp⟩, PCells.cons (.sl false s.w [] none 0 (fun _ _ => undef) 0 0 #[] (by simp) (by simp) (by simp) (by simp) (by simp) (by simp)) PCells.nil⟩
     · rw [h1] at hg;obtain ⟨es, e1, e2, e3⟩ := Ym (w := w) (s := s) (a := a) hl h2 fun i hi => by
        have h4 := hg i hi;rw [List.getElem?_eq_getElem (by omega)] at h4;obtain ⟨vs, h5, h6⟩ := Option.bind_eq_some_iff.1 h4;obtain ⟨c, g, p⟩ := Ll s h3 h6;exact ⟨c, vs, g, p, h5⟩
       exact ⟨[.sl false s.w es], by simp only [GC]; exact ⟨es, rfl, by omega, e2⟩, PCells.cons e3 PCells.nil⟩
   · cases hs
theorem Qq : ∀ (l : List Sh) {fs : List Field} {off : Nat} {vs : List Value}, Yq P l fs off = true →
 (∀ f ∈ fs, ∃ n x, DataW.trod enc P w 0 spare held n f.type ((vs.drop f.offset).take (P.cellsOf f.type)) = some x) → ∃ cs, GCL l cs ∧ PCells (Gi w) cs ((vs.drop off).take (Sh.wL l))
 | [], fs, off, vs, hs, h => ⟨[], by simp only [GCL], by simp only [Sh.wL, List.take_zero]; exact PCells.nil⟩
 | s :: l, [], off, vs, hs, h => by simp [Yq] at hs
 | s :: l, f :: fs, off, vs, hs, h => by
   simp only [Yq, Bool.and_eq_true, decide_eq_true_eq] at hs;obtain ⟨⟨⟨h1, h2⟩, h3⟩, h4⟩ := hs;obtain ⟨n, x, hx⟩ := h f (by simp);obtain ⟨c, g, p⟩ := Ll s h3 hx;obtain ⟨cs, gl, pl⟩ := Qq l (vs := vs) h4 fun f hf => h f (by simp [hf]);refine ⟨c ++ cs, by simp only [GCL]; exact ⟨c, cs, rfl, g, gl⟩, ?_⟩;rw [h1, h2] at p;have := PCells.append p pl;have e : (vs.drop off).take (Sh.wL (s :: l)) = (vs.drop off).take s.w ++ (vs.drop (off + s.w)).take (Sh.wL l) := by
    simp only [Sh.wL];rw [List.take_add, List.drop_drop]
   rw [e]; exact this
end
end
mutual
def Ec : Sh → List PV → SV
 | .arr n s, cs => .vec (n * s.w) cs
 | .st l, cs => .agg (H0 l cs)
 | _, cs => .pv (cs.headD (.b false))
def H0 : List Sh → List PV → List SV
 | [], _ => []
 | s :: l, cs => (Ec s (cs.take s.w)).segs ++ H0 l (cs.drop s.w)
end
def Sh.isAg : Sh → Bool
 | .arr _ _ => true
 | .st _ => true
 | _ => false
theorem Jl {V : View} {ρ : Nat → Value} : ∀ {l m : List SV} {a b : List Value}, Cells V ρ l a → Cells V ρ m b → Cells V ρ (l ++ m) (a ++ b)
 | [], m, a, b, h1, h2 => by simp only [Cells] at h1; subst h1; exact h2
 | x :: l, m, a, b, h1, h2 => by
   simp only [Cells, List.cons_append] at h1 ⊢;obtain ⟨u, us, rfl, c, d, e, f⟩ := h1;exact ⟨u, us ++ b, by simp, c, d, e, Jl f h2⟩
mutual
theorem O2 {V : View} {ρ : Nat → Value} : ∀ (s : Sh) {cs : List PV} {v : Value}, GC s cs → PCells V cs (Ah v) → (s.isAg = true → ∃ vs, v = .agg ⟨vs⟩) → (s.isAg = false → ∀ vs, v ≠ .agg vs) → Conc V ρ (Ec s cs) v
 | .int k, cs, v, g, p, _, h => by
   obtain ⟨n, rfl, _⟩ := g;have e : Ah v = [v] := by cases v <;> first | rfl | exact absurd rfl (h rfl _)
   rw [e] at p;obtain ⟨v', h1, h2⟩ := p.2 0 _ rfl;simp at h1; subst h1;simp only [Ec, Conc, List.headD_cons]; exact h2
 | .bool, cs, v, g, p, _, h => by
   obtain ⟨n, rfl⟩ := g;have e : Ah v = [v] := by cases v <;> first | rfl | exact absurd rfl (h rfl _)
   rw [e] at p;obtain ⟨v', h1, h2⟩ := p.2 0 _ rfl;simp at h1; subst h1;simp only [Ec, Conc, List.headD_cons]; exact h2
 | .str, cs, v, g, p, _, h => by
   obtain ⟨n, rfl, _⟩ := g;have e : Ah v = [v] := by cases v <;> first | rfl | exact absurd rfl (h rfl _)
   rw [e] at p;obtain ⟨v', h1, h2⟩ := p.2 0 _ rfl;simp at h1; subst h1;simp only [Ec, Conc, List.headD_cons]; exact h2
 | .sl s, cs, v, g, p, _, h => by
   simp only [GC] at g;obtain ⟨n, rfl, _⟩ := g;have e : Ah v = [v] := by cases v <;> first | rfl | exact absurd rfl (h rfl _)
   rw [e] at p;obtain ⟨v', h1, h2⟩ := p.2 0 _ rfl;simp at h1; subst h1;simp only [Ec, Conc, List.headD_cons]; exact h2
 | .arr n s, cs, v, g, p, h, _ => by
   obtain ⟨vs, rfl⟩ := h rfl;have hl := g.len;simp only [Ec, Conc];refine ⟨vs, rfl, ?_, p⟩;have e1 : vs.length = cs.length := p.1.symm;rw [e1, hl]; rfl
 | .st l, cs, v, g, p, h, _ => by
   obtain ⟨vs, rfl⟩ := h rfl;simp only [GC] at g;simp only [Ec, Conc];exact ⟨vs, rfl, G2 l g p⟩
theorem G2 {V : View} {ρ : Nat → Value} : ∀ (l : List Sh) {cs : List PV} {vs : List Value}, GCL l cs → PCells V cs vs → Cells V ρ (H0 l cs) vs
 | [], cs, vs, g, p => by
   simp only [GCL] at g; subst g;have : vs = [] := List.eq_nil_of_length_eq_zero (by rw [← p.1]; rfl);subst this;simp only [H0, Cells]
 | s :: l, cs, vs, g, p => by
   simp only [GCL] at g;obtain ⟨c, cs', rfl, g1, g2⟩ := g;have hl := g1.len;have p1 : PCells V c (vs.take c.length) := by
    have := p.split c.length |>.1;simpa using this
   have p2 : PCells V cs' (vs.drop c.length) := by
    have := p.split c.length |>.2;simpa using this
   have hvs : vs = vs.take c.length ++ vs.drop c.length := (List.take_append_drop _ _).symm;have hlen : (vs.take c.length).length = s.w := by rw [← p1.1, hl]
   simp only [H0];rw [List.take_left' hl, List.drop_left' hl];rw [hvs];refine Jl ?_ (G2 l g2 p2);cases s with
   | st m =>
     simp only [GC] at g1;simp only [Ec, SV.segs];exact G2 m g1 p1
   | arr n s' =>
     have := O2 (V := V) (ρ := ρ) (.arr n s') (v := .agg ⟨vs.take c.length⟩) g1 (by simpa [Ah] using p1) (fun _ => ⟨_, rfl⟩) (by simp [Sh.isAg]);simp only [Ec] at this ⊢;simp only [SV.segs, Cells];exact ⟨_, [], by simp [Ah], this, by simpa [Ah, SV.width, Sh.w] using hlen, fun v hv => p1.one v (by simpa [Ah] using hv), rfl⟩
   | int k =>
     obtain ⟨n, rfl, _⟩ := g1;obtain ⟨v, h1, h2⟩ := p1.2 0 _ rfl;have e : vs.take [PV.i k n].length = [v] := by
      match hx : vs.take [PV.i k n].length, h1, hlen with
      | [u], h1, _ => simp at h1; rw [h1]
     have ho := h2.one;have fv : Ah v = [v] := by cases v <;> first | rfl | exact absurd ho (by simp [An])
     rw [e];simp only [Ec, SV.segs, Cells, Conc, List.headD_cons];exact ⟨v, [], by rw [fv]; rfl, h2, by rw [fv]; rfl, by rw [fv]; simpa using ho, rfl⟩
   | bool =>
     obtain ⟨n, rfl⟩ := g1;obtain ⟨v, h1, h2⟩ := p1.2 0 _ rfl;have e : vs.take [PV.b n].length = [v] := by
      match hx : vs.take [PV.b n].length, h1, hlen with
      | [u], h1, _ => simp at h1; rw [h1]
     have ho := h2.one;have fv : Ah v = [v] := by cases v <;> first | rfl | exact absurd ho (by simp [An])
     rw [e];simp only [Ec, SV.segs, Cells, Conc, List.headD_cons];exact ⟨v, [], by rw [fv]; rfl, h2, by rw [fv]; rfl, by rw [fv]; simpa using ho, rfl⟩
   | str =>
     obtain ⟨n, rfl, _⟩ := g1;obtain ⟨v, h1, h2⟩ := p1.2 0 _ rfl;have e : vs.take [PV.s n].length = [v] := by
      match hx : vs.take [PV.s n].length, h1, hlen with
      | [u], h1, _ => simp at h1; rw [h1]
     have ho := h2.one;have fv : Ah v = [v] := by cases v <;> first | rfl | exact absurd ho (by simp [An])
     rw [e];simp only [Ec, SV.segs, Cells, Conc, List.headD_cons];exact ⟨v, [], by rw [fv]; rfl, h2, by rw [fv]; rfl, by rw [fv]; simpa using ho, rfl⟩
   | sl s' =>
     simp only [GC] at g1;obtain ⟨n, rfl, _⟩ := g1;obtain ⟨v, h1, h2⟩ := p1.2 0 _ rfl;have e : vs.take [PV.sl false s'.w n].length = [v] := by
      match hx : vs.take [PV.sl false s'.w n].length, h1, hlen with
      | [u], h1, _ => simp at h1; rw [h1]
     have ho := h2.one;have fv : Ah v = [v] := by cases v <;> first | rfl | exact absurd ho (by simp [An])
     rw [e];simp only [Ec, SV.segs, Cells, Conc, List.headD_cons];exact ⟨v, [], by rw [fv]; rfl, h2, by rw [fv]; rfl, by rw [fv]; simpa using ho, rfl⟩
end
mutual
theorem Qr : ∀ (s : Sh) (cs : List PV), (Ec s cs).closed = true
 | .int k, cs => rfl
 | .bool, cs => rfl
 | .str, cs => rfl
 | .sl s, cs => rfl
 | .arr n s, cs => rfl
 | .st l, cs => by simp only [Ec, SV.closed]; exact Eu l cs
theorem Eu : ∀ (l : List Sh) (cs : List PV), SV.closedL (H0 l cs) = true
 | [], cs => rfl
 | s :: l, cs => by
   simp only [H0];have h2 := Eu l (cs.drop s.w);have app : ∀ (a b : List SV), SV.closedL a = true → SV.closedL b = true → SV.closedL (a ++ b) = true := fun a b ha hb => by
    induction a with
    | nil => exact hb
    | cons x a ih => simp only [SV.closedL, Bool.and_eq_true, List.cons_append] at ha ⊢; exact ⟨ha.1, ih ha.2⟩
   refine app _ _ ?_ h2;cases s with
   | st m => simp only [Ec, SV.segs]; exact Eu m _
   | int k => rfl
   | bool => rfl
   | str => rfl
   | sl s => rfl
   | arr n s => rfl
end
theorem V7 {P : Program} {w : World} {base : Nat} {t : TypeId} {v : Value} : ∀ {s : Sh}, Qo P s t = true → Value.okWide P w .any base t v → (s.isAg = true → ∃ vs, v = .agg ⟨vs⟩) ∧ (s.isAg = false → ∀ vs, v ≠ .agg vs)
 | .int k, hs, h => by
   simp only [Qo] at hs;split at hs
   · rename_i k' hu;obtain ⟨n, rfl⟩ := WideShapes.okWide_int hu h;exact ⟨fun h => (by cases h), fun _ vs e => by cases e⟩
   · cases hs
 | .bool, hs, h => by
   simp only [Qo] at hs;split at hs
   · rename_i hu;obtain ⟨n, rfl⟩ := WideShapes.okWide_bool hu h;exact ⟨fun h => (by cases h), fun _ vs e => by cases e⟩
   · cases hs
 | .str, hs, h => by
   simp only [Qo] at hs;split at hs
   · rename_i hu;obtain ⟨n, rfl⟩ := WideShapes.okWide_string hu h;exact ⟨fun h => (by cases h), fun _ vs e => by cases e⟩
   · cases hs
 | .sl s, hs, h => by
   simp only [Qo] at hs;split at hs
   · rename_i e hu;obtain ⟨a, b, c, rfl⟩ := WideShapes.okWide_slice hu h;exact ⟨fun h => (by cases h), fun _ vs e => by cases e⟩
   · cases hs
 | .arr n s, hs, h => by
   simp only [Qo] at hs;split at hs
   · rename_i n' e hu;simp only [Value.okWide, hu] at h;obtain ⟨⟨xs⟩, rfl, _⟩ := h;exact ⟨fun _ => ⟨_, rfl⟩, fun h => (by cases h)⟩
   · cases hs
 | .st l, hs, h => by
   simp only [Qo] at hs;split at hs
   · rename_i fs hu;simp only [Value.okWide, hu] at h;obtain ⟨⟨xs⟩, rfl, _⟩ := h;exact ⟨fun _ => ⟨_, rfl⟩, fun h => (by cases h)⟩
   · cases hs
theorem Sc {H : Type} {enc : TypeId × Value → H} {P : Program} {w : World} {spare : Nat → Bool} {held : Bool} {base : Nat} {t : TypeId} {v : Value} {d : DataW H} {ps : List MemPlace} {s : Sh} (hs : Qo P s t = true)
 (hv : Value.okWide P w .any base t v) (h : DataW.Trod enc P w 0 spare held t v d ps) : ∃ cs, GC s cs ∧ Conc (Gi w) (fun _ => undef) (Ec s cs) v := by
 obtain ⟨fuel, hf⟩ := h;obtain ⟨cs, g, p⟩ := Ll s hs hf;rw [Ch] at p;obtain ⟨h1, h2⟩ := V7 hs hv;exact ⟨cs, g, O2 s g p h1 h2⟩
end Go.Proofs.YthleeikkpjiicaaDoor.Fw
namespace Go.Proofs.YthleeikkpjiicaaDoor.Fw
open Go.RowKit
theorem Rx {m : Nat} : ∀ {cc : List (List PV)} {i j : Nat}, (∀ c ∈ cc, c.length = m) → j < m → cc.flatten[i * m + j]? = (cc[i]?).bind (·[j]?)
 | [], i, j, _, _ => by simp
 | c :: cc, 0, j, h, hj => by
   have hc := h c (by simp);rw [List.flatten_cons, Nat.zero_mul, Nat.zero_add, List.getElem?_append_left (by omega)]; rfl
 | c :: cc, i + 1, j, h, hj => by
   have hc := h c (by simp);rw [List.flatten_cons, List.getElem?_append_right (by rw [Nat.add_mul]; omega)];rw [show (i + 1) * m + j - c.length = i * m + j from by rw [Nat.add_mul]; omega];rw [Rx (fun c hc => h c (by simp [hc])) hj]; rfl
theorem Ajr {n : Nat} {s : Sh} {cs : List PV} (h : GC (.arr n s) cs) : cs.length = n * s.w ∧ ∀ i, i < n → ∃ c, GC s c ∧ ∀ j, j < s.w → cs[i * s.w + j]? = c[j]? := by
 refine ⟨h.len, fun i hi => ?_⟩;simp only [GC] at h;obtain ⟨cc, rfl, rfl, g⟩ := h;refine ⟨cc[i], g _ (List.getElem_mem _), fun j hj => ?_⟩;rw [Rx (fun c hc => (g c hc).len) hj, List.getElem?_eq_getElem hi]; rfl
theorem X8 {n : Int} (h : (Lit.int .u32 n).wf = true) : 0 ≤ n ∧ n < 4294967296 := by
 simp [Lit.wf, IntKind.min, IntKind.max, IntKind.signed, IntKind.bits] at h; omega
theorem Ail {n : Int} (h : (Lit.int .i64 n).wf = true) : -9223372036854775808 ≤ n ∧ n < 9223372036854775808 := by
 simp [Lit.wf, IntKind.min, IntKind.max, IntKind.signed, IntKind.bits] at h; omega
theorem Ae0 {n : Nat} {cs : List PV} {f : Nat → PV} (hl : cs.length = n) (h : ∀ i, i < n → cs[i]? = some (f i)) : cs = Ij n f := by
 apply List.ext_getElem?;intro i;by_cases hi : i < n
 · rw [h i hi, Nv hi]
 · rw [List.getElem?_eq_none (by omega), List.getElem?_eq_none (by rw [Ld]; omega)]
theorem Anc {cs : List PV} (h : GC (.arr 8 (.int .u32)) cs) : ∃ a : Vc, cs = vE a ∧ ∀ i, i < 8 → a i < 4294967296 := by
 obtain ⟨hl, g⟩ := Ajr h;have key : ∀ i, ∃ n : Nat, i < 8 → cs[i]? = some (.i .u32 n) ∧ n < 4294967296 := fun i => by
  by_cases hi : i < 8
  · obtain ⟨c, ⟨n, rfl, hw⟩, k⟩ := g i hi;have := k 0 (by simp [Sh.w]);simp only [Sh.w, Nat.mul_one, Nat.add_zero] at this;have hr := X8 hw;refine ⟨n.toNat, fun _ => ⟨?_, by omega⟩⟩;rw [this, show ((n.toNat : Nat) : Int) = n from by omega]; rfl
  · exact ⟨0, fun h => absurd h hi⟩
 obtain ⟨a, ha⟩ := Classical.axiomOfChoice key;exact ⟨a, Ae0 hl fun i hi => (ha i hi).1, fun i hi => (ha i hi).2⟩
theorem Ane {s : Sh} {cs : List PV} (h : GC (.sl s) cs) : ∃ es, cs = [.sl false s.w es] ∧ es.length ≤ maxLen ∧ ∀ c ∈ es, GC s c := by
 simp only [GC] at h; exact h
end Go.Proofs.YthleeikkpjiicaaDoor.Fw
namespace Go.Proofs.YthleeikkpjiicaaDoor.Fw
open Go.RowKit Go.Proofs
def Gj (r : Int) (q : Nat) (r' : Int) (q' : Nat) : Bool := decide (q < q' ∨ q = q' ∧ r < r')
theorem Za (r : Int) (q : Nat) (r' : Int) (q' : Nat) {h d} : FunOk Tryd.prog 69 [.vec 2 [.i .i64 r, .i .u32 q], .vec 2 [.i .i64 r', .i .u32 q']] h d (.pv (.b (Gj r q r' q'))) [] := by
 refine A7 mixed fn69 (by simp) rfl rfl fun F => ?_;by_cases h : q = q'
 · subst h;have e : Gj r q r' q = decide (r < r') := by simp [Gj]
   simp (disch := omega) only [ir69, e, go_sem]
 · have hz : ¬ (q : Int) = (q' : Int) := by omega
   have e : Gj r q r' q' = decide ((q : Int) < (q' : Int)) := by simp [Gj, h]
   simp (disch := omega) only [ir69, e, go_sem]
theorem Ur (r : Int) (q : Nat) (r' : Int) (q' : Nat) {h d} : FunOk Tryd.prog 46 [.vec 2 [.i .i64 r, .i .u32 q], .vec 2 [.i .i64 r', .i .u32 q']] h d (.pv (.b (Gj r q r' q'))) [] := by
 refine A7 mixed fn46 (by simp) rfl rfl fun F => ?_;by_cases h : q = q'
 · subst h;have e : Gj r q r' q = decide (r < r') := by simp [Gj]
   have hl : ¬ (q : Int) < (q : Int) := by omega
   simp (disch := omega) only [ir46, e, hl, go_sem]
 · have hz : ¬ (q : Int) = (q' : Int) := by omega
   have e : Gj r q r' q' = decide ((q : Int) < (q' : Int)) := by simp [Gj, h]
   by_cases hl : (q : Int) < (q' : Int)
   · simp (disch := omega) only [ir46, e, hl, go_sem]
   · simp (disch := omega) only [ir46, e, hl, go_sem]
theorem Adg {r r' : Int} {q q' : Nat} (h : ¬ (r = r' ∧ q = q')) : Xx [.i .i64 r, .i .u32 q] [.i .i64 r', .i .u32 q'] = false := by
 simp only [Xx, decide_eq_false_iff_not];intro e;simp only [List.cons.injEq, PV.i.injEq, true_and, and_true] at e;exact h ⟨e.1, by omega⟩
abbrev E2 := Int × Nat
def idE (b : E2) : List PV := [.i .i64 b.1, .i .u32 b.2]
theorem Lu {l : List SV} {cs : List PV} {n : Nat} (hc : SV.cellsL? l = some cs) (hn : cs.length = n) : Imp (.agg l) (.vec n cs) := by
 intro V ρ v h;have hp := Conc.cells h (x := .agg l) (cs := cs) hc;simp only [Conc] at h ⊢;obtain ⟨vs, rfl, _⟩ := h;exact ⟨vs, rfl, by rw [← hn]; exact hp.1.symm, hp⟩
def ImpL : List SV → List SV → Prop
 | [], [] => True
 | x :: l, y :: m => Imp x y ∧ ImpL l m
 | _, _ => False
theorem ImpL.conc {V : View} {ρ : Nat → Value} : ∀ {l m : List SV} {vs : List Value}, ImpL l m → ConcL V ρ l vs → ConcL V ρ m vs
 | [], [], vs, _, h => h
 | x :: l, y :: m, vs, h, k => by
   simp only [ConcL] at k ⊢;obtain ⟨v, us, rfl, k1, k2⟩ := k;exact ⟨v, us, rfl, h.1 _ _ _ k1, ImpL.conc h.2 k2⟩
 | [], _ :: _, _, h, _ => h.elim
 | _ :: _, [], _, h, _ => h.elim
theorem FunOk.imp {P : Program} {f : Nat} {args args' : List SV} {h d x u} (hf : FunOk P f args' h d x u) (hi : ImpL args args') (ht : ∀ n ∈ Ax args', n ∈ Ax args) : FunOk P f args h d x u :=
 ⟨hf.1, fun F N ρ s a w hR hh vs hc => hf.2 F N ρ s a w hR (fun n hn => hh n (ht n hn)) vs (hi.conc hc)⟩
abbrev V2 : Sh := .st [.int .i64, .int .u32]
theorem Vg {cs : List PV} (h : GC V2 cs) : ∃ b : E2, cs = idE b ∧ (-9223372036854775808 ≤ b.1 ∧ b.1 < 9223372036854775808) ∧ b.2 < 4294967296 := by
 simp only [GC, GCL] at h;obtain ⟨c, cs', rfl, ⟨n, rfl, hw⟩, c', cs'', rfl, ⟨m, rfl, hw'⟩, rfl⟩ := h;have hr := X8 hw';exact ⟨(n, m.toNat), by simp [idE]; omega, Ail hw, by show m.toNat < _; omega⟩
theorem Aau {α : Type} {f : α → List PV} {p : α → Prop} {s : Sh} (key : ∀ {cs}, GC s cs → ∃ x, cs = f x ∧ p x) : ∀ {es : List (List PV)}, (∀ c ∈ es, GC s c) → ∃ l : List α, es = l.map f ∧ ∀ x ∈ l, p x
 | [], _ => ⟨[], rfl, by simp⟩
 | c :: es, h => by
   obtain ⟨l, e, hp⟩ := Aau (es := es) key fun c hc => h c (List.mem_cons_of_mem _ hc);obtain ⟨x, e2, hx⟩ := key (h c List.mem_cons_self);exact ⟨x :: l, by rw [e, e2]; rfl, fun y hy => by
    rcases List.mem_cons.1 hy with hy | hy
    · rw [hy]; exact hx
    · exact hp y hy⟩
end Go.Proofs.YthleeikkpjiicaaDoor.Fw
namespace Go.Proofs.YthleeikkpjiicaaDoor.Fw
open Go.RowKit Go.Proofs
variable {P : Program} {F : Fr} {N : Nat} {ρ ρ' : Nat → Value} {s : FS} {a : Act} {w w' : World} {V V' : View}
def Aoo (x y : PV) : Prop := ∀ (V : View) (v : Value), PConc V x v → PConc V y v
def PImpL : List PV → List PV → Prop
 | [], [] => True
 | x :: l, y :: m => Aoo x y ∧ PImpL l m
 | _, _ => False
def PImpR : List (List PV) → List (List PV) → Prop
 | [], [] => True
 | x :: l, y :: m => PImpL x y ∧ PImpR l m
 | _, _ => False
theorem PImpL.len : ∀ {l m : List PV}, PImpL l m → l.length = m.length
 | [], [], _ => rfl
 | x :: l, y :: m, h => by simp [PImpL.len h.2]
 | [], _ :: _, h => h.elim
 | _ :: _, [], h => h.elim
theorem PImpR.len : ∀ {l m : List (List PV)}, PImpR l m → l.length = m.length
 | [], [], _ => rfl
 | x :: l, y :: m, h => by simp [PImpR.len h.2]
 | [], _ :: _, h => h.elim
 | _ :: _, [], h => h.elim
def ImpS : List SV → List SV → Prop
 | [], [] => True
 | x :: l, y :: m => (Imp x y ∧ x.width = y.width) ∧ ImpS l m
 | _, _ => False
theorem ImpS.cells : ∀ {l m : List SV} {vs : List Value}, ImpS l m → Cells V ρ l vs → Cells V ρ m vs
 | [], [], vs, _, h => h
 | x :: l, y :: m, vs, h, k => by
   simp only [Cells] at k ⊢;obtain ⟨u, us, rfl, k1, k2, k3, k4⟩ := k;exact ⟨u, us, rfl, h.1.1 V ρ u k1, by rw [← h.1.2]; exact k2, k3, h.2.cells k4⟩
 | [], _ :: _, _, h, _ => h.elim
 | _ :: _, [], _, h, _ => h.elim
end Go.Proofs.YthleeikkpjiicaaDoor.Fw
namespace Go.Proofs.YthleeikkpjiicaaDoor.Fw
open Go.RowKit Go.Proofs
mutual
theorem Afp {π : Nat → Nat} : ∀ {x : SV}, x.closed = true → x.rn π = x
 | .pv _, _ => rfl
 | .vec _ _, _ => rfl
 | .pi _ _ _ _, _ => rfl
 | .dead, _ => rfl
 | .agg l, h => by simp only [SV.closed] at h; simp only [SV.rn, Mp h]
 | .tup l, h => by simp only [SV.closed] at h; simp only [SV.rn, Mp h]
 | .fn f l, h => by simp only [SV.closed] at h; simp only [SV.rn, Mp h]
 | .p _ _, h => by simp [SV.closed] at h
 | .ps _ _, h => by simp [SV.closed] at h
 | .pr _ _ _ _, h => by simp [SV.closed] at h
 | .os _, h => by simp [SV.closed] at h
 | .ov _ _ _ _, h => by simp [SV.closed] at h
theorem Mp {π : Nat → Nat} : ∀ {l : List SV}, SV.closedL l = true → SV.rnL π l = l
 | [], _ => rfl
 | x :: l, h => by
   simp only [SV.closedL, Bool.and_eq_true] at h;simp only [SV.rnL, Afp h.1, Mp h.2]
end
mutual
theorem Akd : ∀ {x : SV}, x.closed = true → tn x = []
 | .pv _, _ => rfl
 | .vec _ _, _ => rfl
 | .pi _ _ _ _, _ => rfl
 | .dead, _ => rfl
 | .agg l, h => by simp only [SV.closed] at h; simp only [tn, Io h]
 | .tup l, h => by simp only [SV.closed] at h; simp only [tn, Io h]
 | .fn f l, h => by simp only [SV.closed] at h; simp only [tn, Io h]
 | .p _ _, h => by simp [SV.closed] at h
 | .ps _ _, h => by simp [SV.closed] at h
 | .pr _ _ _ _, h => by simp [SV.closed] at h
 | .os _, h => by simp [SV.closed] at h
 | .ov _ _ _ _, h => by simp [SV.closed] at h
theorem Io : ∀ {l : List SV}, SV.closedL l = true → Ax l = []
 | [], _ => rfl
 | x :: l, h => by
   simp only [SV.closedL, Bool.and_eq_true] at h;simp only [Ax, Akd h.1, Io h.2, List.append_nil]
end
theorem Afj (a m : Nat) : sw1 a m a = m := if_pos rfl
end Go.Proofs.YthleeikkpjiicaaDoor.Fw
namespace Go.Proofs.YthleeikkpjiicaaDoor.Fw
open Go.RowKit Go.Proofs Go.Shelf
def M7 : Ren where
 f := fun
  | 171 => 53
  | 243 => 65
  | 246 => 71
  | 283 => 72
  | 284 => 73
  | 285 => 74
  | 286 => 75
  | 129 => 79
  | 317 => 78
  | 318 => 80
  | 319 => 81
  | 320 => 82
  | 337 => 84
  | 338 => 85
  | n => n
 t := fun
  | 3 => 3
  | 9 => 9
  | 2 => 2
  | 4 => 4
  | 171 => 88
  | 0 => 0
  | 53 => 76
  | 37 => 91
  | 5 => 5
  | 173 => 92
  | 212 => 97
  | 51 => 23
  | 20 => 20
  | 213 => 98
  | 46 => 39
  | 232 => 102
  | 233 => 103
  | n => n
 g := fun
  | 17 => 0
  | 18 => 1
  | 19 => 2
  | n => n
theorem M8 : LaysM.n171 Tryd.prog M7 where
 mixed := by kernel_rfl
 f129 := Tryd.func79.trans (congrArg some (by kernel_rfl))
 f171 := Tryd.func53.trans (congrArg some (by kernel_rfl))
 f243 := Tryd.func65.trans (congrArg some (by kernel_rfl))
 f246 := Tryd.func71.trans (congrArg some (by kernel_rfl))
 f283 := Tryd.func72.trans (congrArg some (by kernel_rfl))
 f284 := Tryd.func73.trans (congrArg some (by kernel_rfl))
 f285 := Tryd.func74.trans (congrArg some (by kernel_rfl))
 f286 := Tryd.func75.trans (congrArg some (by kernel_rfl))
 f317 := Tryd.func78.trans (congrArg some (by kernel_rfl))
 f318 := Tryd.func80.trans (congrArg some (by kernel_rfl))
 f319 := Tryd.func81.trans (congrArg some (by kernel_rfl))
 f320 := Tryd.func82.trans (congrArg some (by kernel_rfl))
 f337 := Tryd.func84.trans (congrArg some (by kernel_rfl))
 f338 := Tryd.func85.trans (congrArg some (by kernel_rfl))
 t0 := Tryd.underlying0
 a0 := Tryd.isAgg0
 z0 := Tryd.sizeOf0
 v0 := Tryd.zeroValue0
 t2 := Tryd.underlying2
 a2 := Tryd.isAgg2
 z2 := Tryd.sizeOf2
 v2 := Tryd.zeroValue2
 t3 := Tryd.underlying3
 a3 := Tryd.isAgg3
 z3 := Tryd.sizeOf3
 v3 := Tryd.zeroValue3
 t4 := Tryd.underlying4
 a4 := Tryd.isAgg4
 z4 := Tryd.sizeOf4
 v4 := Tryd.zeroValue4
 t5 := Tryd.underlying5
 a5 := Tryd.isAgg5
 z5 := Tryd.sizeOf5
 v5 := Tryd.zeroValue5
 t9 := Tryd.underlying9
 a9 := Tryd.isAgg9
 z9 := Tryd.sizeOf9
 v9 := Tryd.zeroValue9
 t20 := Tryd.underlying20
 a20 := Tryd.isAgg20
 z20 := Tryd.sizeOf20
 v20 := Tryd.zeroValue20
 t37 := Tryd.underlying91
 a37 := Tryd.isAgg91
 z37 := Tryd.sizeOf91
 v37 := Tryd.zeroValue91
 t46 := Tryd.underlying39
 a46 := Tryd.isAgg39
 z46 := Tryd.sizeOf39
 v46 := Tryd.zeroValue39
 t51 := Tryd.underlying23
 a51 := Tryd.isAgg23
 z51 := Tryd.sizeOf23
 v51 := Tryd.zeroValue23
 t53 := Tryd.underlying76
 a53 := Tryd.isAgg76
 z53 := Tryd.sizeOf76
 v53 := Tryd.zeroValue76
 t171 := Tryd.underlying88
 a171 := Tryd.isAgg88
 z171 := Tryd.sizeOf88
 v171 := Tryd.zeroValue88
 t173 := Tryd.underlying92
 a173 := Tryd.isAgg92
 z173 := Tryd.sizeOf92
 v173 := Tryd.zeroValue92
 t212 := Tryd.underlying97
 a212 := Tryd.isAgg97
 z212 := Tryd.sizeOf97
 v212 := Tryd.zeroValue97
 t213 := Tryd.underlying98
 a213 := Tryd.isAgg98
 z213 := Tryd.sizeOf98
 t232 := Tryd.underlying102
 a232 := Tryd.isAgg102
 z232 := Tryd.sizeOf102
 v232 := Tryd.zeroValue102
 t233 := Tryd.underlying103
 a233 := Tryd.isAgg103
 z233 := Tryd.sizeOf103
 v233 := Tryd.zeroValue103
 g17 := by kernel_rfl
 g18 := by kernel_rfl
 g19 := by kernel_rfl
 i0 := by kernel_rfl
 i2 := by kernel_rfl
 i3 := by kernel_rfl
 i4 := by kernel_rfl
 i5 := by kernel_rfl
 i9 := by kernel_rfl
 i20 := by kernel_rfl
 i37 := by kernel_rfl
 i46 := by kernel_rfl
 i51 := by kernel_rfl
 i53 := by kernel_rfl
 i171 := by kernel_rfl
 i173 := by kernel_rfl
 i212 := by kernel_rfl
 i232 := by kernel_rfl
 i233 := by kernel_rfl
 m17 := by kernel_rfl
 m18 := by kernel_rfl
 m19 := by kernel_rfl
end Go.Proofs.YthleeikkpjiicaaDoor.Fw
namespace Go.Proofs.YthleeikkpjiicaaDoor.Fw
open Go.RowKit Go.Proofs
structure Ent where
 id : E2
 dir : E2
 name : List UInt8
 obj : E2
 gone : Vc
def Tf (x : Ent) : List PV := [.i .i64 x.id.1, .i .u32 x.id.2, .i .i64 x.dir.1, .i .u32 x.dir.2, .s x.name, .i .i64 x.obj.1, .i .u32 x.obj.2]
def Ai (x : Ent) : List PV := Tf x ++ vE x.gone
theorem Acj (a : Vc) : (vE a).all PV.flat = true := by simp [vE, Ij, PV.flat]
theorem Aq (x : Ent) : (Ai x).length = 15 := by simp [Ai, Tf, Jr]
theorem Tg (x : Ent) : (Ai x).all PV.flat = true := by
 unfold Ai Tf; rw [List.all_append, Acj]; rfl
theorem Kf (l : List Ent) : ∀ c ∈ l.map Ai, c.all PV.flat = true := by
 intro c hc;obtain ⟨v, _, rfl⟩ := List.mem_map.1 hc;exact Tg v
theorem Bf (x : Ent) (K : KK) : LoadK (some (Ai x)) 0 15 true K = K (.vec 15 (Ai x)) [] := by
 have e : ((Ai x).drop 0).take 15 = Ai x := List.take_of_length_le (by rw [List.drop_zero, Aq]; omega);simp only [LoadK, Om, eq_iff_iff, e, Aq];exact ⟨fun h => h.2.2, fun h => ⟨by omega, .inl trivial, h⟩⟩
theorem D8 (x : Ent) (K : KK) : LoadK (some (Ai x)) 0 2 true K = K (.vec 2 [.i .i64 x.id.1, .i .u32 x.id.2]) [] := by
 simp only [LoadK, Om, eq_iff_iff, Aq];exact ⟨fun h => h.2.2, fun h => ⟨by omega, .inl trivial, h⟩⟩
theorem Hf (x : Ent) (K : KK) : LoadK (some (Ai x)) 2 2 true K = K (.vec 2 [.i .i64 x.dir.1, .i .u32 x.dir.2]) [] := by
 simp only [LoadK, Om, eq_iff_iff, Aq];exact ⟨fun h => h.2.2, fun h => ⟨by omega, .inl trivial, h⟩⟩
theorem Bx (x : Ent) (K : KK) : LoadK (some (Ai x)) 4 1 false K = K (.pv (.s x.name)) [] := by
 simp only [LoadK, Om, eq_iff_iff, Aq];exact ⟨fun h => h.2.2, fun h => ⟨by omega, .inr trivial, h⟩⟩
theorem Z0 (x : Ent) (K : KK) : LoadK (some (Ai x)) 7 8 true K = K (.vec 8 (vE x.gone)) [] := by
 have e : ((Ai x).drop 7).take 8 = vE x.gone := by
  unfold Ai;rw [List.drop_left' (by rfl)];exact List.take_of_length_le (by rw [Jr]; omega)
 simp only [LoadK, Om, eq_iff_iff, Aq, e];exact ⟨fun h => h.2.2, fun h => ⟨by omega, .inl trivial, h⟩⟩
theorem Ad0 (x : Ent) {k : Nat} (hk : k < 8) (K : KK) : LoadK (some (Ai x)) (7 + k) 1 false K = K (.pv (.i .u32 (x.gone k))) [] := by
 have e : (Ai x).getD (7 + k) (.b false) = .i .u32 (x.gone k) := by
  unfold Ai;rw [List.getD_eq_getElem?_getD, List.getElem?_append_right (by simp [Tf])];rw [show 7 + k - (Tf x).length = k by simp [Tf]];unfold vE; rw [Nv hk]; rfl
 simp only [LoadK, Om, eq_iff_iff, Aq, e];exact ⟨fun h => h.2.2, fun h => ⟨by omega, .inr trivial, h⟩⟩
abbrev Yp : Sh := .st [V2, V2, .str, V2, .arr 8 (.int .u32)]
theorem Mv {P : Program} {F : Fr} {N : Nat} {ρ : Nat → Value} {s : FS} {a : Act} {w : World} {tS tR e : TypeId} {sz m n lo hi : Nat} {es fs : List (List PV)} (ht : P.underlying tS = some (.slice e)) (hz : Ad P e = some sz) (h1 : sz ≠ 1)
 (hR : RelR F N ρ s a w) (hm : s.h m = some (.row sz fs)) (hn : s.h n = some (.row sz es)) (hne : m ≠ n) (hfs : fs ≠ []) (hes : es ≠ []) (hlt : lo < hi) {v u : Value}
 (hv : Conc (vw F w ρ s) ρ (.os m) v) (hu : Conc (vw F w ρ s) ρ (.ov n sz lo hi) u) :
 (Extern.SlicesOverlaps.overlaps #[tS, tS] #[tR] #[v, u]).run P w = .ok (.bool false) w := by
 obtain ⟨bm, lm, cm, vm, tym, frm, a1, a2, a3, a4, a5, a6, a7, a8, a9, rfl, a11⟩ := Dc (hR.own m _ hm) (List.length_pos_iff.2 hfs);obtain ⟨bn, ln, cn, vn, tyn, frn, b1, b2, b3, b4, b5, b6, b7, b8, b9, rfl, b11⟩ := Dc (hR.own n _ hn) (List.length_pos_iff.2 hes);simp only [Conc] at hv hu;obtain ⟨base, len, cap, base', c1, c2, c3, rfl, c4⟩ := hu;rw [hv.1, a1];rw [b1] at c1; cases c1;have := c4 (.inl hlt);simp only [Option.map_some, add_plain, Nat.zero_add] at this;subst this;have hbb : bm ≠ bn := fun e => hne (hR.inj m n _ _ bm hm hn (by rw [a1]; simp [Bg, a7]) (by rw [b1]; simp [Bg, b7, e]));have hfr : frm.1 = frm.2 := by rcases a3 with h | h; exact h; exact absurd h.1 h1
 have fz : ∀ o, w.frozen? ⟨bm, o, none⟩ = false := fun o => by
  unfold World.frozen?;simp only [a2];obtain ⟨x, y⟩ := frm;simp only at hfr;simp; omega
 exact Lib.run_overlaps_apart w tS tR e ht sz (fun w => A1 hz w) ⟨bm, 0, none⟩ ⟨bn, lo * sz, none⟩ _ _ _ _ hbb tym tyn vm.length vn.length (by unfold World.shape?; rw [a2]; rfl) (by unfold World.shape?; rw [b2]; rfl)
  (by rw [b5]; exact Nat.mul_ne_zero b7 (by omega)) (fz _) (fz _)
theorem Ahn {m n lo hi : Nat} {es fs : List (List PV)} {h} (hm : h m = some (.row 15 fs)) (hn : h n = some (.row 15 es)) (hne : m ≠ n) (hfs : fs ≠ []) (hes : es ≠ []) (hlt : lo < hi) : Aca Tryd.prog 60 [.os m, .ov n 15 lo hi] h (.pv (.b false)) := by
 intro F N ρ s a w hR hh vs hc;simp only [ConcL] at hc;obtain ⟨v, us, rfl, hv, u, us', rfl, hu, rfl⟩ := hc;have hsm := (hh m (by simp [Ax, tn])).trans hm;have hsn := (hh n (by simp [Ax, tn])).trans hn;refine ⟨.bool false, ?_, Ck⟩;rw [run_callFunc_extern (fn := (Tryd.prog.funcs[60]?).getD default) (by kernel_rfl) (by kernel_rfl) (by kernel_rfl) (by kernel_rfl) (e := Extern.SlicesOverlaps.overlaps #[22, 22] #[4]) (by kernel_rfl)];rw [Mv (tS := 22) (e := 31) (by kernel_rfl) (by kernel_rfl) (by decide) hR hsm hsn hne hfs hes hlt hv hu];rfl
set_option maxHeartbeats 4000000 in
theorem Mw (es : List (List PV)) (cs : List PV) (i : Nat) (hi : i ≤ es.length) (hb : es.length ≤ 1000) (hes : ∀ c ∈ es, c.length = 15) (hcs : cs.length = 15) {h d} (h1 : h 900 = some (.row 15 es)) (h2 : h 901 = some (.row 15 [cs])) : FunOk Tryd.prog 45 [.os 900, .pv (.i .i64 i), .os 901] h d (.os d) [.del 900, .del 901, .new d (.row 15 (es.take i ++ cs :: es.drop i))] := by
 refine Aeg mixed fn45 (by simp) rfl fun F => ?_;simp only [Bc];by_cases he : i = es.length
 · subst he;have e1 : es.take es.length ++ cs :: es.drop es.length = es ++ [cs] := by simp
   rw [e1];simp (disch := omega) only [ir45, h1, h2, go_sem]
 · have hne : es ≠ [] := by intro e; subst e; simp at hi; exact he (by simpa using hi)
   simp (disch := omega) only [ir45, h1, h2, go_sem];intro c hc;by_cases hcap : c < es.length + 1
   · have hp : ((c : Int) < (es.length : Int) + ((1 : Nat) : Int)) = True := eq_true (by omega);have ek : ((es.length : Int) + ((1 : Nat) : Int) - (i : Int)).toNat = es.length + 1 - i := by omega
     (try simp only [Lc, Lb, La, K9, K8, K7, K6, K5]); simp (disch := omega) only [hp, ek, go_sem]
     generalize hT : List.take i es ++ List.replicate (es.length + 1 - i) _ = T;have hTl : T.length = es.length + 1 := by rw [← hT]; simp; omega
     have t1 : T.take i = es.take i := by
      rw [← hT, List.take_append_of_le_length (by simp; omega), List.take_take, Nat.min_self]
     have hi' : (es.take i).length = i := by simp; omega
     have m1 : min 1 (es.length + 1 - i) = 1 := by omega
     have m2 : [cs].take (es.length + 1 - i) = [cs] := List.take_of_length_le (by simp; omega);have hU : (es.take i ++ [cs] ++ T.drop (i + 1)).length = es.length + 1 := by simp [hTl]; omega
     have e1 : ((i : Int) + ((1 : Nat) : Int)).toNat = i + 1 := by omega
     have u1 : (es.take i ++ [cs] ++ T.drop (i + 1)).take (i + 1) = es.take i ++ [cs] := by
      rw [List.take_append_of_le_length (by simp; omega)];exact List.take_of_length_le (by simp; omega)
     have u2 : (es.take es.length).drop i = es.drop i := by rw [List.take_length]
     have u3 : min (es.drop i).length (es.length + 1 - (i + 1)) = es.length - i := by simp
     have u4 : (es.drop i).take (es.length + 1 - (i + 1)) = es.drop i := List.take_of_length_le (by simp);have u5 : (es.take i ++ [cs] ++ T.drop (i + 1)).drop (i + 1 + (es.length - i)) = [] := List.drop_of_length_le (by rw [hU]; omega);have u6 : es.take i ++ cs :: es.drop i = es.take i ++ [cs] ++ es.drop i := by simp
     simp only [hTl, t1, m1, m2, e1, List.length_singleton];simp only [hU, u1, u2, u3, u4, u5, u6, List.append_nil];exact ⟨by omega, by omega, trivial⟩
   · have hp : ((c : Int) < (es.length : Int) + ((1 : Nat) : Int)) = False := eq_false (by omega)
     (try simp only [Lc, Lb, La, K9, K8, K7, K6, K5]); simp (disch := omega) only [hp, go_sem]
     intro g hg hgs;have hg1 : g.length = 1 := by omega
     have e1 : ((i : Int) + ((1 : Nat) : Int)).toNat = i + 1 := by omega
     have hE : (es ++ g).length = es.length + 1 := by simp [hg1]
     refine ⟨by omega, ?_⟩;rw [e1];refine Abb (Ahn (es := es ++ g) (fs := [cs]) rfl rfl (by decide) (by simp) (by simp [hne]) (by omega)) ?_;have v1 : ((es ++ g).take (es ++ g).length).drop i = (es ++ g).drop i := by rw [List.take_length]
     have v2 : min ((es ++ g).drop i).length ((es ++ g).length - (i + 1)) = es.length - i := by simp [hg1]; omega
     have v3 : ((es ++ g).drop i).take ((es ++ g).length - (i + 1)) = es.drop i := by
      rw [hE, List.drop_append_of_le_length hi, show es.length + 1 - (i + 1) = (es.drop i).length from by simp];exact List.take_left
     have v4 : (es ++ g).drop (i + 1 + (es.length - i)) = [] := List.drop_of_length_le (by omega);have v5 : ((es ++ g).take (i + 1) ++ es.drop i).length = es.length + 1 := by simp [hg1]; omega
     have v6 : ((es ++ g).take (i + 1) ++ es.drop i).take i = es.take i := by
      rw [List.take_append_of_le_length (by simp; omega), List.take_take, Nat.min_eq_left (by omega), List.take_append_of_le_length hi]
     have v7 : ((es ++ g).take (i + 1) ++ es.drop i).drop (i + 1) = es.drop i := by
      rw [List.drop_append_of_le_length (by simp; omega), List.drop_of_length_le (by simp; omega), List.nil_append]
     have m1 : min 1 (es.length + 1 - i) = 1 := by omega
     have m2 : [cs].take (es.length + 1 - i) = [cs] := List.take_of_length_le (by simp; omega);have u6 : es.take i ++ cs :: es.drop i = es.take i ++ [cs] ++ es.drop i := by simp
     simp (disch := omega) only [e1, v1, v2, v3, v4, v5, v6, v7, m1, m2, u6, go_sem]
theorem Aho {m n : Nat} (es : List (List PV)) (cs : List PV) (i : Nat) (hi : i ≤ es.length) (hb : es.length ≤ 1000) (hes : ∀ c ∈ es, c.length = 15) (hcs : cs.length = 15) (hmn : m ≠ n) (hm : m < 900) (hn : n < 900) {h d} (hd : d ≠ m ∧ d ≠ n ∧ d < 900) (h1 : h m = some (.row 15 es)) (h2 : h n = some (.row 15 [cs])) : FunOk Tryd.prog 45 [.os m, .pv (.i .i64 i), .os n] h d (.os d) [.del m, .del n, .new d (.row 15 (es.take i ++ cs :: es.drop i))] := by
 have hπ := Acx (a := 900) (m := m) (b := 901) (n := n) (by omega) (by omega) (by omega) hmn;have e1 : Yf 900 m 901 n 900 = m := by unfold Yf; simp
 have e2 : Yf 900 m 901 n 901 = n := by unfold Yf; repeat' split <;> (try omega)
 have e3 : Yf 900 m 901 n d = d := by unfold Yf; repeat' split <;> (try omega)
 have := (Mw es cs i hi hb hes hcs (h := fun k => (h (Yf 900 m 901 n k))) (d := d) (by rw [← h1, e1]) (by rw [← h2, e2])).rn (π := Yf 900 m 901 n) hπ (d' := d);simp only [SV.rnL, SV.rn, HU.rn, Blk.rn, List.map_cons, List.map_nil, e1, e2, e3] at this;refine this.at fun k hk => ?_;simp only [Ax, tn, List.append_nil, List.nil_append, List.mem_append, List.mem_singleton] at hk;simp only [hπ];rcases hk with rfl | rfl
 · rw [h1]; rfl
 · rw [h2]; rfl
theorem Rd {x : SV} {f : Bool} {z : Nat} {es : List (List PV)} {h d} (hx : Br h [x] = [.pv (.sl f z es)]) (hl : A4 [x] = true) (hz : es = [] ∨ z = 15) (hb : es.length ≤ 1000) (hs : ∀ c ∈ es, c.all PV.flat = true) :
 FunOk Tryd.prog 42 [x] h d (.os d) [.new d (.row 15 es)] := by
 refine Aag mixed fn42 (by simp) hl (.inr hs) fun F => ?_;rw [hx];simp (disch := omega) only [ir42, go_sem];intro b hb';cases b
 · simp (disch := omega) only [go_sem]
 · have he : es = [] := by
    cases es with
    | nil => rfl
    | cons c l => exact absurd (hb' (by simp)) (by simp)
   subst he
   (try simp only [Lc, Lb, La, K9, K8, K7, K6, K5]); simp (disch := omega) only [go_sem]
   first | exact ⟨_, rfl⟩ | decide
abbrev El (a b : E2) : Bool := Gj a.1 a.2 b.1 b.2
theorem I8 {a b : E2} : El a b = true ↔ a.2 < b.2 ∨ a.2 = b.2 ∧ a.1 < b.1 := by simp [El, Gj]
theorem Fh {a b c : E2} (h : El a b = true) (k : El b c = true) : El a c = true := by rw [I8] at *; omega
theorem Dx {a : E2} : ¬ El a a = true := by rw [I8]; omega
theorem Aif {a b : E2} (h : El a b = true) : ¬ El b a = true := by rw [I8] at *; omega
theorem P6 {a b : E2} (h : ¬ El a b = true) (k : a ≠ b) : El b a = true := by
 rw [I8] at *;by_cases e : a.2 = b.2
 · have : a.1 ≠ b.1 := fun e1 => k (Prod.ext e1 e);omega
 · omega
def Eb (l : List Ent) : Prop := l.Pairwise fun a b => El a.id b.id = true
def Rk : List Ent → E2 → Option Ent
 | [], _ => none
 | x :: l, i => if x.id = i then some x else Rk l i
theorem Wg {l : List Ent} {i : E2} : Rk l i = none ↔ ∀ x ∈ l, x.id ≠ i := by
 induction l with
 | nil => simp [Rk]
 | cons y l ih =>
   simp only [Rk];by_cases h : y.id = i
   · rw [if_pos h];exact ⟨fun e => (nomatch e), fun e => absurd h (e y List.mem_cons_self)⟩
   · rw [if_neg h, ih];simp only [List.mem_cons, forall_eq_or_imp];exact ⟨fun e => ⟨h, e⟩, fun e => e.2⟩
def Hp (l : List Ent) (i : E2) : Nat := l.findIdx fun x => !El x.id i
theorem Um (l : List Ent) (i : E2) : Hp l i ≤ l.length := List.findIdx_le_length
theorem Og (x : Ent) (l : List Ent) (i : E2) : Hp (x :: l) i = if El x.id i = true then Hp l i + 1 else 0 := by
 unfold Hp;rw [List.findIdx_cons];cases El x.id i <;> simp
theorem Ahh {l : List Ent} {i : E2} {k : Nat} (hk : k < Hp l i) : ∃ x, l[k]? = some x ∧ El x.id i = true := by
 have hl : k < l.length := Nat.lt_of_lt_of_le hk (Um l i);refine ⟨l[k], by simp [hl], ?_⟩;have := List.not_of_lt_findIdx hk;simpa using this
theorem Ade {l : List Ent} {i : E2} {k : Nat} (hk : k ≤ l.length) (h1 : ∀ j x, j < k → l[j]? = some x → El x.id i = true) (h2 : ∀ x, l[k]? = some x → ¬ El x.id i = true) : Hp l i = k := by
 rcases Nat.lt_trichotomy (Hp l i) k with h | h | h
 · have hl : Hp l i < l.length := by omega
   have h0 : (!El (l[Hp l i]'hl).id i) = true := List.findIdx_getElem (p := fun x : Ent => !El x.id i) (w := hl);have := h1 _ _ h (List.getElem?_eq_getElem hl);rw [this] at h0; simp at h0
 · exact h
 · obtain ⟨x, e1, e2⟩ := Ahh h;exact absurd e2 (h2 x e1)
def Wo (l : List Ent) (i : E2) : Bool := (Rk l i).isSome
theorem Rj {l : List Ent} (hs : Eb l) (i : E2) : Rk l i = match l[Hp l i]? with | some x => if x.id = i then some x else none | none => none := by
 induction l with
 | nil => simp [Rk]
 | cons y l ih =>
   obtain ⟨h1, h2⟩ := List.pairwise_cons.1 hs;rw [Og];simp only [Rk];by_cases e : y.id = i
   · have : ¬ El y.id i = true := by rw [e]; exact Dx
     rw [if_neg this, if_pos e];simp [e]
   · rw [if_neg e];by_cases hl : El y.id i = true
     · rw [if_pos hl, List.getElem?_cons_succ]; exact ih h2
     · rw [if_neg hl, List.getElem?_cons_zero];simp only [e, if_false];exact Wg.2 fun z hz ez => Dx (by have := Fh (P6 hl e) (h1 z hz); rwa [ez] at this)
theorem Q0 {l : List Ent} (hs : Eb l) {j m : Nat} {x v : Ent} (hj : l[j]? = some x) (hm : l[m]? = some v) (h : j < m) : El x.id v.id = true := by
 obtain ⟨h1, rfl⟩ := List.getElem?_eq_some_iff.1 hj;obtain ⟨h2, rfl⟩ := List.getElem?_eq_some_iff.1 hm;exact List.pairwise_iff_getElem.1 hs j m h1 h2 h
def Ws (l : List Ent) (x : Ent) : List Ent := l.take (Hp l x.id) ++ x :: l.drop (Hp l x.id)
theorem Wr (y : Ent) (l : List Ent) (x : Ent) : Ws (y :: l) x = if El y.id x.id = true then y :: Ws l x else x :: y :: l := by
 unfold Ws;rw [Og];split <;> simp
def T7 (l : List Ent) (x : Ent) : List Ent := if Wo l x.id = true then l else Ws l x
def Ib (a b : E2) : Int := if El a b = true then -1 else if El b a = true then 1 else 0
theorem Ahs (a b : E2) {h d} : FunOk Tryd.prog 59 [.vec 2 [.i .i64 a.1, .i .u32 a.2], .vec 2 [.i .i64 b.1, .i .u32 b.2]] h d (.pv (.i .i64 (Ib a b))) [] := by
 refine A7 mixed fn59 (by simp) rfl rfl fun F => ?_;simp (disch := omega) only [ir59, go_sem];refine Ab (Za _ _ _ _) ?_;by_cases h1 : Gj a.1 a.2 b.1 b.2 = true
 · have e : Ib a b = -1 := if_pos h1;simp (disch := omega) only [h1, e, go_sem]
 · have h1' : Gj a.1 a.2 b.1 b.2 = false := by simpa using h1
   simp (disch := omega) only [h1', go_sem];refine Ab (Za _ _ _ _) ?_;by_cases h2 : Gj b.1 b.2 a.1 a.2 = true
   · have e : Ib a b = 1 := by unfold Ib; rw [if_neg h1, if_pos h2]
     simp (disch := omega) only [h2, e, go_sem]
   · have h2' : Gj b.1 b.2 a.1 a.2 = false := by simpa using h2
     have e : Ib a b = 0 := by unfold Ib; rw [if_neg h1, if_neg h2]
     simp (disch := omega) only [h2', e, go_sem]
theorem Aft (x : Ent) (b : E2) {h d} : FunOk Tryd.prog 58 [.vec 15 (Ai x), .vec 2 [.i .i64 b.1, .i .u32 b.2]] h d (.pv (.i .i64 (Ib x.id b))) [] := by
 refine A7 mixed fn58 (by simp) rfl rfl fun F => ?_;simp (disch := omega) only [ir58, D8, go_sem];refine Ab (Ahs _ _) ?_;simp (disch := omega) only [go_sem]
theorem Va {a b : E2} : (Ib a b < 0) = (El a b = true) := by
 unfold Ib;by_cases h : El a b = true
 · rw [if_pos h]; simp [h]
 · rw [if_neg h]; split <;> simp [h]
theorem Vb {a b : E2} : (Ib a b = 0) = (a = b) := by
 unfold Ib;by_cases h : El a b = true
 · rw [if_pos h];refine propext ⟨fun e => by omega, fun e => ?_⟩;subst e; exact absurd h Dx
 · rw [if_neg h];by_cases k : El b a = true
   · rw [if_pos k];refine propext ⟨fun e => by omega, fun e => ?_⟩;subst e; exact absurd k Dx
   · rw [if_neg k];refine propext ⟨fun _ => ?_, fun _ => rfl⟩;exact Classical.byContradiction fun e => k (P6 h e)
def Ug (f : Bool) (l : List Ent) (i : E2) (p : Nat × Nat) : FS := mk [(9, .pv (.i .i64 p.1)), (10, .pv (.i .i64 p.2)), (8, .pv (.i .i64 l.length)), (0, .pv (.sl f 15 (l.map Ai))), (2, .fn (.func 58) []), (4, .p 4 0)] [(4, some (.var (.vec 2 [.i .i64 i.1, .i .u32 i.2])))]
set_option maxHeartbeats 1000000 in
theorem Aku {x : SV} {f : Bool} {l : List Ent} (i : E2) {h d} (hx : Br h [x, .vec 2 [.i .i64 i.1, .i .u32 i.2], .fn (.func 58) []] = [.pv (.sl f 15 (l.map Ai)), .vec 2 [.i .i64 i.1, .i .u32 i.2], .fn (.func 58) []]) (hl : A4 [x, .vec 2 [.i .i64 i.1, .i .u32 i.2], .fn (.func 58) []] = true) (hs : Eb l) (hn : l.length ≤ 1000) :
 FunOk Tryd.prog 57 [x, .vec 2 [.i .i64 i.1, .i .u32 i.2], .fn (.func 58) []] h d (.tup [.pv (.i .i64 (Hp l i)), .pv (.b (Wo l i))]) [] := by
 refine Cu mixed fn57 (by simp) hl rfl fun F => ?_;rw [hx];simp (disch := omega) only [ir57, List.length_map, go_sem];refine Aw mixed (Ug f l i) (fun p => p.1 ≤ p.2 ∧ p.2 ≤ l.length ∧ (∀ j x, j < p.1 → l[j]? = some x → El x.id i = true) ∧ ∀ j x, p.2 ≤ j → l[j]? = some x → ¬ El x.id i = true) (fun p => p.2 - p.1) (0, l.length) ⟨by simp, by simp, by simp, fun j x hj hx => by simp only at hj; rw [List.getElem?_eq_none hj] at hx; cases hx⟩ (Ar ?_ ?_) fun p hp => ?_
 · (try simp only [Lc, Lb, La, K9, K8, K7, K6, K5]); simp (disch := omega) only [go_sem]
 · simp (disch := omega) only [go_sem]
 obtain ⟨a, b⟩ := p;obtain ⟨p1, p2, p3, p4⟩ := hp;simp only at p1 p2 p3 p4;by_cases hlt : a < b
 · have hm : (a + b) / 2 < l.length := by omega
   have hx : l[(a + b) / 2]? = some l[(a + b) / 2] := List.getElem?_eq_getElem hm;have he : (l.map Ai)[(a + b) / 2]? = some (Ai l[(a + b) / 2]) := by rw [List.getElem?_map, hx]; rfl
   have e1 : ((a : Int) + (b : Int)).fdiv (2 ^ min (Int.toNat 1) 64) = (((a + b) / 2 : Nat) : Int) := by
    rw [show (2 : Int) ^ min (Int.toNat 1) 64 = 2 from rfl, Int.fdiv_eq_ediv_of_nonneg _ (by omega)]; omega
   have hm1 : a ≤ (a + b) / 2 := by omega
   have hm2 : (a + b) / 2 < b := by omega
   generalize l[(a + b) / 2] = v at *;generalize (a + b) / 2 = m at *;simp (disch := omega) only [Ug, List.length_map, e1, he, Bf, go_sem];refine Ab (Aft v i) ?_;by_cases hc : El v.id i = true
   · have e2 : (Ib v.id i < 0) = True := by rw [Va]; exact eq_true hc
     simp (disch := omega) only [e2, go_sem];refine Al (x := (a, b)) (m + 1, b) _ _ rfl ⟨by show m + 1 ≤ b; omega, p2, fun j x hj hx' => ?_, p4⟩ (by show b - (m + 1) < b - a; omega) ?_ ?_
     · by_cases e : j = m
       · subst e; rw [hx] at hx'; cases hx'; exact hc
       · exact Fh (Q0 hs hx' hx (by simp only at hj; omega)) hc
     · (try simp only [Lc, Lb, La, K9, K8, K7, K6, K5]); simp (disch := omega) only [go_sem]
     · simp (disch := omega) only [go_sem]
   · have e2 : (Ib v.id i < 0) = False := by rw [Va]; exact eq_false hc
     simp (disch := omega) only [e2, go_sem];refine Al (x := (a, b)) (a, m) _ _ rfl ⟨by show a ≤ m; omega, by show m ≤ _; omega, p3, fun j x hj hx' => ?_⟩ (by show m - a < b - a; omega) ?_ ?_
     · by_cases e : j = m
       · subst e; rw [hx] at hx'; cases hx'; exact hc
       · exact fun q => hc (Fh (Q0 hs hx hx' (by simp only at hj; omega)) q)
     · (try simp only [Lc, Lb, La, K9, K8, K7, K6, K5]); simp (disch := omega) only [go_sem]
     · simp (disch := omega) only [go_sem]
 · obtain rfl : a = b := by omega
   have hpos : Hp l i = a := Ade p2 p3 fun x hx' => p4 a x (Nat.le_refl a) hx';by_cases hal : a < l.length
   · have hx' : l[a]? = some l[a] := List.getElem?_eq_getElem hal;have he : (l.map Ai)[a]? = some (Ai l[a]) := by rw [List.getElem?_map, hx']; rfl
     have hk := Rj hs i;rw [hpos, hx'] at hk;generalize l[a] = v at *;simp (disch := omega) only [Ug, hal, he, Bf, List.length_map, go_sem];refine Ab (Aft v i) ?_;by_cases hv : v.id = i
     · have e2 : (Ib v.id i = 0) = True := by rw [Vb]; exact eq_true hv
       have e3 : Wo l i = true := by unfold Wo; rw [hk]; simp [hv]
       simp (disch := omega) only [e2, e3, hpos, go_sem]
     · have e2 : (Ib v.id i = 0) = False := by rw [Vb]; exact eq_false hv
       have e3 : Wo l i = false := by unfold Wo; rw [hk]; simp [hv]
       simp (disch := omega) only [e2, e3, hpos, go_sem]
   · have hk := Rj hs i;rw [hpos, List.getElem?_eq_none (by omega)] at hk;have e3 : Wo l i = false := by unfold Wo; rw [hk]; rfl
     simp (disch := omega) only [Ug, hal, hpos, e3, go_sem]
theorem Akv {x : SV} {f : Bool} {l : List Ent} (i : E2) {h d} (hx : Br h [x, .vec 2 [.i .i64 i.1, .i .u32 i.2]] = [.pv (.sl f 15 (l.map Ai)), .vec 2 [.i .i64 i.1, .i .u32 i.2]]) (hl : A4 [x, .vec 2 [.i .i64 i.1, .i .u32 i.2]] = true) (hs : Eb l) (hn : l.length ≤ 1000) :
 FunOk Tryd.prog 43 [x, .vec 2 [.i .i64 i.1, .i .u32 i.2]] h d (.tup [.pv (.i .i64 (Hp l i)), .pv (.b (Wo l i))]) [] := by
 refine Cu mixed fn43 (by simp) hl rfl fun F => ?_;rw [hx];simp (disch := omega) only [ir43, go_sem];refine Ab (Aku (l := l) i rfl rfl hs hn) ?_;simp (disch := omega) only [go_sem]
theorem Re (x : Ent) {h d} : FunOk Tryd.prog 28 [.vec 15 (Ai x)] h d (.pv (.b (decide (Sn x.gone fun _ => 0)))) [] := by
 refine A7 mixed fn28 (by simp) rfl rfl fun F => ?_;simp (disch := omega) only [ir28, Z0, go_sem]
theorem Zd {a : SV} {f : Bool} {l : List Ent} (x : Ent) {h d} (hx : Br h [a, .vec 15 (Ai x)] = [.pv (.sl f 15 (l.map Ai)), .vec 15 (Ai x)]) (hl : A4 [a, .vec 15 (Ai x)] = true) (hs : Eb l) (hn : l.length ≤ 1000) :
 FunOk Tryd.prog 23 [a, .vec 15 (Ai x)] h d (.os d) [.new d (.row 15 ((T7 l x).map Ai))] := by
 refine P8 mixed fn23 (by simp) hl (.inr (Kf _)) fun F => ?_;rw [hx];simp (disch := omega) only [ir23, D8, go_sem];refine Ab (Akv (l := l) x.id rfl rfl hs hn) ?_;have hfl := Kf l;by_cases hi : Wo l x.id = true
 · have e : T7 l x = l := by unfold T7; rw [if_pos hi]
   simp (disch := omega) only [hi, e, go_sem];refine Ab (Rd (es := l.map Ai) rfl rfl (.inr rfl) (by simp; omega) hfl) ?_;simp (disch := omega) only [go_sem]
 · have hi' : Wo l x.id = false := by simpa using hi
   have e : T7 l x = Ws l x := by unfold T7; rw [if_neg hi]
   have hc := Aq x;simp (disch := omega) only [hi', e, go_sem];refine Ab (Rd (es := l.map Ai) rfl rfl (.inr rfl) (by simp; omega) hfl) ?_;simp (disch := omega) only [hc, Bf, go_sem];have hp := Um l x.id;refine Ab (Aho (l.map Ai) (Ai x) (Hp l x.id) (by simp; omega) (by simp; omega) (fun c hc => by obtain ⟨y, _, rfl⟩ := List.mem_map.1 hc; exact Aq y) hc (by decide) (by decide) (by decide) (by decide) rfl rfl) ?_;simp (disch := omega) only [go_sem];simp [Ws, List.map_take, List.map_drop]
theorem Lw (a : E2) : Ci [K1.int .i64, K1.int .u32] [.i .i64 a.1, .i .u32 a.2] = True := eq_true rfl
theorem Y5 {a b : E2} (h : a = b) : Xx [.i .i64 a.1, .i .u32 a.2] [.i .i64 b.1, .i .u32 b.2] = true := by subst h; simp [Xx]
theorem Y6 {a b : E2} (h : a ≠ b) : Xx [.i .i64 a.1, .i .u32 a.2] [.i .i64 b.1, .i .u32 b.2] = false := Adg fun e => h (Prod.ext e.1 e.2)
def It (x : Ent) (k : Nat) : FS := mk [(3, .pv (.i .i64 k)), (1, .p 1 0)] [(1, some (.var (.vec 15 (Ai x))))]
theorem V9 (x : Ent) {h d} : FunOk Tryd.prog 12 [.vec 15 (Ai x)] h d (.pv (.b (decide (Sn x.gone fun _ => 0)))) [] := by
 refine A7 mixed fn12 (by simp) rfl rfl fun F => ?_;simp (disch := omega) only [ir12, go_sem];refine Aw mixed (It x) (fun k => k ≤ 8 ∧ ∀ i, i < k → x.gone i = 0) (fun k => 8 - k) 0 (by simp) (Ar ?_ ?_) fun k hk => ?_
 · simp (disch := omega) only [go_sem]
 · simp (disch := omega) only [go_sem]
 obtain ⟨hk1, hk2⟩ := hk;by_cases hlt : k < 8
 · have hl := Ad0 x hlt;by_cases hc : x.gone k = 0
   · rw [hc] at hl;simp (disch := omega) only [It, hl, go_sem];refine Al (k + 1) _ _ rfl ⟨by omega, fun i hi => ?_⟩ (by omega) ?_ ?_
     · rcases Nat.lt_succ_iff_lt_or_eq.1 hi with h | rfl
       · exact hk2 i h
       · exact hc
     · simp (disch := omega) only [go_sem]
     · simp (disch := omega) only [go_sem]
   · have hz : ¬ (x.gone k : Int) = 0 := by omega
     have he : ¬ Sn x.gone fun _ => 0 := fun h => hc (h k hlt);simp (disch := omega) only [It, hl, hz, he, go_sem]
 · have he : Sn x.gone fun _ => 0 := fun i hi => hk2 i (by omega);simp (disch := omega) only [It, he, go_sem]
end Go.Proofs.YthleeikkpjiicaaDoor.Fw
namespace Go.Proofs.YthleeikkpjiicaaDoor.Fw
open Go.RowKit Go.Proofs
def Pb (l : List Ent) : Prop := ∀ i, (h : i + 1 < l.length) → El l[i].id l[i + 1].id = true
open Classical in
noncomputable def Nf (l : List Ent) : Bool := decide (Pb l)
theorem Rz {l : List Ent} (h : Pb l) : Nf l = true := by simp [Nf, h]
theorem R0 {l : List Ent} (h : ¬ Pb l) : Nf l = false := by simp [Nf, h]
theorem Nd : ∀ {l : List Ent}, Pb l → Eb l
 | [], _ => List.Pairwise.nil
 | [v], _ => List.pairwise_singleton _ _
 | v :: u :: l, h => by
   have h1 : El v.id u.id = true := h 0 (by simp);have h2 := Nd (l := u :: l) fun i hi => h (i + 1) (by simpa using hi);refine List.Pairwise.cons (fun w hw => ?_) h2;rcases List.mem_cons.1 hw with rfl | hw
   · exact h1
   · exact Fh h1 (List.rel_of_pairwise_cons h2 hw)
def Ln (f : Bool) (l : List Ent) (j : Nat) : FS := mk [(3, .pv (.i .i64 ((j + 1 : Nat) : Int))), (0, .pv (.sl f 15 (l.map Ai)))] []
theorem Ado {x : SV} {f : Bool} {l : List Ent} {h d} (hx : Br h [x] = [.pv (.sl f 15 (l.map Ai))]) (hl : A4 [x] = true) (hn : l.length ≤ 1000) :
 FunOk Tryd.prog 22 [x] h d (.pv (.b (Nf l))) [] := by
 refine Cu mixed fn22 (by simp) hl rfl fun F => ?_;rw [hx];simp (disch := omega) only [ir22, List.length_map, go_sem];refine Aw mixed (Ln f l) (fun k => ∀ i, (hi : i + 1 < l.length) → i < k → El l[i].id l[i + 1].id = true) (fun k => l.length - k) 0 (by simp) (Ar ?_ ?_) fun k hk => ?_
 · simp (disch := omega) only [go_sem]
 · simp (disch := omega) only [go_sem]
 by_cases hlt : k + 1 < l.length
 · have he : (l.map Ai)[k]? = some (Ai l[k]) := by simp [show k < l.length by omega]
   have he' : (l.map Ai)[k + 1]? = some (Ai l[k + 1]) := by simp [hlt]
   have ek : (((k + 1 : Nat) : Int) - 1).toNat = k := by omega
   by_cases hd : El l[k].id l[k + 1].id = true
   · have hd' : Gj l[k].id.1 l[k].id.2 l[k + 1].id.1 l[k + 1].id.2 = true := hd;simp (disch := omega) only [Ln, List.length_map, he, he', ek, D8, go_sem];refine Ab (Ur _ _ _ _) ?_;simp (disch := omega) only [hd', go_sem];refine Al (k + 1) _ _ rfl (fun i hi hik => ?_) (by omega) ?_ ?_
     · by_cases e : i = k
       · subst e; exact hd
       · exact hk i hi (by omega)
     · simp (disch := omega) only [go_sem]
     · simp (disch := omega) only [go_sem]
   · have hf := R0 (l := l) fun h => hd (h k hlt);have hd' : Gj l[k].id.1 l[k].id.2 l[k + 1].id.1 l[k + 1].id.2 = false := by simpa using hd
     simp (disch := omega) only [Ln, List.length_map, he, he', ek, D8, go_sem];refine Ab (Ur _ _ _ _) ?_;simp (disch := omega) only [hd', hf, go_sem]
 · have hf := Rz (l := l) fun i hi => hk i hi (by omega);simp (disch := omega) only [Ln, List.length_map, hf, go_sem]
def Vh (l : List Ent) : Prop := l.length ≤ 40 ∧ Pb l ∧ ∀ x ∈ l, x.name.length ≤ 40
open Classical in
noncomputable def Nc (l : List Ent) : Bool := decide (Vh l)
theorem Ry {l : List Ent} (h : Vh l) : Nc l = true := by simp [Nc, h]
theorem Je {l : List Ent} (h : ¬ Vh l) : Nc l = false := by simp [Nc, h]
def Lm (f : Bool) (l : List Ent) (k : Nat) : FS := mk [(15, .pv (.i .i64 k)), (14, .pv (.i .i64 l.length)), (13, .pv (.sl f 15 (l.map Ai))), (0, .pv (.sl f 15 (l.map Ai)))] []
set_option maxHeartbeats 1000000 in
theorem Adn {x : SV} {f : Bool} {l : List Ent} {h d} (hx : Br h [x] = [.pv (.sl f 15 (l.map Ai))]) (hl : A4 [x] = true) :
 FunOk Tryd.prog 11 [x] h d (.pv (.b (Nc l))) [] := by
 refine Cu mixed fn11 (by simp) hl rfl fun F => ?_;rw [hx];by_cases h40 : 40 < (l.length : Int)
 · have hf := Je (l := l) fun h => by have := h.1; omega
   simp (disch := omega) only [ir11, List.length_map, hf, go_sem]
 simp (disch := omega) only [ir11, List.length_map, go_sem];refine Ab (Ado (l := l) rfl rfl (by omega)) ?_;by_cases hF : Pb l
 · have e := Rz hF;simp (disch := omega) only [e, go_sem];refine Aw mixed (Lm f l) (fun k => k ≤ l.length ∧ ∀ v ∈ l.take k, v.name.length ≤ 40) (fun k => l.length - k) 0 (by simp) (Ar ?_ ?_) fun k hk => ?_
   · simp (disch := omega) only [List.length_map, go_sem]
   · simp (disch := omega) only [go_sem]
   obtain ⟨hk1, hk2⟩ := hk;by_cases hlt : k < l.length
   · have he : (l.map Ai)[k]? = some (Ai l[k]) := by simp [hlt]
     have ht : l.take (k + 1) = l.take k ++ [l[k]] := by rw [List.take_add_one, List.getElem?_eq_getElem hlt]; rfl
     have hm : l[k] ∈ l := List.getElem_mem hlt;generalize l[k] = v at *;have hv := Aq v;by_cases hd : 40 < (v.name.length : Int)
     · have hf := Je (l := l) fun h => by have := h.2.2 v hm; omega
       simp (disch := omega) only [Lm, List.length_map, he, Bf, hv, Bx, hf, go_sem]
     · simp (disch := omega) only [Lm, List.length_map, he, Bf, hv, Bx, go_sem];refine Al (k + 1) _ _ rfl ⟨by omega, fun u hu => ?_⟩ (by omega) ?_ ?_
       · rw [ht] at hu;rcases List.mem_append.1 hu with hu | hu
         · exact hk2 u hu
         · simp at hu; subst hu; omega
       · simp (disch := omega) only [List.length_map, go_sem]
       · simp (disch := omega) only [go_sem]
   · obtain rfl : k = l.length := by omega
     rw [List.take_length] at hk2;have hf := Ry (l := l) ⟨by omega, hF, hk2⟩;simp (disch := omega) only [Lm, List.length_map, hf, go_sem]
 · have e := R0 hF;have hf := Je (l := l) fun h => hF h.2.1;simp (disch := omega) only [e, hf, go_sem]
theorem FunOk.same {P : Program} {f : Nat} {args : List SV} {h : Nat → Option Blk} {d : Nat} {x : SV} {n : Nat} {b : Blk} (hf : FunOk P f args h d x []) (hn : h n = some b) (hm : n ∈ Ax args) : FunOk P f args h d x [.upd n b] :=
 ⟨hf.1, fun F N ρ s a w hR hh vs hc => by
  have e : s.hup [.upd n b] = s := by
   refine FS.ext' (fun k => rfl) (fun k => ?_);show (if k = n then some b else s.h k) = s.h k;split
   · rename_i e; subst e; rw [hh k hm, hn]
   · rfl
  rw [e];exact hf.2 F N ρ s a w hR hh vs hc⟩
theorem Afr (s : List UInt8) {h d} : FunOk Tryd.prog 56 [.pv (.s s)] h d (.pv (.b false)) [] := by
 refine A7 mixed fn56 (by simp) rfl rfl fun F => ?_;simp (disch := omega) only [ir56, go_sem]
def Ee (a b : List UInt8) : Int := if Op.bytesLess a b = true then -1 else if a = b then 0 else 1
theorem Ahr (a b : List UInt8) {h d} : FunOk Tryd.prog 39 [.pv (.s a), .pv (.s b)] h d (.pv (.i .i64 (Ee a b))) [] := by
 refine A7 mixed fn39 (by simp) rfl rfl fun F => ?_;simp (disch := omega) only [ir39, go_sem];refine Ab (Afr _) ?_;simp (disch := omega) only [go_sem];refine Ab (Afr _) ?_;by_cases h1 : Op.bytesLess a b = true
 · have e : Ee a b = -1 := by unfold Ee; rw [if_pos h1]
   simp (disch := omega) only [h1, e, go_sem]
 · have h1' : Op.bytesLess a b = false := by simpa using h1
   by_cases h2 : a = b
   · subst h2;have e : Ee a a = 0 := by unfold Ee; rw [if_neg h1, if_pos rfl]
     have ed : decide (a = a) = true := by simp
     simp (disch := omega) only [h1', ed, e, go_sem]
   · have e : Ee a b = 1 := by unfold Ee; rw [if_neg h1, if_neg h2]
     simp (disch := omega) only [h1', h2, e, go_sem]
theorem Mx (x y : Ent) {h d} : FunOk Tryd.prog 38 [.vec 15 (Ai x), .vec 15 (Ai y)] h d (.pv (.i .i64 (Ee x.name y.name))) [] := by
 refine A7 mixed fn38 (by simp) rfl rfl fun F => ?_;simp (disch := omega) only [ir38, Bx, go_sem];refine Ab (Ahr _ _) ?_;simp (disch := omega) only [go_sem]
def fIn : SV := .fn (.func 38) []
theorem Oa (l : List UInt8) : Op.bytesLess l l = false := by
 induction l with
 | nil => rfl
 | cons c l ih => simp [Op.bytesLess, ih]
def So (x y : Ent) (k : Nat) : FS := mk [(8, .pv (.i .i64 k)), (0, .pv (.sl false 15 [Ai x, Ai y])), (1, .pv (.i .i64 0)), (2, .pv (.i .i64 2)), (3, .fn (.func 38) [])] []
def Ud (x y : Ent) (_ : Unit) : FS := mk [(9, .pv (.i .i64 1)), (8, .pv (.i .i64 1)), (0, .pv (.sl false 15 [Ai x, Ai y])), (1, .pv (.i .i64 0)), (2, .pv (.i .i64 2)), (3, .fn (.func 38) [])] []
theorem Ahp {x y : Ent} (he : x.name = y.name) {a : SV} {h d} (hx : Br h [a, .pv (.i .i64 0), .pv (.i .i64 2), .fn (.func 38) []] = [.pv (.sl false 15 [Ai x, Ai y]), .pv (.i .i64 0), .pv (.i .i64 2), .fn (.func 38) []]) (hl : A4 [a, .pv (.i .i64 0), .pv (.i .i64 2), .fn (.func 38) []] = true) :
 FunOk Tryd.prog 67 [a, .pv (.i .i64 0), .pv (.i .i64 2), .fn (.func 38) []] h d (.tup []) [] := by
 refine Cu mixed fn67 (by simp) hl rfl fun F => ?_;rw [hx];simp (disch := omega) only [ir67, go_sem];refine Aw mixed (So x y) (fun k => k = 1 ∨ k = 2) (fun k => 2 - k) 1 (.inl rfl) (Ar ?_ ?_) fun k hk => ?_
 · simp (disch := omega) only [go_sem]
 · simp (disch := omega) only [go_sem]
 rcases hk with rfl | rfl
 · simp (disch := omega) only [So, go_sem];refine Aw mixed (Ud x y) (fun _ => True) (fun _ => 0) () trivial (Ar ?_ ?_) fun _ _ => ?_
   · simp (disch := omega) only [go_sem]
   · simp (disch := omega) only [go_sem]
   have e0 : [Ai x, Ai y][((1 : Int) - 1).toNat]? = some (Ai x) := rfl;have e1 : [Ai x, Ai y][Int.toNat 1]? = some (Ai y) := rfl;have ec : Ee y.name x.name = 0 := by unfold Ee; rw [he, Oa]; simp
   simp (disch := omega) only [Ud, e0, e1, Bf, go_sem];refine Ab (Mx _ _) ?_;simp (disch := omega) only [ec, go_sem];refine Al (x := 1) 2 _ _ rfl (.inr rfl) (by omega) ?_ ?_
   · simp (disch := omega) only [go_sem]
   · simp (disch := omega) only [go_sem]
 · simp (disch := omega) only [So, go_sem];rfl
def Uc (x y : Ent) (_ : Unit) : FS := mk [(8, .pv (.i .i64 20)), (7, .pv (.i .i64 0)), (6, .pv (.i .i64 20)), (0, .pv (.sl false 15 [Ai x, Ai y])), (1, .pv (.i .i64 2)), (2, .fn (.func 38) [])] []
theorem V8 {x y : Ent} (he : x.name = y.name) {a : SV} {h d} (hx : Br h [a, .pv (.i .i64 2), .fn (.func 38) []] = [.pv (.sl false 15 [Ai x, Ai y]), .pv (.i .i64 2), .fn (.func 38) []]) (hl : A4 [a, .pv (.i .i64 2), .fn (.func 38) []] = true) :
 FunOk Tryd.prog 55 [a, .pv (.i .i64 2), .fn (.func 38) []] h d (.tup []) [] := by
 refine Cu mixed fn55 (by simp) hl rfl fun F => ?_;rw [hx];simp (disch := omega) only [ir55, go_sem];refine Aw mixed (Uc x y) (fun _ => True) (fun _ => 0) () trivial (Ar ?_ ?_) fun _ _ => ?_
 · simp (disch := omega) only [go_sem]
 · simp (disch := omega) only [go_sem]
 simp (disch := omega) only [Uc, go_sem];refine Ab (Ahp he rfl rfl) ?_;simp (disch := omega) only [go_sem];refine Aw mixed (Uc x y) (fun _ => True) (fun _ => 0) () trivial (Ar ?_ ?_) fun _ _ => ?_
 · simp (disch := omega) only [go_sem]
 · simp (disch := omega) only [go_sem]
 simp (disch := omega) only [Uc, go_sem];rfl
theorem Adk {x y : Ent} (he : x.name = y.name) {a : SV} {h d} (hx : Br h [a, .fn (.func 38) []] = [.pv (.sl false 15 [Ai x, Ai y]), .fn (.func 38) []]) (hl : A4 [a, .fn (.func 38) []] = true) :
 FunOk Tryd.prog 37 [a, .fn (.func 38) []] h d (.tup []) [] := by
 refine Cu mixed fn37 (by simp) hl rfl fun F => ?_;rw [hx];simp (disch := omega) only [ir37, go_sem];refine Ab (V8 he rfl rfl) ?_;simp (disch := omega) only [go_sem];rfl
end Go.Proofs.YthleeikkpjiicaaDoor.Fw
namespace Go.Proofs.YthleeikkpjiicaaDoor.Fw
open Go.RowKit Go.Proofs
def F4 (dir : E2) (x : Ent) : Bool := decide (x.dir = dir) && decide (Sn x.gone fun _ => 0)
def Uf (f : Bool) (l : List Ent) (dir : E2) (k : Nat) : FS := mk [(10, .pv (.i .i64 k)), (9, .pv (.i .i64 l.length)), (8, .pv (.sl f 15 (l.map Ai))), (5, .os 40), (3, .p 3 0)] [(40, some (.row 15 (((l.take k).filter (F4 dir)).map Ai))), (3, some (.var (.vec 2 [.i .i64 dir.1, .i .u32 dir.2])))]
theorem Kz {l : List Ent} {k : Nat} {y : Ent} (h : l[k]? = some y) (P : Ent → Bool) : (l.take (k + 1)).filter P = (l.take k).filter P ++ if P y = true then [y] else [] := by
 rw [List.take_add_one, h, List.filter_append];congr 1;cases hp : P y <;> simp [hp]
set_option maxHeartbeats 1000000 in
theorem Afs {x : SV} {f : Bool} {l M : List Ent} {dir : E2} {h d} (hq : ∀ {h d}, h 40 = some (.row 15 ((l.filter (F4 dir)).map Ai)) → FunOk Tryd.prog 37 [.os 40, .fn (.func 38) []] h d (.tup []) [.upd 40 (.row 15 (M.map Ai))])
 (hx : Br h [x, .vec 2 [.i .i64 dir.1, .i .u32 dir.2]] = [.pv (.sl f 15 (l.map Ai)), .vec 2 [.i .i64 dir.1, .i .u32 dir.2]]) (hl : A4 [x, .vec 2 [.i .i64 dir.1, .i .u32 dir.2]] = true) (hn : l.length ≤ 1000) :
 FunOk Tryd.prog 14 [x, .vec 2 [.i .i64 dir.1, .i .u32 dir.2]] h d (.os d) [.new d (.row 15 (M.map Ai))] := by
 refine P8 mixed fn14 (by simp) hl (.inr (Kf _)) fun F => ?_;rw [hx];simp (disch := omega) only [ir14, List.length_map, go_sem];refine Aw mixed (Uf f l dir) (fun k => k ≤ l.length) (fun k => l.length - k) 0 (Nat.zero_le _) (X6 5 40 15 rfl (by omega) (Ar ?_ ?_)) fun k hk => ?_
 · simp (disch := omega) only [go_sem]
 · simp (disch := omega) only [go_sem];rfl
 by_cases hlt : k < l.length
 · have hx' : l[k]? = some l[k] := List.getElem?_eq_getElem hlt;have he : (l.map Ai)[k]? = some (Ai l[k]) := by rw [List.getElem?_map, hx']; rfl
   have ht := Kz hx' (F4 dir);have hb : ((l.take k).filter (F4 dir)).length ≤ k := Nat.le_trans (List.length_filter_le _ _) (by simp; omega);generalize l[k] = y at *;have hcy := Aq y;by_cases hid : y.dir = dir
   · have hp := Y5 hid;simp (disch := omega) only [Uf, List.length_map, he, Bf, Hf, Lw, hp, hcy, go_sem];refine Ab (Re _) ?_;by_cases ha : Sn y.gone fun _ => 0
     · have hP : F4 dir y = true := by simp [F4, hid, ha]
       rw [if_pos hP] at ht;simp (disch := omega) only [ha, Bf, hcy, List.length_map, go_sem];refine ⟨k + 1, by omega, by omega, Pd 25 40 (by decide) rfl (Ar ?_ ?_)⟩
       · simp (disch := omega) only [go_sem]
       · simp (disch := omega) only [ht, go_sem];simp
     · have hP : ¬ F4 dir y = true := by simp [F4, hid, ha]
       rw [if_neg hP, List.append_nil] at ht;simp (disch := omega) only [ha, go_sem];refine Al (k + 1) _ _ rfl (by omega) (by omega) ?_ ?_
       · simp (disch := omega) only [go_sem]
       · simp (disch := omega) only [ht, go_sem]
   · have hp := Y6 hid;have hP : ¬ F4 dir y = true := by simp [F4, hid]
     rw [if_neg hP, List.append_nil] at ht;simp (disch := omega) only [Uf, List.length_map, he, Bf, Hf, Lw, hp, hcy, go_sem];refine Al (k + 1) _ _ rfl (by omega) (by omega) ?_ ?_
     · simp (disch := omega) only [go_sem]
     · simp (disch := omega) only [ht, go_sem]
 · obtain rfl : k = l.length := by omega
   have e := List.take_length (l := l);simp (disch := omega) only [Uf, List.length_map, e, go_sem];refine Ab (hq rfl) ?_;simp (disch := omega) only [go_sem]
def Dt (n : Nat) : List UInt8 := if h : n < 10 then [UInt8.ofNat (48 + n)] else Dt (n / 10) ++ [UInt8.ofNat (48 + n % 10)]
termination_by n
decreasing_by omega
def Nk (n : Int) : List UInt8 := if n < 0 then 45 :: Dt n.natAbs else Dt n.toNat
def Hm (s : List UInt8) (i : E2) : List UInt8 := s ++ [126] ++ Nk i.1 ++ [46] ++ Dt i.2
theorem Aa1 : Dt 1 = [49] := by unfold Dt; rfl
theorem Aix : Dt 2 = [50] := by unfold Dt; rfl
theorem Aa4 : Nk 2 = [50] := by unfold Nk; rw [if_neg (by omega)]; exact Aix
theorem Rc (n : Nat) (hn : n = 1 ∨ n = 2) {h d} : FunOk Tryd.prog 72 [.pv (.i .i64 (n : Int))] h d (.pv (.s [UInt8.ofNat (48 + n)])) [] := by
 refine A7 mixed fn72 (by simp) rfl rfl fun F => ?_;rcases hn with rfl | rfl
 · simp (disch := omega) only [ir72, go_sem];rfl
 · simp (disch := omega) only [ir72, go_sem];rfl
theorem Ahm {h d} : FunOk Tryd.prog 36 [.pv (.s [97]), .vec 2 [.i .i64 2, .i .u32 1]] h d (.pv (.s (Hm [97] (2, 1)))) [] := by
 have e : Hm [97] (2, 1) = [97, 126, 50, 46, 49] := by unfold Hm; rw [Aa4, Aa1]; rfl
 rw [e];have k1 : ∀ {h d}, FunOk Tryd.prog 71 [.pv (.i .i64 2), .pv (.i .i64 10)] h d (.pv (.s [50])) [] := fun {h d} => by
  refine A7 mixed fn71 (by simp) rfl rfl fun F => ?_;simp (disch := omega) only [ir71, go_sem];refine Ab (Rc 2 (.inr rfl)) ?_;simp (disch := omega) only [go_sem];rfl
 have k2 : ∀ {h d}, FunOk Tryd.prog 65 [.pv (.i .i64 2)] h d (.pv (.s [50])) [] := fun {h d} => by
  refine A7 mixed fn65 (by simp) rfl rfl fun F => ?_;simp (disch := omega) only [ir65, go_sem];refine Ab k1 ?_;simp (disch := omega) only [go_sem]
 have k3 : ∀ {h d}, FunOk Tryd.prog 53 [.pv (.i .i64 2)] h d (.pv (.s [50])) [] := fun {h d} => by
  refine A7 mixed fn53 (by simp) rfl rfl fun F => ?_;simp (disch := omega) only [ir53, go_sem];refine Ab k2 ?_;simp (disch := omega) only [go_sem]
 have k4 : ∀ {h d}, FunOk Tryd.prog 66 [.pv (.i .u64 1), .pv (.i .i64 10)] h d (.pv (.s [49])) [] := fun {h d} => by
  refine A7 mixed fn66 (by simp) rfl rfl fun F => ?_;simp (disch := omega) only [ir66, go_sem];refine Ab (Rc 1 (.inl rfl)) ?_;simp (disch := omega) only [go_sem];rfl
 have k5 : ∀ {h d}, FunOk Tryd.prog 54 [.pv (.i .u64 1), .pv (.i .i64 10)] h d (.pv (.s [49])) [] := fun {h d} => by
  refine A7 mixed fn54 (by simp) rfl rfl fun F => ?_;simp (disch := omega) only [ir54, go_sem];refine Ab k4 ?_;simp (disch := omega) only [go_sem]
 refine A7 mixed fn36 (by simp) rfl rfl fun F => ?_;simp (disch := omega) only [ir36, go_sem];refine Ab k3 ?_;simp (disch := omega) only [go_sem];refine Ab k5 ?_;simp (disch := omega) only [go_sem]
def Ed (t : List UInt8) : List PV := [.s t]
def Dj (l : List Ent) (k : Nat) (x : Ent) : Prop := 0 < k ∧ ∃ y, l[k - 1]? = some y ∧ y.name = x.name
open Classical in
noncomputable def Jx (l : List Ent) (k : Nat) : List UInt8 := match l[k]? with
 | some x => if Dj l k x then Hm x.name x.id else x.name
 | none => []
noncomputable def Hn (l : List Ent) (k : Nat) : List (List UInt8) := (List.range k).map (Jx l)
theorem V0 (l : List Ent) (k : Nat) : Hn l (k + 1) = Hn l k ++ [Jx l k] := by simp [Hn, List.range_succ]
theorem Mk (l : List Ent) (k : Nat) : (Hn l k).length = k := by simp [Hn]
theorem Vy {l : List Ent} {k : Nat} {x : Ent} (h : l[k]? = some x) (hs : Dj l k x) : Jx l k = Hm x.name x.id := by unfold Jx; rw [h]; simp only; rw [if_pos hs]
theorem Vz {l : List Ent} {k : Nat} {x : Ent} (h : l[k]? = some x) (hs : ¬ Dj l k x) : Jx l k = x.name := by unfold Jx; rw [h]; simp only; rw [if_neg hs]
theorem Vp (l : List (List UInt8)) : ∀ c ∈ l.map Ed, c.all PV.flat = true := by
 intro c hc;obtain ⟨v, _, rfl⟩ := List.mem_map.1 hc;rfl
def Ir (f : Bool) (l : List Ent) (L : List (List UInt8)) (k : Nat) : FS := mk [(8, .pv (.i .i64 k)), (7, .pv (.i .i64 l.length)), (6, .pv (.sl f 15 (l.map Ai))), (3, .os 60), (0, .pv (.sl f 15 (l.map Ai)))] [(60, some (.row 1 (L.map Ed)))]
set_option maxHeartbeats 1000000 in
theorem Uq {x : SV} {f : Bool} {l : List Ent} {h d} (htag : ∀ k y, l[k]? = some y → Dj l k y → ∀ {h d}, FunOk Tryd.prog 36 [.pv (.s y.name), .vec 2 [.i .i64 y.id.1, .i .u32 y.id.2]] h d (.pv (.s (Hm y.name y.id))) [])
 (hx : Br h [x] = [.pv (.sl f 15 (l.map Ai))]) (hl : A4 [x] = true) (hn : l.length ≤ 1000) :
 FunOk Tryd.prog 13 [x] h d (.os d) [.new d (.row 1 ((Hn l l.length).map Ed))] := by
 refine P8 mixed fn13 (by simp) hl (.inr (Vp _)) fun F => ?_;rw [hx];simp (disch := omega) only [ir13, List.length_map, go_sem];refine Aw mixed (fun k => Ir f l (Hn l k) k) (fun k => k ≤ l.length) (fun k => l.length - k) 0 (Nat.zero_le _) (X6 3 60 1 rfl (by omega) (Ar ?_ ?_)) fun k hk => ?_
 · simp (disch := omega) only [go_sem]
 · simp (disch := omega) only [go_sem];rfl
 by_cases hlt : k < l.length
 · have hx' : l[k]? = some l[k] := List.getElem?_eq_getElem hlt;have he : (l.map Ai)[k]? = some (Ai l[k]) := by rw [List.getElem?_map, hx']; rfl
   have hm : l[k] ∈ l := List.getElem_mem hlt;have ht := V0 l k;have hLn := Mk l k;have s1 := Vy hx';have s2 := Vz hx';have htg := fun q h d => htag k _ hx' q (h := h) (d := d);generalize l[k] = y at *;have hcy := Aq y;by_cases h0 : 0 < k
   · have hp : l[k - 1]? = some l[k - 1] := List.getElem?_eq_getElem (by omega);have hpe : (l.map Ai)[((k : Int) - 1).toNat]? = some (Ai l[k - 1]) := by rw [show ((k : Int) - 1).toNat = k - 1 by omega, List.getElem?_map, hp]; rfl
     by_cases hsn : l[k - 1].name = y.name
     · have hsm : Dj l k y := ⟨h0, _, hp, hsn⟩
       rw [s1 hsm] at ht;generalize l[k - 1] = z at *;simp (disch := omega) only [Ir, List.length_map, he, hpe, Bf, Bx, D8, hcy, hsn, go_sem];refine Ab (htg hsm _ _) ?_;simp (disch := omega) only [List.length_map, hLn, go_sem];refine ⟨k + 1, by omega, by omega, Pd 33 60 (by decide) rfl (Ar ?_ ?_)⟩
       · simp (disch := omega) only [go_sem]
       · simp (disch := omega) only [go_sem];simp [ht, Ed]
     · rw [s2 (by rintro ⟨_, z, h1, h2⟩; rw [hp] at h1; cases h1; exact hsn h2)] at ht;simp (disch := omega) only [Ir, List.length_map, he, hpe, Bf, Bx, D8, hcy, hsn, hLn, go_sem];refine ⟨k + 1, by omega, by omega, Pd 38 60 (by decide) rfl (Ar ?_ ?_)⟩
       · simp (disch := omega) only [go_sem]
       · simp (disch := omega) only [go_sem];simp [ht, Ed]
   · rw [s2 (fun h => h0 h.1)] at ht;simp (disch := omega) only [Ir, List.length_map, he, Bf, Bx, D8, hcy, hLn, go_sem];refine ⟨k + 1, by omega, by omega, Pd 38 60 (by decide) rfl (Ar ?_ ?_)⟩
     · simp (disch := omega) only [go_sem]
     · simp (disch := omega) only [go_sem];simp [ht, Ed]
 · obtain rfl : k = l.length := by omega
   simp (disch := omega) only [Ir, List.length_map, go_sem]
theorem Zb (r : Int) (q : Nat) {h d} : FunOk Tryd.prog 35 [.pv (.i .i64 r), .pv (.i .u32 q)] h d (.agg [.pv (.i .i64 r), .pv (.i .u32 q)]) [] := by
 refine A7 mixed fn35 (by simp) rfl rfl fun F => ?_;simp (disch := omega) only [ir35, go_sem]
def Jg : Ent := ⟨(2, 1), (0, 0), [97], (0, 0), fun _ => 0⟩
def Im : Ent := ⟨(1, 1), (0, 0), [97], (0, 0), fun _ => 0⟩
theorem Ad8 {f : Bool} {y z : Nat} : Imp (.pv (.sl f y [])) (.pv (.sl f z [])) := by
 intro V ρ v h;simp only [Conc] at h ⊢;cases h with
 | sl full sz es a cap cs bl off arr hcap hfull hsz ha hcs hel =>
   exact .sl f z [] a cap cs bl off arr hcap hfull (by simp) (by simp) (by simp) (by simp)
theorem Aon : T7 [Jg] Im = [Im, Jg] := by
 have h1 : Wo [Jg] Im.id = false := by unfold Wo; rfl
 unfold T7;rw [if_neg (by rw [h1]; simp)];rw [Wr, if_neg (by show ¬ El (2, 1) (1, 1) = true; rw [I8]; decide)]
theorem in2 : [Im, Jg].filter (F4 (0, 0)) = [Im, Jg] := by
 have h1 : F4 (0, 0) Im = true := by simp [F4, Im, Sn]
 have h2 : F4 (0, 0) Jg = true := by simp [F4, Jg, Sn]
 simp [h1, h2]
theorem sh2 : Hn [Im, Jg] 2 = [[97], [97, 126, 50, 46, 49]] := by
 have h0 : Jx [Im, Jg] 0 = [97] := Vz (x := Im) rfl fun h => absurd h.1 (by omega);have h1 : Jx [Im, Jg] 1 = Hm [97] (2, 1) := Vy (x := Jg) rfl ⟨by omega, Im, rfl, rfl⟩;have e : Hm [97] (2, 1) = [97, 126, 50, 46, 49] := by unfold Hm; rw [Aa4, Aa1]; rfl
 show [Jx [Im, Jg] 0, Jx [Im, Jg] 1] = _;rw [h0, h1, e]
set_option maxHeartbeats 1000000 in
theorem Uy {h d} : FunOk Tryd.prog 10 [] h d (.pv (.b true)) [] := by
 refine A7 mixed fn10 (by simp) rfl rfl fun F => ?_;simp (disch := omega) only [ir10, go_sem];refine Ab (Zb 2 1) ?_;simp (disch := omega) only [go_sem];have k1 : ∀ {h d}, FunOk Tryd.prog 23 [.pv (.sl true 0 []), .agg [.pv (.i .i64 2), .pv (.i .u32 1), .pv (.i .i64 0), .pv (.i .u32 0), .pv (.s [97]), .pv (.i .i64 0), .pv (.i .u32 0), .vec 8 (List.replicate 8 (.i .u32 0))]] h d (.os d) [.new d (.row 15 ([Jg].map Ai))] := fun {h d} =>
  (Zd (a := .pv (.sl true 15 [])) (f := true) (l := []) Jg rfl rfl List.Pairwise.nil (Nat.zero_le _)).imp ⟨Ad8, Lu rfl rfl, trivial⟩ (by simp [Ax, tn])
 refine Ab k1 ?_;simp (disch := omega) only [go_sem];refine Ab (Zb 1 1) ?_;simp (disch := omega) only [go_sem];have k2 : ∀ {h d}, h 5 = some (.row 15 ([Jg].map Ai)) → FunOk Tryd.prog 23 [.os 5, .agg [.pv (.i .i64 1), .pv (.i .u32 ((1 : Nat) : Int)), .pv (.i .i64 0), .pv (.i .u32 0), .pv (.s [97]), .pv (.i .i64 0), .pv (.i .u32 0), .vec 8 (vE fun _ => 0)]] h d (.os d) [.new d (.row 15 ([Im, Jg].map Ai))] := fun {h d} h5 => by
  rw [← Aon];exact (Zd (a := .os 5) (f := false) (l := [Jg]) Im (by simp only [Br, Lr _ _ _ _ h5]; rfl) rfl (List.pairwise_singleton _ _) (by decide)).imp ⟨Imp.refl _, Lu rfl rfl, trivial⟩ (fun n hn => hn)
 refine Ab (k2 rfl) ?_;simp (disch := omega) only [go_sem];have k3 : ∀ {h d}, h 8 = some (.row 15 ([Im, Jg].map Ai)) → FunOk Tryd.prog 14 [.os 8, .agg [.pv (.i .i64 0), .pv (.i .u32 0)]] h d (.os d) [.new d (.row 15 ([Im, Jg].map Ai))] := fun {h d} h8 =>
  (Afs (x := .os 8) (f := false) (l := [Im, Jg]) (M := [Im, Jg]) (dir := (0, 0)) (fun {h d} hh => by
    rw [in2] at hh;exact FunOk.same (Adk (x := Im) (y := Jg) rfl (by simp only [Br, Lr _ _ _ _ hh]; rfl) rfl) hh (by simp [Ax, tn])) (by simp only [Br, Lr _ _ _ _ h8]; rfl) rfl (by decide)).imp ⟨Imp.refl _, Lu rfl rfl, trivial⟩ (fun n hn => hn)
 refine Ab (k3 rfl) ?_;simp (disch := omega) only [go_sem];have k4 : ∀ {h d}, h 11 = some (.row 15 ([Im, Jg].map Ai)) → FunOk Tryd.prog 13 [.os 11] h d (.os d) [.new d (.row 1 ([[97], [97, 126, 50, 46, 49]].map Ed))] := fun {h d} h11 => by
  rw [← sh2];refine Uq (x := .os 11) (f := false) (l := [Im, Jg]) (fun k y hy hs {h d} => ?_) (by simp only [Br, Lr _ _ _ _ h11]) rfl (by decide);have : k = 1 ∧ y = Jg := by
   obtain ⟨h0, _⟩ := hs;have hk : k < 2 := (List.getElem?_eq_some_iff.1 hy).1;obtain rfl : k = 1 := by omega
   cases hy; exact ⟨rfl, rfl⟩
  obtain ⟨rfl, rfl⟩ := this;exact Ahm
 refine Ab (k4 rfl) ?_;have n1 : (((([Im, Jg].map Ai).length : Nat) : Int) = 2) = True := eq_true rfl;have n2 : (((([[97], [97, 126, 50, 46, 49]].map Ed).length : Nat) : Int) = 2) = True := eq_true rfl;have n3 : ((0 : Int) < ((([[97], [97, 126, 50, 46, 49]].map Ed).length : Nat) : Int)) = True := eq_true (by decide);have n4 : ((1 : Int) < ((([[97], [97, 126, 50, 46, 49]].map Ed).length : Nat) : Int)) = True := eq_true (by decide);have n5 : ((0 : Int) < ((([Im, Jg].map Ai).length : Nat) : Int)) = True := eq_true (by decide);have g1 : ([[97], [97, 126, 50, 46, 49]].map Ed)[0]? = some [PV.s [97]] := rfl;have g2 : ([[97], [97, 126, 50, 46, 49]].map Ed)[Int.toNat 1]? = some [PV.s [97, 126, 50, 46, 49]] := rfl;have g3 : ([Im, Jg].map Ai)[0]? = some (Ai Im) := rfl;have hz : Sn Im.gone (fun _ => 0) := fun i _ => rfl;have q1 : ∀ K : KK, LoadK (some [PV.s [97]]) 0 1 false K = K (.pv (.s [97])) [] := fun K => by simp [LoadK, Om]
 have q2 : ∀ K : KK, LoadK (some [PV.s [97, 126, 50, 46, 49]]) 0 1 false K = K (.pv (.s [97, 126, 50, 46, 49])) [] := fun K => by simp [LoadK, Om]
 simp (disch := omega) only [n1, n2, n3, n4, n5, g1, g2, g3, q1, q2, Bf, go_sem];refine Ab (Re Im) ?_;have hz' : decide (Sn Im.gone fun _ => 0) = true := by simp [hz]
 simp (disch := omega) only [hz', go_sem]
end Go.Proofs.YthleeikkpjiicaaDoor.Fw
namespace Go.Proofs.YthleeikkpjiicaaDoor.Fw
open Go.RowKit Go.Proofs Go.Shelf Go.Sort Go.Lib
set_option maxHeartbeats 6400000 in
theorem An9 (u : Nat) (hu64 : u < 18446744073709551616) (w : World) (htab : Lib.TabIs Tryd.prog w "internal/strconv.uint64pow10" .u64 Lib.pow10Tab) :
 Calls Tryd.prog 66 #[.int .u64 u, .int .i64 10] w fun e w' => e = .returned (.string ⟨(Lib.decDigits u).toArray⟩) ∧ ∃ k os, w' = Sort.grow (w.drewN k) os := by
 have mixed := M8.mixed;have t0 := Tryd.underlying0; have a0 := Tryd.isAgg0; have z0 := Tryd.sizeOf0; have v0 := Tryd.zeroValue0;have t3 := Tryd.underlying3; have a3 := Tryd.isAgg3; have z3 := Tryd.sizeOf3; have v3 := Tryd.zeroValue3;have t4 := Tryd.underlying4; have a4 := Tryd.isAgg4; have z4 := Tryd.sizeOf4; have v4 := Tryd.zeroValue4;have t5 := Tryd.underlying5; have a5 := Tryd.isAgg5; have z5 := Tryd.sizeOf5; have v5 := Tryd.zeroValue5;have t9 := Tryd.underlying9; have a9 := Tryd.isAgg9; have z9 := Tryd.sizeOf9; have v9 := Tryd.zeroValue9;have t76 := Tryd.underlying76; have a76 := Tryd.isAgg76; have z76 := Tryd.sizeOf76; have v76 := Tryd.zeroValue76;have t88 := Tryd.underlying88; have a88 := Tryd.isAgg88; have z88 := Tryd.sizeOf88; have v88 := Tryd.zeroValue88;have t91 := Tryd.underlying91; have a91 := Tryd.isAgg91; have z91 := Tryd.sizeOf91; have v91 := Tryd.zeroValue91;have e72 : ∀ args w, (callFunc 72 args).run Tryd.prog w = .ok (.enter 72 args) w := enters_of Tryd.func72 (by kernel_rfl) rfl;have e73 : ∀ args w, (callFunc 73 args).run Tryd.prog w = .ok (.enter 73 args) w := enters_of Tryd.func73 (by kernel_rfl) rfl;have e74 : ∀ args w, (callFunc 74 args).run Tryd.prog w = .ok (.enter 74 args) w := enters_of Tryd.func74 (by kernel_rfl) rfl;have k72 : ∀ (i : Nat), i < 100 → ∀ w, Calls Tryd.prog 72 #[.int .i64 i] w fun e w' => e = .returned (.string ⟨(Lib.decDigits i).toArray⟩) ∧ w' = w := fun i hi w => Any.internal_strconv_small (ρ := M7) { M8 with } i hi w;by_cases hs : u < 100
 · go_enter Tryd.func66, Tryd.ntmps66
   go_wp2_with (go_at_fn 72; refine (k72 u hs _).mono ?_; rintro e w' ⟨rfl, rfl⟩)
   go_ret
   exact ⟨rfl, 0, #[], by simp [World.drewN_zero]⟩
 · have hu1 : 1 ≤ u := by omega
   have hnd20 : Lib.nDigits u ≤ 20 := by have := Lib.numDigits_eq u hu1 hu64; split at this <;> omega
   have hb3 : Lib.nDigits u ≤ 24 := by omega
   have k73 : ∀ w, Lib.TabIs Tryd.prog w "internal/strconv.uint64pow10" .u64 Lib.pow10Tab → Calls Tryd.prog 73 #[.int .u64 u] w fun e w' => e = .returned (.int .i64 (Lib.nDigits u)) ∧ w' = w := fun w ht => Any.internal_strconv_numDigits (ρ := M7) { M8 with } u hu1 hu64 w ht;have hal : Tryd.prog.arrayLen 88 = 24 := by simp [Program.arrayLen, t88]
   have hsl1 : ∀ W, (Instr.sliceAt 88 (.pointer (some ⟨w.heap.size, 0, none⟩)) none (some (.int .i64 (Lib.nDigits u : Int))) none).run Tryd.prog W = .ok (.slice (some ⟨w.heap.size, 0, none⟩) (Lib.nDigits u) 24) W := fun W => by
    rw [run_sliceAt_array_h W 88 ⟨w.heap.size, 0, none⟩ (by simp [Program.arrayLen, Program.elem, t88]) .i64 (Lib.nDigits u : Int) (by omega) (by rw [hal]; omega)]
    go_simp
    try omega
   have hH0 := Lib.holds_zero0 w 88 (Lib.nDigits u) (by omega);have hfmt : Calls Tryd.prog 74 #[.slice (some ⟨w.heap.size, 0, none⟩) (Array.replicate (Lib.nDigits u) (0 : UInt8)).size 24, .int .u64 u] (w.alloc (.cells Lib.zeros24 88)) _ := Any.internal_strconv_formatBase10 (ρ := M7) { M8 with } w.heap.size 0 24 u (Array.replicate (Lib.nDigits u) 0) (w.alloc (.cells Lib.zeros24 88)) hH0 (by rw [Array.size_replicate]; exact Lib.lt_pow_nDigits u) hu64 (by rw [Array.size_replicate]; omega);rw [Array.size_replicate] at hfmt;have HH0 := Lib.hid hH0;clear hH0 hal
   go_enter Tryd.func66, Tryd.ntmps66
   go_wp2_with (go_at_fn 73; refine (k73 _ (Lib.tabIs_alloc htab _)).mono ?_; rintro e w' ⟨rfl, rfl⟩)
   go_at_fn 74
   refine hfmt.mono ?_;rintro e w' ⟨rfl, k, v', dk, rfl, hF⟩;have hcv : (convert 91 9 (.slice (some ⟨w.heap.size, 0, none⟩) (Lib.nDigits u) 24)).run Tryd.prog ((putRow (fun (b : UInt8) => Value.int .u8 (b.toNat : Int)) (w.alloc (.cells Lib.zeros24 88)) w.heap.size 0 dk).drewN k) = .ok (.string ⟨(Lib.decDigits u).toArray⟩) ((putRow (fun (b : UInt8) => Value.int .u8 (b.toNat : Int)) (w.alloc (.cells Lib.zeros24 88)) w.heap.size 0 dk).drewN k) := by
    have h := run_convert_bytes_back (P := Tryd.prog) ((putRow (fun (b : UInt8) => Value.int .u8 (b.toNat : Int)) (w.alloc (.cells Lib.zeros24 88)) w.heap.size 0 dk).drewN k) 91 9 5 ⟨w.heap.size, 0, none⟩ 24 (Lib.decDigits u) t91 t5 t9 (fun j hj => by
     rw [Lib.row_is_numeral hF j hj, Lib.add_plain, World.cell?_drewN];exact cell?_putRow (fun (b : UInt8) => Value.int .u8 (b.toNat : Int)) _ w.heap.size 0 _ dk HH0.out (by rw [hF.size, Array.size_replicate]) j (by rw [hF.size]; rw [Lib.decDigits_length] at hj; exact hj))
    rw [Lib.decDigits_length] at h;exact h
   go_wp2
   go_ret
   refine ⟨rfl, k, ?_⟩;rw [Sort.alloc_eq_grow];obtain ⟨os', _, e⟩ := Sort.putRow_grow_new (fun (b : UInt8) => Value.int .u8 (b.toNat : Int)) w #[.cells Lib.zeros24 88] w.heap.size 0 dk (Nat.le_refl _);exact ⟨os', by rw [e]; rfl⟩
end Go.Proofs.YthleeikkpjiicaaDoor.Fw
namespace Go.Proofs.YthleeikkpjiicaaDoor.Fw
open Go.RowKit Go.Proofs
theorem Ji (n : Nat) : Dt n = Lib.decDigits n := by
 refine Nat.strongRecOn (motive := fun n => Dt n = Lib.decDigits n) n fun n ih => ?_;unfold Dt Lib.decDigits;split
 · rfl
 · rw [ih (n / 10) (by omega)]
theorem Aa2 (n : Int) : Nk n = Lib.itoa n := by unfold Nk Lib.itoa; rw [Ji, Ji]
theorem Yb {w : World} (h : T8 w) : Lib.TabIs Tryd.prog w "internal/strconv.uint64pow10" .u64 Lib.pow10Tab := by
 have h1 := h _ List.mem_cons_self;have hg : Tryd.prog.globalNamed "internal/strconv.uint64pow10" = some 0 := by kernel_rfl
 unfold Lib.TabIs World.var?;rw [hg];unfold Bl at h1;exact h1
theorem Ox (w : World) (k : Nat) (os : Array Obj) : Grew w (Sort.grow (w.drewN k) os) :=
 ⟨rfl, rfl, rfl, by show _ ≤ (w.heap ++ os).size; simp, fun b hb => by show (w.heap ++ os)[b]? = _; rw [Array.getElem?_append_left hb]⟩
theorem Adl (n : Int) (h0 : -9223372036854775808 ≤ n) (h1 : n ≤ 9223372036854775807) {h d} : FunOk Tryd.prog 53 [.pv (.i .i64 n)] h d (.pv (.s (Nk n))) [] := by
 refine ⟨Cj fn53, fun F N ρ s a w hR hh vs hc => ?_⟩;simp only [ConcL] at hc;obtain ⟨v, us, rfl, hv, rfl⟩ := hc;obtain rfl := Bu hv;refine Calls.mono (Any.strconv_Itoa (ρ := M7) M8 n h0 h1 w (Yb hR.tabW)) fun e w' he => ?_;obtain ⟨rfl, k, os, rfl⟩ := he;rw [← Aa2];exact ⟨_, ρ, rfl, hR.grew (Ox w k os), by simp only [Conc]; exact .s _⟩
theorem Adm (u : Nat) (hu : u < 18446744073709551616) {h d} : FunOk Tryd.prog 66 [.pv (.i .u64 (u : Int)), .pv (.i .i64 10)] h d (.pv (.s (Dt u))) [] := by
 refine ⟨Cj fn66, fun F N ρ s a w hR hh vs hc => ?_⟩;simp only [ConcL] at hc;obtain ⟨v, us, rfl, hv, v2, us2, rfl, hv2, rfl⟩ := hc;obtain rfl := Bu hv;obtain rfl := Bu hv2;refine Calls.mono (An9 u hu w (Yb hR.tabW)) fun e w' he => ?_;obtain ⟨rfl, k, os, rfl⟩ := he;rw [← Ji];exact ⟨_, ρ, rfl, hR.grew (Ox w k os), by simp only [Conc]; exact .s _⟩
theorem Ahq (u : Nat) (hu : u < 18446744073709551616) {h d} : FunOk Tryd.prog 54 [.pv (.i .u64 (u : Int)), .pv (.i .i64 10)] h d (.pv (.s (Dt u))) [] := by
 refine A7 mixed fn54 (by simp) rfl rfl fun F => ?_;simp (disch := omega) only [ir54, go_sem];refine Ab (Adm u hu) ?_;simp (disch := omega) only [go_sem]
theorem Nj {u : Nat} (h : u < 18446744073709551616) : (Dt u).length ≤ 20 := by
 rw [Ji, Lib.decDigits_length];by_cases h1 : 1 ≤ u
 · have := Lib.numDigits_eq u h1 h;split at this <;> omega
 · obtain rfl : u = 0 := by omega
   unfold Lib.nDigits; simp
theorem Aa3 {n : Int} (h0 : -9223372036854775808 ≤ n) (h1 : n ≤ 9223372036854775807) : (Nk n).length ≤ 21 := by
 unfold Nk;split
 · have := Nj (u := n.natAbs) (by omega);simp only [List.length_cons]; omega
 · have := Nj (u := n.toNat) (by omega);omega
structure IdR (i : E2) : Prop where
 lo : -9223372036854775808 ≤ i.1
 hi : i.1 ≤ 9223372036854775807
 sq : i.2 < 4294967296
theorem Akt {s : List UInt8} (hs : s.length ≤ 1000) {i : E2} (hi : IdR i) {h d} : FunOk Tryd.prog 36 [.pv (.s s), .vec 2 [.i .i64 i.1, .i .u32 i.2]] h d (.pv (.s (Hm s i))) [] := by
 obtain ⟨a, b⟩ := i;have h1 := hi.lo;have h2 := hi.hi;have h3 := hi.sq;simp only at h1 h2 h3;have q1 := Aa3 h1 h2;have q2 := Nj (u := b) (by omega);refine A7 mixed fn36 (by simp) rfl rfl fun F => ?_
 (try simp only [Lc, Lb, La, K9, K8, K7, K6, K5]); simp (disch := omega) only [ir36, List.length_append, List.length_cons, List.length_nil, go_sem]
 refine Ab (Adl a h1 h2) ?_;simp (disch := omega) only [List.length_append, List.length_cons, List.length_nil, go_sem];refine Ab (Ahq b (by omega)) ?_;simp (disch := omega) only [Hm, List.length_append, List.length_cons, List.length_nil, go_sem]
theorem Qj (l : List UInt8) : ¬ Op.bytesLess l l = true := by
 induction l with
 | nil => simp [Op.bytesLess]
 | cons c l ih => simp [Op.bytesLess, ih]
theorem Nr : ∀ {a b c : List UInt8}, Op.bytesLess a b = true → Op.bytesLess b c = true → Op.bytesLess a c = true
 | [], b, [], _, k => by cases b <;> simp [Op.bytesLess] at k
 | [], _, c :: cs, _, _ => by simp [Op.bytesLess]
 | a :: la, [], _, h, _ => by simp [Op.bytesLess] at h
 | a :: la, b :: bs, [], _, k => by simp [Op.bytesLess] at k
 | a :: la, b :: bs, c :: cs, h, k => by
   simp only [Op.bytesLess, Bool.or_eq_true, decide_eq_true_eq, Bool.and_eq_true, beq_iff_eq] at h k ⊢;rcases h with h | ⟨rfl, h⟩
   · rcases k with k | ⟨rfl, k⟩
     · exact .inl (UInt8.lt_trans h k)
     · exact .inl h
   · rcases k with k | ⟨rfl, k⟩
     · exact .inl k
     · exact .inr ⟨rfl, Nr h k⟩
theorem Abd : ∀ {a b : List UInt8}, ¬ Op.bytesLess a b = true → a ≠ b → Op.bytesLess b a = true
 | [], [], _, h => absurd rfl h
 | [], _ :: _, h, _ => absurd (by simp [Op.bytesLess]) h
 | _ :: _, [], _, _ => by simp [Op.bytesLess]
 | a :: la, b :: bs, h, k => by
   simp only [Op.bytesLess, Bool.or_eq_true, decide_eq_true_eq, Bool.and_eq_true, beq_iff_eq, not_or, not_and] at h ⊢;by_cases e : a = b
   · subst e;exact .inr ⟨rfl, Abd (h.2 rfl) fun q => k (by rw [q])⟩
   · exact .inl (by
      have h1 := h.1;rw [UInt8.lt_iff_toNat_lt] at h1 ⊢;have : a.toNat ≠ b.toNat := fun q => e (UInt8.toNat_inj.1 q);omega)
def C9 (x y : Ent) : Prop := Op.bytesLess x.name y.name = true ∨ x.name = y.name ∧ El x.id y.id = true
instance (x y : Ent) : Decidable (C9 x y) := inferInstanceAs (Decidable (_ ∨ _))
theorem Pw {x : Ent} : ¬ C9 x x := by
 rintro (h | h)
 · exact Qj _ h
 · exact Dx h.2
theorem Fb {x y z : Ent} (h : C9 x y) (k : C9 y z) : C9 x z := by
 rcases h with h | ⟨e, h⟩ <;> rcases k with k | ⟨f, k⟩
 · exact .inl (Nr h k)
 · exact .inl (f ▸ h)
 · exact .inl (e ▸ k)
 · exact .inr ⟨e.trans f, Fh h k⟩
theorem Ahy {x y : Ent} (h : C9 x y) : ¬ C9 y x := fun k => Pw (Fb h k)
theorem Pv {x y : Ent} (h : ¬ C9 x y) (k : x.id ≠ y.id) : C9 y x := by
 by_cases e : x.name = y.name
 · refine .inr ⟨e.symm, P6 (fun q => h (.inr ⟨e, q⟩)) k⟩
 · exact .inl (Abd (fun q => h (.inl q)) e)
theorem Ca {x y : Ent} (h : El x.id y.id = true) : C9 y x ↔ Op.bytesLess y.name x.name = true := by
 constructor
 · rintro (k | ⟨_, k⟩)
   · exact k
   · exact absurd k (Aif h)
 · exact .inl
def Dif (l : List Ent) : Prop := l.Pairwise fun a b => a.id ≠ b.id
abbrev B9 (l : List Ent) : Prop := l.Pairwise C9
theorem Oe : ∀ {l m : List Ent}, B9 l → B9 m → (∀ x, x ∈ l ↔ x ∈ m) → l = m
 | [], [], _, _, _ => rfl
 | [], y :: m, _, _, h => by have := (h y).2 List.mem_cons_self; cases this
 | x :: l, [], _, _, h => by have := (h x).1 List.mem_cons_self; cases this
 | x :: l, y :: m, hl, hm, h => by
   obtain ⟨l1, l2⟩ := List.pairwise_cons.1 hl;obtain ⟨m1, m2⟩ := List.pairwise_cons.1 hm;have e : x = y := by
    rcases List.mem_cons.1 ((h x).1 List.mem_cons_self) with q | q
    · exact q
    · rcases List.mem_cons.1 ((h y).2 List.mem_cons_self) with p | p
      · exact p.symm
      · exact absurd (l1 y p) (Ahy (m1 x q))
   subst e;congr 1;refine Oe l2 m2 fun z => ?_;constructor
   · intro q;rcases List.mem_cons.1 ((h z).1 (List.mem_cons_of_mem _ q)) with p | p
     · subst p; exact absurd (l1 z q) Pw
     · exact p
   · intro q;rcases List.mem_cons.1 ((h z).2 (List.mem_cons_of_mem _ q)) with p | p
     · subst p; exact absurd (m1 z q) Pw
     · exact p
def Wq (x : Ent) : List Ent → List Ent
 | [] => [x]
 | y :: l => if C9 y x then y :: Wq x l else x :: y :: l
def Ap : List Ent → List Ent
 | [] => []
 | x :: l => Wq x (Ap l)
theorem J9 (x : Ent) : ∀ l : List Ent, (Wq x l).Perm (x :: l)
 | [] => List.Perm.refl _
 | y :: l => by
   unfold Wq;split
   · exact ((J9 x l).cons y).trans (List.Perm.swap x y l)
   · exact List.Perm.refl _
theorem A8 : ∀ l : List Ent, (Ap l).Perm l
 | [] => List.Perm.refl _
 | x :: l => (J9 x _).trans ((A8 l).cons x)
theorem Ot {x : Ent} : ∀ {l : List Ent}, B9 l → (∀ y ∈ l, y.id ≠ x.id) → B9 (Wq x l)
 | [], _, _ => List.pairwise_singleton _ _
 | y :: l, h, hd => by
   obtain ⟨h1, h2⟩ := List.pairwise_cons.1 h;unfold Wq;split
   · rename_i hy;refine List.pairwise_cons.2 ⟨fun z hz => ?_, Ot h2 fun z hz => hd z (List.mem_cons_of_mem _ hz)⟩;rcases List.mem_cons.1 ((J9 x l).mem_iff.1 hz) with rfl | hz
     · exact hy
     · exact h1 z hz
   · rename_i hy;have hxy := Pv hy (hd y List.mem_cons_self);refine List.pairwise_cons.2 ⟨fun z hz => ?_, h⟩;rcases List.mem_cons.1 hz with rfl | hz
     · exact hxy
     · exact Fb hxy (h1 z hz)
theorem Bw : ∀ {l : List Ent}, Dif l → B9 (Ap l)
 | [], _ => List.Pairwise.nil
 | x :: l, h => by
   obtain ⟨h1, h2⟩ := List.pairwise_cons.1 h;exact Ot (Bw h2) fun y hy => fun q => h1 y ((A8 l).mem_iff.1 hy) q.symm
theorem Dif.perm {l m : List Ent} (h : Dif l) (p : l.Perm m) : Dif m := p.pairwise h fun hab q => hab q.symm
theorem E4 {l m : List Ent} (hm : B9 m) (hd : Dif l) (h : m.Perm l) : m = Ap l :=
 Oe hm (Bw hd) fun x => h.mem_iff.trans (A8 l).mem_iff.symm
theorem Mh {l : List Ent} (h : B9 l) (hd : Dif l) : Ap l = l := (E4 h hd (List.Perm.refl _)).symm
theorem E5 {l : List Ent} (h : Eb l) : Dif l := List.Pairwise.imp (fun hab q => by rw [q] at hab; exact Dx hab) h
theorem Vq {l m : List Ent} (hl : B9 l) (hm : B9 m) (h : ∀ x ∈ l, ∀ y ∈ m, C9 x y) : B9 (l ++ m) := List.pairwise_append.2 ⟨hl, hm, h⟩
theorem Lo {α : Type} (P : List α) (x y : α) (S : List α) : (P ++ x :: S).set P.length y = P ++ y :: S := by
 rw [List.set_append_right _ _ (Nat.le_refl _), Nat.sub_self]; rfl
theorem P7 {α : Type} (P : List α) (x : α) (S : List α) : (P ++ x :: S)[P.length]? = some x := by
 rw [List.getElem?_append_right (Nat.le_refl _), Nat.sub_self]; rfl
theorem Mf {α : Type} (P Q S : List α) (x y : α) {i j : Nat} (hi : i = P.length) (hj : j = P.length + 1 + Q.length) :
 (P ++ x :: (Q ++ y :: S))[i]? = some x ∧ (P ++ x :: (Q ++ y :: S))[j]? = some y ∧ ((P ++ x :: (Q ++ y :: S)).set i y).set j x = P ++ y :: (Q ++ x :: S) ∧ ((P ++ x :: (Q ++ y :: S)).set j x).set i y = P ++ y :: (Q ++ x :: S) := by
 subst hi; subst hj;have e1 : ∀ z : α, P ++ z :: (Q ++ y :: S) = (P ++ z :: Q) ++ y :: S := fun z => by simp
 have e2 : (P ++ x :: Q).length = P.length + 1 + Q.length := by simp; omega
 have e3 : ∀ z : α, (P ++ z :: Q).length = P.length + 1 + Q.length := fun z => by simp; omega
 refine ⟨P7 _ _ _, ?_, ?_, ?_⟩
 · rw [e1, ← e2]; exact P7 _ _ _
 · rw [Lo, e1, ← e3 y, Lo]; simp
 · rw [e1, ← e3 x, Lo, ← e1' P Q S x];exact Lo _ _ _ _
where e1' {α : Type} (P Q S : List α) (x : α) : P ++ x :: (Q ++ x :: S) = (P ++ x :: Q) ++ x :: S := by simp
def Fc {α : Type} (S : List α) (x : α) (q : Nat) : List α := S.take q ++ x :: S.drop q
theorem Py {α : Type} (S : List α) (x : α) (q : Nat) : (Fc S x q).length = S.length + 1 := by
 unfold Fc; simp only [List.length_append, List.length_cons, List.length_take, List.length_drop]; omega
theorem M1 {α : Type} (S : List α) (x : α) (q : Nat) : (Fc S x q).Perm (x :: S) := by
 unfold Fc;exact (List.perm_middle).trans (by rw [List.take_append_drop])
theorem Mz {α : Type} (A S T : List α) (x s : α) {q i : Nat} (hs : S[q]? = some s) (hi : i = A.length + q) :
 (A ++ (Fc S x q ++ T))[i]? = some x ∧ (A ++ (Fc S x q ++ T))[i + 1]? = some s ∧ (A ++ (Fc S x (q + 1) ++ T))[i]? = some s ∧ (A ++ (Fc S x (q + 1) ++ T))[i + 1]? = some x ∧
 ((A ++ (Fc S x q ++ T)).set i s).set (i + 1) x = A ++ (Fc S x (q + 1) ++ T) ∧ ((A ++ (Fc S x q ++ T)).set (i + 1) x).set i s = A ++ (Fc S x (q + 1) ++ T) ∧
 ((A ++ (Fc S x (q + 1) ++ T)).set i x).set (i + 1) s = A ++ (Fc S x q ++ T) ∧ ((A ++ (Fc S x (q + 1) ++ T)).set (i + 1) s).set i x = A ++ (Fc S x q ++ T) := by
 obtain ⟨hq, rfl⟩ := List.getElem?_eq_some_iff.1 hs;have d1 : S.drop q = S[q] :: S.drop (q + 1) := List.drop_eq_getElem_cons hq;have d2 : S.take (q + 1) = S.take q ++ [S[q]] := by rw [List.take_add_one, hs]; rfl
 have hl : (A ++ S.take q).length = A.length + q := by simp; omega
 have f1 : A ++ (Fc S x q ++ T) = (A ++ S.take q) ++ x :: ([] ++ S[q] :: (S.drop (q + 1) ++ T)) := by unfold Fc; rw [d1]; simp only [List.append_assoc, List.cons_append, List.nil_append, List.singleton_append]
 have f2 : A ++ (Fc S x (q + 1) ++ T) = (A ++ S.take q) ++ S[q] :: ([] ++ x :: (S.drop (q + 1) ++ T)) := by unfold Fc; rw [d2]; simp only [List.append_assoc, List.cons_append, List.nil_append, List.singleton_append]
 obtain ⟨a1, a2, a3, a4⟩ := Mf (A ++ S.take q) [] (S.drop (q + 1) ++ T) x S[q] (i := i) (j := i + 1) (by rw [hl]; exact hi) (by rw [hl]; simp; omega);obtain ⟨b1, b2, b3, b4⟩ := Mf (A ++ S.take q) [] (S.drop (q + 1) ++ T) S[q] x (i := i) (j := i + 1) (by rw [hl]; exact hi) (by rw [hl]; simp; omega);rw [f1, f2];exact ⟨a1, a2, b1, b2, a3, a4, b3, b4⟩
def R1 {α : Type} (A X C Y B : List α) (k : Nat) : List α := A ++ ((Y.take k ++ X.drop k) ++ (C ++ ((X.take k ++ Y.drop k) ++ B)))
theorem Amb {α : Type} (A X C Y B : List α) : R1 A X C Y B 0 = A ++ (X ++ (C ++ (Y ++ B))) := by simp [R1]
theorem Ama {α : Type} (A X C Y B : List α) (h : X.length = Y.length) : R1 A X C Y B X.length = A ++ (Y ++ (C ++ (X ++ B))) := by
 unfold R1;rw [List.take_length, List.drop_length, h, List.take_length, List.drop_length]; simp
theorem Aam {α : Type} (A X C Y B : List α) {k i j : Nat} {x y : α} (hx : X[k]? = some x) (hy : Y[k]? = some y) (h : X.length = Y.length) (hi : i = A.length + k) (hj : j = A.length + X.length + C.length + k) :
 (R1 A X C Y B k)[i]? = some x ∧ (R1 A X C Y B k)[j]? = some y ∧ ((R1 A X C Y B k).set i y).set j x = R1 A X C Y B (k + 1) ∧ ((R1 A X C Y B k).set j x).set i y = R1 A X C Y B (k + 1) := by
 obtain ⟨hkx, rfl⟩ := List.getElem?_eq_some_iff.1 hx;obtain ⟨hky, rfl⟩ := List.getElem?_eq_some_iff.1 hy;have dx : X.drop k = X[k] :: X.drop (k + 1) := List.drop_eq_getElem_cons hkx;have dy : Y.drop k = Y[k] :: Y.drop (k + 1) := List.drop_eq_getElem_cons hky;have tx : X.take (k + 1) = X.take k ++ [X[k]] := by rw [List.take_add_one, hx]; rfl
 have ty : Y.take (k + 1) = Y.take k ++ [Y[k]] := by rw [List.take_add_one, hy]; rfl
 have f1 : R1 A X C Y B k = (A ++ Y.take k) ++ X[k] :: ((X.drop (k + 1) ++ C ++ X.take k) ++ Y[k] :: (Y.drop (k + 1) ++ B)) := by unfold R1; rw [dx, dy]; simp only [List.append_assoc, List.cons_append, List.nil_append, List.singleton_append]
 have f2 : R1 A X C Y B (k + 1) = (A ++ Y.take k) ++ Y[k] :: ((X.drop (k + 1) ++ C ++ X.take k) ++ X[k] :: (Y.drop (k + 1) ++ B)) := by unfold R1; rw [tx, ty]; simp only [List.append_assoc, List.cons_append, List.nil_append, List.singleton_append]
 obtain ⟨a1, a2, a3, a4⟩ := Mf (A ++ Y.take k) (X.drop (k + 1) ++ C ++ X.take k) (Y.drop (k + 1) ++ B) X[k] Y[k] (i := i) (j := j) (by simp; omega) (by simp; omega);rw [f1, f2];exact ⟨a1, a2, a3, a4⟩
theorem C4 {rs : List Rv} {R : SV → FS → Prop} {s : FS} (h : E7 s rs fun l => R (one l) s) : Mq rs R s := ⟨s, .same s, h⟩
theorem Eo {l : List Ent} {i : Nat} {x : Ent} (h : l[i]? = some x) {j : Int} (hj : j.toNat = i) : (l.map Ai)[j.toNat]? = some (Ai x) := by rw [hj, List.getElem?_map, h]; rfl
theorem Uh {L : List (List PV)} (hL : ∀ c ∈ L, c.length ≤ 15) (i : Nat) (x : Ent) : splice (L.getD i []) 0 (Ai x) = Ai x := by
 have : (L.getD i []).length ≤ 15 := by
  rw [List.getD_eq_getElem?_getD];cases h : L[i]? with
  | none => simp
  | some c => exact hL c (List.mem_of_getElem? h)
 unfold splice;rw [List.drop_eq_nil_of_le (by rw [Aq]; omega)]; simp
theorem U7 (l : List Ent) : ∀ c ∈ l.map Ai, c.length ≤ 15 := fun c hc => by
 obtain ⟨x, _, rfl⟩ := List.mem_map.1 hc;rw [Aq]; exact Nat.le_refl _
theorem Jf {l m : List Ent} {i j : Nat} {x y : Ent} (h : (l.set i x).set j y = m) {i' j' : Int} (hi : i'.toNat = i) (hj : j'.toNat = j) :
 ((l.map Ai).set i'.toNat (splice ((l.map Ai).getD i'.toNat []) 0 (Ai x))).set j'.toNat (splice (((l.map Ai).set i'.toNat (splice ((l.map Ai).getD i'.toNat []) 0 (Ai x))).getD j'.toNat []) 0 (Ai y)) = m.map Ai := by
 have e1 := Uh (U7 l) i'.toNat x;rw [e1];have e2 : (l.map Ai).set i'.toNat (Ai x) = (l.set i x).map Ai := by rw [hi, List.map_set]
 rw [e2, Uh (U7 _), ← h, hj, List.map_set (f := Ai) (l := l.set i x)]
def Age (A X C Y B : List Ent) (k : Nat) : FS := mk [(10, .pv (.i .i64 k)), (0, .os 900), (1, .pv (.i .i64 A.length)), (2, .pv (.i .i64 ((A.length + X.length + C.length : Nat) : Int))), (3, .pv (.i .i64 X.length)), (1000000, .os 900)] [(900, some (.row 15 ((R1 A X C Y B k).map Ai)))]
theorem Pr {A X C Y B L M : List Ent} {a b n : Int} {h d} (hL : L = A ++ (X ++ (C ++ (Y ++ B)))) (hM : M = A ++ (Y ++ (C ++ (X ++ B)))) (ha : a = A.length) (hb : b = ((A.length + X.length + C.length : Nat) : Int)) (hn : n = X.length) (hXY : X.length = Y.length) (hsz : L.length ≤ 1000)
 (hg : h 900 = some (.row 15 (L.map Ai))) : FunOk Tryd.prog 83 [.os 900, .pv (.i .i64 a), .pv (.i .i64 b), .pv (.i .i64 n), fIn] h d (.tup []) [.upd 900 (.row 15 (M.map Ai))] := by
 subst ha hb hn hL hM;unfold fIn;refine Hh (g := 900) mixed fn83 (by simp) (by simp [Ax, tn]) (by simp [Ax, tn]) hg rfl (by simp [Blk.ptr, SV.kill]) rfl (fun _ => rfl) fun F => ?_;have hl : A.length + X.length + C.length + Y.length + B.length ≤ 1000 := by simp at hsz; omega
 have e0 := Amb A X C Y B;have en := Ama A X C Y B hXY;have hlen : ∀ k, (R1 A X C Y B k).length = A.length + X.length + C.length + Y.length + B.length := fun k => by
  unfold R1; simp only [List.length_append, List.length_take, List.length_drop]; omega
 simp (disch := omega) only [ir83, Blk.ptr, go_sem];refine Aw mixed (Age A X C Y B) (fun k => k ≤ X.length) (fun k => X.length - k) 0 (Nat.zero_le _) (Ar ?_ ?_) fun k hk => ?_
 · simp (disch := omega) only [go_sem]
 · simp (disch := omega) only [e0, go_sem]
 by_cases hlt : k < X.length
 · have hx : X[k]? = some X[k] := List.getElem?_eq_getElem hlt;have hy : Y[k]? = some Y[k] := List.getElem?_eq_getElem (by omega);generalize X[k] = x at hx;generalize Y[k] = y at hy;obtain ⟨q1, q2, q3, q4⟩ := Aam A X C Y B hx hy hXY rfl rfl;have g1 := Eo q1 (j := (A.length : Int) + (k : Int)) (by omega);have g2 := Eo q2 (j := ((A.length + X.length + C.length : Nat) : Int) + (k : Int)) (by omega);have g3 := Jf q3 (i' := (A.length : Int) + (k : Int)) (j' := ((A.length + X.length + C.length : Nat) : Int) + (k : Int)) (by omega) (by omega);have hcx := Aq x;have hcy := Aq y;have hk' := hlen k;simp (disch := omega) only [Age, g1, g2, List.length_set, List.length_map, hk', Bf, go_sem];refine Al (k + 1) _ _ rfl (by omega) (by omega) ?_ ?_
   · simp (disch := omega) only [go_sem]
   · simp (disch := omega) only [g3, go_sem]
 · obtain rfl : k = X.length := by omega
   simp (disch := omega) only [Age, en, go_sem];refine C4 ?_;simp (disch := omega) only [go_sem];rfl
abbrev Pt := List Ent × List Ent × List Ent × List Ent
def Ul (x : Pt) : List Ent := x.1 ++ (x.2.1 ++ (x.2.2.1 ++ x.2.2.2))
def Acz (m : Nat) (x : Pt) : FS := mk [(10, .pv (.i .i64 x.2.1.length)), (11, .pv (.i .i64 x.2.2.1.length)), (0, .os 900), (2, .pv (.i .i64 m)), (4, .fn (.func 38) []), (1000000, .os 900)] [(900, some (.row 15 ((Ul x).map Ai)))]
structure RoOk (m n : Nat) (M : List Ent) (x : Pt) : Prop where
 at_m : x.1.length + x.2.1.length = m
 u : 1 ≤ x.2.1.length
 v : 1 ≤ x.2.2.1.length
 goal : M = x.1 ++ (x.2.2.1 ++ (x.2.1 ++ x.2.2.2))
 all : x.1.length + x.2.1.length + x.2.2.1.length + x.2.2.2.length = n
theorem J1 {A U V B L M : List Ent} {a m b : Int} {h d} (hL : L = A ++ (U ++ (V ++ B))) (hM : M = A ++ (V ++ (U ++ B))) (ha : a = A.length) (hm : m = ((A.length + U.length : Nat) : Int)) (hb : b = ((A.length + U.length + V.length : Nat) : Int)) (hU : 1 ≤ U.length) (hV : 1 ≤ V.length) (hsz : L.length ≤ 1000)
 (hg : h 900 = some (.row 15 (L.map Ai))) : FunOk Tryd.prog 76 [.os 900, .pv (.i .i64 a), .pv (.i .i64 m), .pv (.i .i64 b), fIn] h d (.tup []) [.upd 900 (.row 15 (M.map Ai))] := by
 subst ha hm hb hL;unfold fIn;refine Hh (g := 900) mixed fn76 (by simp) (by simp [Ax, tn]) (by simp [Ax, tn]) hg rfl (by simp [Blk.ptr, SV.kill]) rfl (fun _ => rfl) fun F => ?_;have hl : A.length + U.length + V.length + B.length ≤ 1000 := by simp at hsz; omega
 have s1 : ((A.length + U.length : Nat) : Int) - (A.length : Int) = (U.length : Nat) := by omega
 have s2 : ((A.length + U.length + V.length : Nat) : Int) - ((A.length + U.length : Nat) : Int) = (V.length : Nat) := by omega
 simp (disch := omega) only [ir76, Blk.ptr, s1, s2, go_sem];refine Aw mixed (Acz (A.length + U.length)) (RoOk (A.length + U.length) (A.length + U.length + V.length + B.length) M) (fun x => x.2.1.length + x.2.2.1.length) (A, U, V, B) ⟨rfl, hU, hV, hM, rfl⟩ (Ar ?_ ?_) fun x hx => ?_
 · (try simp only [Lc, Lb, La, K9, K8, K7, K6, K5]); simp (disch := omega) only [go_sem]
 · simp (disch := omega) only [Ul, go_sem]
 obtain ⟨P, U', V', S⟩ := x;obtain ⟨h1, h2, h3, h4, h5⟩ := hx;simp only at h1 h2 h3 h4 h5;have hP : (Ul (P, U', V', S)).length ≤ 1000 := by unfold Ul; simp only [List.length_append]; omega
 by_cases he : U'.length = V'.length
 · have n1 : (U'.length : Int) = (V'.length : Int) := by omega
   have e : ((U'.length : Nat) : Int) = ((V'.length : Nat) : Int) := n1;simp (disch := omega) only [Acz, n1, go_sem];refine Ab (Pr (A := P) (X := U') (C := []) (Y := V') (B := S) (L := Ul (P, U', V', S)) (M := M) (by simp [Ul]) (by simp [h4]) (by omega) (by simp; omega) (by omega) he hP rfl) ?_;simp (disch := omega) only [go_sem];refine C4 ?_;simp (disch := omega) only [go_sem];rfl
 · by_cases hgt : V'.length < U'.length
   · simp (disch := omega) only [Acz, go_sem];have t1 : (U'.take V'.length).length = V'.length := by rw [List.length_take]; omega
     have t2 : (U'.drop V'.length).length = U'.length - V'.length := List.length_drop;have t3 := List.take_append_drop V'.length U';have t4 : Ul (P, U', V', S) = P ++ (U'.take V'.length ++ (U'.drop V'.length ++ (V' ++ S))) := by
      rw [← List.append_assoc (U'.take V'.length), t3]; rfl
     refine Ab (Pr (A := P) (X := U'.take V'.length) (C := U'.drop V'.length) (Y := V') (B := S) (L := Ul (P, U', V', S)) (M := Ul (P ++ V', U'.drop V'.length, U'.take V'.length, S)) t4 (by simp only [Ul, List.append_assoc]) (by omega) (by omega) (by omega) t1 hP rfl) ?_;have u1 : (U'.length : Int) - (V'.length : Int) = ((U'.drop V'.length).length : Nat) := by omega
     simp (disch := omega) only [go_sem];refine Al (x := (P, U', V', S)) (P ++ V', U'.drop V'.length, U'.take V'.length, S) _ _ rfl ⟨?_, ?_, ?_, ?_, ?_⟩ ?_ ?_ ?_
     · simp only [List.length_append]; omega
     · simp only; omega
     · simp only; omega
     · rw [h4]; simp only [List.append_assoc]
       conv => lhs; rw [← t3]
       simp only [List.append_assoc]
     · simp only [List.length_append]; omega
     · simp only; omega
     · (try simp only [Lc, Lb, La, K9, K8, K7, K6, K5]); simp (disch := omega) only [u1, t1, go_sem]
     · simp (disch := omega) only [go_sem]
   · simp (disch := omega) only [Acz, go_sem];have t1 : (V'.drop (V'.length - U'.length)).length = U'.length := by rw [List.length_drop]; omega
     have t2 : (V'.take (V'.length - U'.length)).length = V'.length - U'.length := by rw [List.length_take]; omega
     have t3 := List.take_append_drop (V'.length - U'.length) V';have t4 : Ul (P, U', V', S) = P ++ (U' ++ (V'.take (V'.length - U'.length) ++ (V'.drop (V'.length - U'.length) ++ S))) := by
      rw [← List.append_assoc (V'.take _), t3]; rfl
     refine Ab (Pr (A := P) (X := U') (C := V'.take (V'.length - U'.length)) (Y := V'.drop (V'.length - U'.length)) (B := S) (L := Ul (P, U', V', S)) (M := Ul (P, V'.drop (V'.length - U'.length), V'.take (V'.length - U'.length), U' ++ S)) t4 (by simp only [Ul, List.append_assoc]) (by omega) (by omega) (by omega) t1.symm hP rfl) ?_;have u1 : (V'.length : Int) - (U'.length : Int) = ((V'.take (V'.length - U'.length)).length : Nat) := by omega
     simp (disch := omega) only [go_sem];refine Al (x := (P, U', V', S)) (P, V'.drop (V'.length - U'.length), V'.take (V'.length - U'.length), U' ++ S) _ _ rfl ⟨?_, ?_, ?_, ?_, ?_⟩ ?_ ?_ ?_
     · simp only; omega
     · simp only; omega
     · simp only; omega
     · rw [h4]; simp only
       conv => lhs; rw [← t3]
       simp only [List.append_assoc]
     · simp only [List.length_append]; omega
     · simp only; omega
     · (try simp only [Lc, Lb, La, K9, K8, K7, K6, K5]); simp (disch := omega) only [u1, t1, go_sem]
     · simp (disch := omega) only [go_sem]
theorem Dh {a b : List UInt8} : Ee a b < 0 ↔ Op.bytesLess a b = true := by
 unfold Ee;split
 · rename_i h; simp [h]
 · rename_i h;split <;> simp [h]
theorem Px {S : List Ent} {x : Ent} {q : Nat} (hS : B9 S) (h1 : ∀ y ∈ S.take q, C9 y x) (h2 : ∀ y ∈ S.drop q, C9 x y) : B9 (Fc S x q) := by
 unfold Fc;refine List.pairwise_append.2 ⟨hS.sublist (List.take_sublist _ _), List.pairwise_cons.2 ⟨h2, hS.sublist (List.drop_sublist _ _)⟩, fun y hy z hz => ?_⟩;rcases List.mem_cons.1 hz with rfl | hz
 · exact h1 y hy
 · have := hS;rw [← List.take_append_drop q S] at this;exact (List.pairwise_append.1 this).2.2 y hy z hz
theorem Cx (l : List Ent) : (Ap l).length = l.length := (A8 l).length_eq
theorem D1 {l : List Ent} {y : Ent} : y ∈ Ap l ↔ y ∈ l := (A8 l).mem_iff
theorem Zo {K : List Ent} {k q : Nat} {x : Ent} (hx : K[k]? = some x) (hK : Dif K) (h : B9 (Fc (Ap (K.take k)) x q)) : Fc (Ap (K.take k)) x q = Ap (K.take (k + 1)) := by
 refine E4 h (List.Pairwise.sublist (List.take_sublist _ _) hK) ?_;have e : K.take (k + 1) = K.take k ++ [x] := by rw [List.take_add_one, hx]; rfl
 rw [e];exact (M1 _ _ _).trans (((A8 _).cons x).trans (List.perm_append_singleton x _).symm)
def Yh (A K B : List Ent) (k : Nat) : FS := mk [(8, .pv (.i .i64 ((A.length + k : Nat) : Int))), (0, .os 900), (1, .pv (.i .i64 A.length)), (2, .pv (.i .i64 ((A.length + K.length : Nat) : Int))), (3, .fn (.func 38) []), (1000000, .os 900)] [(900, some (.row 15 ((A ++ (Ap (K.take k) ++ (K.drop k ++ B))).map Ai)))]
def Ue (A S T : List Ent) (x : Ent) (b k q : Nat) : FS := mk [(9, .pv (.i .i64 ((A.length + q : Nat) : Int))), (8, .pv (.i .i64 ((A.length + k : Nat) : Int))), (0, .os 900), (1, .pv (.i .i64 A.length)), (2, .pv (.i .i64 ((b : Nat) : Int))), (3, .fn (.func 38) []), (1000000, .os 900)] [(900, some (.row 15 ((A ++ (Fc S x q ++ T)).map Ai)))]
set_option maxHeartbeats 1000000 in
theorem J2 {A K B L M : List Ent} {a b : Int} {h d} (hL : L = A ++ (K ++ B)) (hM : M = A ++ (Ap K ++ B)) (ha : a = A.length) (hb : b = ((A.length + K.length : Nat) : Int)) (hK : Eb K) (hsz : L.length ≤ 1000)
 (hg : h 900 = some (.row 15 (L.map Ai))) : FunOk Tryd.prog 67 [.os 900, .pv (.i .i64 a), .pv (.i .i64 b), fIn] h d (.tup []) [.upd 900 (.row 15 (M.map Ai))] := by
 subst ha hb hL hM;unfold fIn;refine Hh (g := 900) mixed fn67 (by simp) (by simp [Ax, tn]) (by simp [Ax, tn]) hg rfl (by simp [Blk.ptr, SV.kill]) rfl (fun _ => rfl) fun F => ?_;have hl : A.length + K.length + B.length ≤ 1000 := by simp at hsz; omega
 have e1 : Ap (K.take 1) ++ (K.drop 1 ++ B) = K ++ B := by
  cases K with
  | nil => rfl
  | cons x K => rfl
 simp (disch := omega) only [ir67, Blk.ptr, go_sem];refine Aw mixed (Yh A K B) (fun k => 1 ≤ k ∧ (k ≤ K.length ∨ k = 1)) (fun k => K.length + 1 - k) 1 ⟨by omega, .inr rfl⟩ (Ar ?_ ?_) fun k hk => ?_
 · simp (disch := omega) only [go_sem]
 · simp (disch := omega) only [e1, go_sem]
 by_cases hlt : k < K.length
 · have hx : K[k]? = some K[k] := List.getElem?_eq_getElem hlt;have hd : K.drop k = K[k] :: K.drop (k + 1) := List.drop_eq_getElem_cons hlt;generalize K[k] = x at hx hd;have hS := Bw (E5 (List.Pairwise.sublist (List.take_sublist k K) hK));have hSl : (Ap (K.take k)).length = k := by rw [Cx, List.length_take]; omega
   have hid : ∀ y ∈ Ap (K.take k), El y.id x.id = true := fun y hy => by
    have hK' := hK;rw [← List.take_append_drop k K, hd] at hK';exact (List.pairwise_append.1 hK').2.2 y (D1.1 hy) x List.mem_cons_self
   have hfin := fun q => Zo (q := q) hx (E5 hK);generalize hSe : Ap (K.take k) = S at *;have e0 : S ++ (K.drop k ++ B) = Fc S x k ++ (K.drop (k + 1) ++ B) := by
    unfold Fc;rw [hd, ← hSl, List.take_length, List.drop_length]; simp
   have hT : (K.drop (k + 1) ++ B).length = K.length - (k + 1) + B.length := by simp
   have hlen : ∀ q, (A ++ (Fc S x q ++ (K.drop (k + 1) ++ B))).length = A.length + K.length + B.length := fun q => by
    rw [List.length_append, List.length_append, hT, Py]; omega
   simp (disch := omega) only [Yh, go_sem];refine Aw mixed (Ue A S (K.drop (k + 1) ++ B) x (A.length + K.length) k) (fun q => q ≤ k ∧ ∀ y ∈ S.drop q, C9 x y) (fun q => q) k ⟨Nat.le_refl _, fun y hy => by rw [← hSl, List.drop_length] at hy; cases hy⟩ (Ar ?_ ?_) fun q hq => ?_
   · simp (disch := omega) only [go_sem]
   · simp (disch := omega) only [hSe, e0, go_sem]
   obtain ⟨hqk, hq⟩ := hq;have done : (∀ y ∈ S.take q, C9 y x) → A ++ (Fc S x q ++ (K.drop (k + 1) ++ B)) = A ++ (Ap (K.take (k + 1)) ++ (K.drop (k + 1) ++ B)) := fun hh => by rw [hfin q (Px hS hh hq)]
   rcases q with _ | p
   · have e2 := done (by simp);simp (disch := omega) only [Ue, go_sem];refine Al (x := k) (k + 1) _ _ rfl ⟨by omega, .inl (by omega)⟩ (by omega) ?_ ?_
     · simp (disch := omega) only [go_sem]
     · simp (disch := omega) only [e2, go_sem]
   · have hs : S[p]? = some S[p] := List.getElem?_eq_getElem (by omega);have hsm : S[p] ∈ S := List.getElem_mem _;have hdp : S.drop p = S[p] :: S.drop (p + 1) := List.drop_eq_getElem_cons (by omega);have htp : S.take (p + 1) = S.take p ++ [S[p]] := by rw [List.take_add_one, hs]; rfl
     have hsx : El (S[p]).id x.id = true := hid _ hsm;generalize S[p] = s at hs hsm hdp htp hsx;obtain ⟨q1, q2, q3, q4, q5, q6, q7, q8⟩ := Mz A S (K.drop (k + 1) ++ B) x s hs rfl;have g1 := Eo q3 (j := ((A.length + (p + 1) : Nat) : Int) - 1) (by omega);have g2 := Eo q4 (j := ((A.length + (p + 1) : Nat) : Int)) (by omega);rw [Int.toNat_natCast] at g2;have g3 := Jf q8 (i' := ((A.length + (p + 1) : Nat) : Int)) (j' := ((A.length + (p + 1) : Nat) : Int) - 1) (by omega) (by omega);rw [Int.toNat_natCast] at g3;have hcx := Aq x;have hcs := Aq s;have hk' := hlen (p + 1);by_cases hc : C9 x s
     · have hc' : (Ee x.name s.name < 0) = True := eq_true (Dh.2 ((Ca hsx).1 hc));simp (disch := omega) only [Ue, g1, g2, List.length_set, List.length_map, hk', Bf, go_sem];refine Ab (Mx _ _) ?_;simp (disch := omega) only [hc', g1, g2, List.length_set, List.length_map, hk', Bf, go_sem];refine Al (x := p + 1) p _ _ rfl ⟨by omega, fun y hy => ?_⟩ (by omega) ?_ ?_
       · rw [hdp] at hy;rcases List.mem_cons.1 hy with rfl | hy
         · exact hc
         · exact hq y hy
       · simp (disch := omega) only [go_sem]
       · simp (disch := omega) only [g3, go_sem]
     · have hc' : (Ee x.name s.name < 0) = False := eq_false fun h => hc ((Ca hsx).2 (Dh.1 h));have hsx' : C9 s x := Pv hc fun e => by rw [e] at hsx; exact Dx hsx
       have e2 := done fun y hy => by
        rw [htp] at hy;rcases List.mem_append.1 hy with hy | hy
        · refine Fb ?_ hsx';have h' := hS;rw [← List.take_append_drop p S, hdp] at h';exact (List.pairwise_append.1 h').2.2 y hy s List.mem_cons_self
        · rw [List.mem_singleton.1 hy]; exact hsx'
       simp (disch := omega) only [Ue, g1, g2, List.length_set, List.length_map, hk', Bf, go_sem];refine Ab (Mx _ _) ?_;simp (disch := omega) only [hc', go_sem];refine Al (x := k) (k + 1) _ _ rfl ⟨by omega, .inl (by omega)⟩ (by omega) ?_ ?_
       · simp (disch := omega) only [go_sem]
       · simp (disch := omega) only [e2, go_sem]
 · have e2 : A ++ (Ap (K.take k) ++ (K.drop k ++ B)) = A ++ (Ap K ++ B) := by
    rw [List.take_of_length_le (by omega), List.drop_eq_nil_of_le (by omega)]; rfl
   simp (disch := omega) only [Yh, e2, go_sem];refine C4 ?_;simp (disch := omega) only [go_sem];rfl
structure MrgIn (L R : List Ent) : Prop where
 l1 : 1 ≤ L.length
 r1 : 1 ≤ R.length
 sl : B9 L
 sr : B9 R
 dif : Dif (L ++ R)
 crs : ∀ x ∈ L, ∀ y ∈ R, El x.id y.id = true
theorem Pg {R : List Ent} (hR : B9 R) {h : Nat} {v x : Ent} (hv : R[h]? = some v) (hx : C9 v x) : ∀ y ∈ R.take (h + 1), C9 y x := fun y hy => by
 have hlt : h < R.length := (List.getElem?_eq_some_iff.1 hv).1;have hd : R.drop h = v :: R.drop (h + 1) := by
  rw [List.drop_eq_getElem_cons hlt]; congr 1; exact (List.getElem?_eq_some_iff.1 hv).2
 have e : R.take (h + 1) = R.take h ++ [v] := by rw [List.take_add_one, hv]; rfl
 rw [e] at hy;rcases List.mem_append.1 hy with hy | hy
 · have h' := hR;rw [← List.take_append_drop h R, hd] at h';exact Fb ((List.pairwise_append.1 h').2.2 y hy v List.mem_cons_self) hx
 · rw [List.mem_singleton.1 hy]; exact hx
theorem Qh {R : List Ent} (hR : B9 R) {h : Nat} {v x : Ent} (hv : R[h]? = some v) (hx : C9 x v) : ∀ y ∈ R.drop h, C9 x y := fun y hy => by
 have hlt : h < R.length := (List.getElem?_eq_some_iff.1 hv).1;have hd : R.drop h = v :: R.drop (h + 1) := by
  rw [List.drop_eq_getElem_cons hlt]; congr 1; exact (List.getElem?_eq_some_iff.1 hv).2
 have h' : B9 (R.drop h) := hR.sublist (List.drop_sublist _ _);rw [hd] at hy h';rcases List.mem_cons.1 hy with rfl | hy
 · exact hx
 · exact Fb hx ((List.pairwise_cons.1 h').1 y hy)
theorem Hj {L R : List Ent} (hL : B9 L) (hR : B9 R) {i j : Nat} {x y : Ent} (hx : L[i]? = some x) (hy : R[j]? = some y) (h : C9 x y) : ∀ u ∈ L.take (i + 1), ∀ v ∈ R.drop j, C9 u v :=
 fun u hu v hv => Pg hL hx (Qh hR hy h v hv) u hu
theorem MrgIn.lt {L R : List Ent} (h : MrgIn L R) {x y : Ent} (hx : x ∈ L) (hy : y ∈ R) (hn : ¬ C9 y x) : C9 x y := by
 refine Pv hn fun e => ?_;have := h.crs x hx y hy;rw [e] at this; exact Dx this
theorem Anx {x : Ent} {R : List Ent} (h : MrgIn [x] R) {p : Nat} (h1 : ∀ y ∈ R.take p, C9 y x) (h2 : ∀ y ∈ R.drop p, C9 x y) : Fc R x p = Ap ([x] ++ R) :=
 E4 (Px h.sr h1 h2) h.dif (M1 _ _ _)
theorem Anw {y : Ent} {L : List Ent} (h : MrgIn L [y]) {p : Nat} (h1 : ∀ x ∈ L.take p, C9 x y) (h2 : ∀ x ∈ L.drop p, C9 y x) : Fc L y p = Ap (L ++ [y]) :=
 E4 (Px h.sl h1 h2) h.dif ((M1 _ _ _).trans (List.perm_append_singleton y L).symm)
theorem Pz {L R : List Ent} (s t : Nat) : (L.take s ++ R.take t).Sublist (L ++ R) := (List.take_sublist _ _).append (List.take_sublist _ _)
theorem M2 {L R : List Ent} (s t : Nat) : (L.drop s ++ R.drop t).Sublist (L ++ R) := (List.drop_sublist _ _).append (List.drop_sublist _ _)
theorem MrgIn.fst {L R : List Ent} (h : MrgIn L R) {s t : Nat} (hs : 0 < s) (ht : 0 < t) : MrgIn (L.take s) (R.take t) :=
 ⟨by have := h.l1; rw [List.length_take]; omega, by have := h.r1; rw [List.length_take]; omega, h.sl.sublist (List.take_sublist _ _), h.sr.sublist (List.take_sublist _ _), List.Pairwise.sublist (Pz s t) h.dif,
  fun x hx y hy => h.crs x (List.mem_of_mem_take hx) y (List.mem_of_mem_take hy)⟩
theorem MrgIn.snd {L R : List Ent} (h : MrgIn L R) {s t : Nat} (hs : s < L.length) (ht : t < R.length) : MrgIn (L.drop s) (R.drop t) :=
 ⟨by rw [List.length_drop]; omega, by rw [List.length_drop]; omega, h.sl.sublist (List.drop_sublist _ _), h.sr.sublist (List.drop_sublist _ _), List.Pairwise.sublist (M2 s t) h.dif,
  fun x hx y hy => h.crs x (List.mem_of_mem_drop hx) y (List.mem_of_mem_drop hy)⟩
theorem Akp {α : Type} (a b c d : List α) : ((a ++ c) ++ (b ++ d)).Perm ((a ++ b) ++ (c ++ d)) := by
 simp only [List.append_assoc];refine List.Perm.append_left a ?_;rw [← List.append_assoc, ← List.append_assoc];exact List.Perm.append_right d List.perm_append_comm
theorem Aln {L R : List Ent} (h : MrgIn L R) {s t : Nat} (h1 : ∀ x ∈ L.take s, ∀ y ∈ R.drop t, C9 x y) (h2 : ∀ y ∈ R.take t, ∀ x ∈ L.drop s, C9 y x) :
 Ap (L.take s ++ R.take t) ++ Ap (L.drop s ++ R.drop t) = Ap (L ++ R) := by
 refine E4 (Vq (Bw (List.Pairwise.sublist (Pz s t) h.dif)) (Bw (List.Pairwise.sublist (M2 s t) h.dif)) fun x hx y hy => ?_) h.dif ?_
 · have sL := h.sl;rw [← List.take_append_drop s L] at sL;have sR := h.sr;rw [← List.take_append_drop t R] at sR;rcases List.mem_append.1 (D1.1 hx) with hx | hx <;> rcases List.mem_append.1 (D1.1 hy) with hy | hy
   · exact (List.pairwise_append.1 sL).2.2 x hx y hy
   · exact h1 x hx y hy
   · exact h2 x hx y hy
   · exact (List.pairwise_append.1 sR).2.2 x hx y hy
 · refine ((A8 _).append (A8 _)).trans ((Akp _ _ _ _).trans ?_);rw [List.take_append_drop, List.take_append_drop]
theorem Zq {L R : List Ent} (h : MrgIn L R) {s t : Nat} (hst : ¬ (0 < s ∧ 0 < t)) : Ap (L.take s ++ R.take t) = L.take s ++ R.take t := by
 refine Mh ?_ (List.Pairwise.sublist (Pz s t) h.dif);rcases Nat.eq_zero_or_pos s with rfl | hs
 · exact h.sr.sublist (List.take_sublist _ _)
 · rcases Nat.eq_zero_or_pos t with rfl | ht
   · rw [List.take_zero, List.append_nil]; exact h.sl.sublist (List.take_sublist _ _)
   · exact absurd ⟨hs, ht⟩ hst
theorem Zp {L R : List Ent} (h : MrgIn L R) {s t : Nat} (hst : ¬ (s < L.length ∧ t < R.length)) : Ap (L.drop s ++ R.drop t) = L.drop s ++ R.drop t := by
 refine Mh ?_ (List.Pairwise.sublist (M2 s t) h.dif);by_cases hs : s < L.length
 · have e : R.drop t = [] := List.drop_eq_nil_of_le (Nat.le_of_not_lt fun ht => hst ⟨hs, ht⟩);rw [e, List.append_nil]; exact h.sl.sublist (List.drop_sublist _ _)
 · have e : L.drop s = [] := List.drop_eq_nil_of_le (by omega);rw [e]; exact h.sr.sublist (List.drop_sublist _ _)
theorem Afo {L R : List Ent} {s t : Nat} (hst : ¬ (s < L.length ∧ 0 < t)) (A B : List Ent) : A ++ (L ++ (R ++ B)) = A ++ (L.take s ++ (R.take t ++ (L.drop s ++ (R.drop t ++ B)))) := by
 by_cases hs : s < L.length
 · obtain rfl : t = 0 := Nat.eq_zero_of_not_pos fun ht => hst ⟨hs, ht⟩;rw [List.take_zero, List.drop_zero, List.nil_append, ← List.append_assoc (L.take s), List.take_append_drop]
 · have e : L.drop s = [] := List.drop_eq_nil_of_le (by omega);have e' : L.take s = L := List.take_of_length_le (by omega);rw [e, e', List.nil_append, ← List.append_assoc (R.take t), List.take_append_drop]
theorem Afn {L R : List Ent} (s t : Nat) (A B : List Ent) : A ++ (L ++ (R ++ B)) = (A ++ L.take s) ++ (L.drop s ++ (R.take t ++ (R.drop t ++ B))) := by
 rw [← List.append_assoc (R.take t), List.take_append_drop, List.append_assoc, ← List.append_assoc (L.take s), List.take_append_drop]
def Afz (n : Nat) : Prop := ∀ {A L R B W M : List Ent} {a m b : Int} {h d}, L.length + R.length = n → W = A ++ (L ++ (R ++ B)) → M = A ++ (Ap (L ++ R) ++ B) → a = A.length → m = ((A.length + L.length : Nat) : Int) → b = ((A.length + L.length + R.length : Nat) : Int) → MrgIn L R → W.length ≤ 1000 →
 h 900 = some (.row 15 (W.map Ai)) → FunOk Tryd.prog 68 [.os 900, .pv (.i .i64 a), .pv (.i .i64 m), .pv (.i .i64 b), .fn (.func 38) []] h d (.tup []) [.upd 900 (.row 15 (M.map Ai))]
def Agk (a m : Nat) (W : List Ent) (p : Nat × Nat) : FS := mk [(10, .pv (.i .i64 ((m + p.1 : Nat) : Int))), (11, .pv (.i .i64 ((m + p.2 : Nat) : Int))), (0, .os 900), (1, .pv (.i .i64 a)), (4, .fn (.func 38) []), (1000000, .os 900)] [(900, some (.row 15 (W.map Ai)))]
def Agj (A B R : List Ent) (x : Ent) (e : Nat) (t : Nat) : FS := mk [(13, .pv (.i .i64 ((A.length + t : Nat) : Int))), (10, .pv (.i .i64 ((e : Nat) : Int))), (0, .os 900), (1000000, .os 900)] [(900, some (.row 15 ((A ++ (Fc R x t ++ B)).map Ai)))]
def Agi (a m : Nat) (W : List Ent) (p : Nat × Nat) : FS := mk [(14, .pv (.i .i64 ((a + p.1 : Nat) : Int))), (15, .pv (.i .i64 ((a + p.2 : Nat) : Int))), (0, .os 900), (2, .pv (.i .i64 m)), (4, .fn (.func 38) []), (1000000, .os 900)] [(900, some (.row 15 (W.map Ai)))]
def Agh (A B L : List Ent) (y : Ent) (e : Nat) (t : Nat) : FS := mk [(17, .pv (.i .i64 ((A.length + t : Nat) : Int))), (14, .pv (.i .i64 ((e : Nat) : Int))), (0, .os 900), (1000000, .os 900)] [(900, some (.row 15 ((A ++ (Fc L y t ++ B)).map Ai)))]
def Ju (a m b g : Nat) (W : List Ent) (p : Nat × Nat) : FS := mk [(20, .pv (.i .i64 ((a + p.1 : Nat) : Int))), (21, .pv (.i .i64 ((a + p.2 : Nat) : Int))), (22, .pv (.i .i64 (((a + g : Nat) : Int) + (m : Int) - 1))), (19, .pv (.i .i64 (((a + g : Nat) : Int) + (m : Int)))), (18, .pv (.i .i64 ((a + g : Nat) : Int))), (0, .os 900), (1, .pv (.i .i64 a)), (2, .pv (.i .i64 m)), (3, .pv (.i .i64 b)), (4, .fn (.func 38) []), (1000000, .os 900)] [(900, some (.row 15 (W.map Ai)))]
structure SrchJ (L R : List Ent) (g s0 r0 : Nat) (p : Nat × Nat) : Prop where
 p0 : s0 ≤ p.1
 p1 : p.1 ≤ p.2
 p2 : p.2 ≤ r0
 p3 : s0 < p.1 → ∃ x y, L[p.1 - 1]? = some x ∧ R[g - p.1]? = some y ∧ C9 x y
 p4 : p.2 < r0 → ∃ x y, L[p.2]? = some x ∧ R[g - 1 - p.2]? = some y ∧ C9 y x
theorem Afv (a b : Nat) : ((a : Int) + (b : Int)).fdiv (2 ^ min (Int.toNat 1) 64) = (((a + b) / 2 : Nat) : Int) := by
 rw [show (2 : Int) ^ min (Int.toNat 1) 64 = 2 from rfl, Int.fdiv_eq_ediv_of_nonneg _ (by omega)]; omega
theorem U6 (m a b : Nat) : (((m + a : Nat) : Int) + ((m + b : Nat) : Int)).fdiv (2 ^ min (Int.toNat 1) 64) = ((m + (a + b) / 2 : Nat) : Int) := by
 rw [Afv]; congr 1; omega
theorem Ql {α : Type} {A L B : List α} {i : Nat} {x : α} (h : L[i]? = some x) : (A ++ (L ++ B))[A.length + i]? = some x := by
 have := (List.getElem?_eq_some_iff.1 h).1;rw [List.getElem?_append_right (by omega), List.getElem?_append_left (by omega), ← h]; congr 1; omega
theorem Nw {α : Type} {A L R B : List α} {i : Nat} {x : α} (h : R[i]? = some x) : (A ++ (L ++ (R ++ B)))[A.length + L.length + i]? = some x := by
 rw [← List.append_assoc A L, show A.length + L.length = (A ++ L).length by simp]; exact Ql h
theorem Ek {l : List Ent} {i : Nat} {x : Ent} (h : l[i]? = some x) : (l.map Ai)[i]? = some (Ai x) := by rw [List.getElem?_map, h]; rfl
set_option maxHeartbeats 4000000 in
theorem Ut (n : Nat) : Afz n := by
 refine Nat.strongRecOn (motive := Afz) n fun n IH => ?_;intro A L R B W M a m b h d hn hW hM ha hm hb hI hsz hg;subst ha hm hb hn;refine Hh (g := 900) mixed fn68 (by simp) (by simp [Ax, tn]) (by simp [Ax, tn]) hg rfl (by simp [Blk.ptr, SV.kill]) rfl (fun _ => rfl) fun F => ?_;have hl : A.length + L.length + R.length + B.length ≤ 1000 := by rw [hW] at hsz; simp at hsz; omega
 have hWl : W.length = A.length + L.length + R.length + B.length := by rw [hW]; simp; omega
 have l1 := hI.l1;have r1 := hI.r1;by_cases c1 : L.length = 1
 · obtain ⟨x, hLx⟩ : ∃ x, L = [x] := by
    match L, c1 with
    | [x], _ => exact ⟨x, rfl⟩
   have gx := Ek (l := W) (i := A.length) (x := x) (by rw [hW, hLx]; exact P7 A x _);have hMv : ∀ p, (∀ y ∈ R.take p, C9 y x) → (∀ y ∈ R.drop p, C9 x y) → A ++ (Fc R x p ++ B) = M := fun p h1 h2 => by rw [hLx] at hM hI; rw [Anx hI h1 h2, hM]
   have eW : W = A ++ (Fc R x 0 ++ B) := by rw [hW, hLx]; rfl
   have gy : ∀ k v, R[k]? = some v → W[A.length + L.length + k]? = some v := fun k v hv => by rw [hW]; exact Nw hv
   have hsr := hI.sr;have mx : x ∈ L := by rw [hLx]; exact List.mem_cons_self
   have hlt : ∀ y ∈ R, ¬ C9 y x → C9 x y := fun y hy q => hI.lt mx hy q;have hid : ∀ y ∈ R, El x.id y.id = true := fun y hy => hI.crs x mx y hy;simp (disch := omega) only [ir68, Blk.ptr, go_sem];refine Aw mixed (Agk A.length (A.length + L.length) W) (fun p => p.1 ≤ p.2 ∧ p.2 ≤ R.length ∧ (∀ y ∈ R.take p.1, C9 y x) ∧ ∀ y ∈ R.drop p.2, C9 x y) (fun p => p.2 - p.1) (0, R.length) ⟨by simp, by simp, by simp, by simp⟩ (Ar ?_ ?_) fun p hp => ?_
   · (try simp only [Lc, Lb, La, K9, K8, K7, K6, K5]); simp (disch := omega) only [go_sem]
   · simp (disch := omega) only [go_sem]
   obtain ⟨p, q⟩ := p;obtain ⟨p1, p2, p3, p4⟩ := hp;simp only at p1 p2 p3 p4;by_cases hpq : p < q
   · have hm : (p + q) / 2 < R.length := by omega
     have hv : R[(p + q) / 2]? = some R[(p + q) / 2] := List.getElem?_eq_getElem hm;have hvm : R[(p + q) / 2] ∈ R := List.getElem_mem _;have e1 := U6 (A.length + L.length) p q;have m1 : p ≤ (p + q) / 2 := by omega
     have m2 : (p + q) / 2 < q := by omega
     generalize R[(p + q) / 2] = v at *;generalize (p + q) / 2 = k at *;have gv := Ek (gy k v hv);have hcx := Aq x;have hcv := Aq v;simp (disch := omega) only [Agk, e1, gv, gx, List.length_map, hWl, Bf, go_sem];refine Ab (Mx _ _) ?_;by_cases hc : C9 v x
     · have hc' : (Ee v.name x.name < 0) = True := eq_true (Dh.2 ((Ca (hid v hvm)).1 hc));simp (disch := omega) only [hc', go_sem];refine Al (x := (p, q)) (k + 1, q) _ _ rfl ⟨by show k + 1 ≤ q; omega, p2, Pg hsr hv hc, p4⟩ (by show q - (k + 1) < q - p; omega) ?_ ?_
       · (try simp only [Lc, Lb, La, K9, K8, K7, K6, K5]); simp (disch := omega) only [go_sem]
       · simp (disch := omega) only [go_sem]
     · have hc' : (Ee v.name x.name < 0) = False := eq_false fun h => hc ((Ca (hid v hvm)).2 (Dh.1 h));simp (disch := omega) only [hc', go_sem];refine Al (x := (p, q)) (p, k) _ _ rfl ⟨by show p ≤ k; omega, by show k ≤ _; omega, p3, Qh hsr hv (hlt v hvm hc)⟩ (by show k - p < q - p; omega) ?_ ?_
       · (try simp only [Lc, Lb, La, K9, K8, K7, K6, K5]); simp (disch := omega) only [go_sem]
       · simp (disch := omega) only [go_sem]
   · obtain rfl : p = q := by omega
     have eM := hMv p p3 p4;simp (disch := omega) only [Agk, go_sem];refine Aw mixed (Agj A B R x (A.length + L.length + p)) (fun t => t ≤ p) (fun t => p - t) 0 (Nat.zero_le _) (Ar ?_ ?_) fun t ht => ?_
     · simp (disch := omega) only [go_sem]
     · simp (disch := omega) only [eW, go_sem]
     by_cases htp : t < p
     · have hs : R[t]? = some R[t] := List.getElem?_eq_getElem (by omega);generalize R[t] = s at hs;obtain ⟨q1, q2, q3, q4, q5, q6, q7, q8⟩ := Mz A R B x s hs rfl;have g1 := Ek q1;have g2 := Eo q2 (j := ((A.length + t : Nat) : Int) + 1) (by omega);have g3 := Jf q5 (i' := ((A.length + t : Nat) : Int)) (j' := ((A.length + t : Nat) : Int) + 1) (by omega) (by omega);rw [Int.toNat_natCast] at g3;have hk' : (A ++ (Fc R x t ++ B)).length = A.length + L.length + R.length + B.length := by rw [List.length_append, List.length_append, Py]; omega
       have hcx := Aq x;have hcs := Aq s;simp (disch := omega) only [Agj, g1, g2, List.length_set, List.length_map, hk', Bf, go_sem];refine Al (x := t) (t + 1) _ _ rfl (by omega) (by omega) ?_ ?_
       · simp (disch := omega) only [go_sem]
       · simp (disch := omega) only [g3, go_sem]
     · obtain rfl : t = p := by omega
       simp (disch := omega) only [Agj, eM, go_sem];refine C4 ?_;simp (disch := omega) only [go_sem];rfl
 by_cases c2 : R.length = 1
 · obtain ⟨y, hRy⟩ : ∃ y, R = [y] := by
    match R, c2 with
    | [y], _ => exact ⟨y, rfl⟩
   have gy := Ek (l := W) (i := A.length + L.length) (x := y) (by rw [hW, hRy]; exact Nw (R := [y]) (i := 0) rfl);have hMv : ∀ p, (∀ x ∈ L.take p, C9 x y) → (∀ x ∈ L.drop p, C9 y x) → A ++ (Fc L y p ++ B) = M := fun p h1 h2 => by rw [hRy] at hM hI; rw [Anw hI h1 h2, hM]
   have eW : W = A ++ (Fc L y L.length ++ B) := by rw [hW, hRy]; unfold Fc; rw [List.take_length, List.drop_length, List.append_assoc]
   have gx : ∀ k v, L[k]? = some v → W[A.length + k]? = some v := fun k v hv => by rw [hW]; exact Ql hv
   have hsl := hI.sl;have my : y ∈ R := by rw [hRy]; exact List.mem_cons_self
   have hlt : ∀ x ∈ L, ¬ C9 y x → C9 x y := fun x hx q => hI.lt hx my q;have hid : ∀ x ∈ L, El x.id y.id = true := fun x hx => hI.crs x hx y my;simp (disch := omega) only [ir68, Blk.ptr, go_sem];refine Aw mixed (Agi A.length (A.length + L.length) W) (fun p => p.1 ≤ p.2 ∧ p.2 ≤ L.length ∧ (∀ x ∈ L.take p.1, C9 x y) ∧ ∀ x ∈ L.drop p.2, C9 y x) (fun p => p.2 - p.1) (0, L.length) ⟨by simp, by simp, by simp, by simp⟩ (Ar ?_ ?_) fun p hp => ?_
   · (try simp only [Lc, Lb, La, K9, K8, K7, K6, K5]); simp (disch := omega) only [go_sem]
   · simp (disch := omega) only [go_sem]
   obtain ⟨p, q⟩ := p;obtain ⟨p1, p2, p3, p4⟩ := hp;simp only at p1 p2 p3 p4;by_cases hpq : p < q
   · have hm : (p + q) / 2 < L.length := by omega
     have hv : L[(p + q) / 2]? = some L[(p + q) / 2] := List.getElem?_eq_getElem hm;have hvm : L[(p + q) / 2] ∈ L := List.getElem_mem _;have e1 := U6 A.length p q;have m1 : p ≤ (p + q) / 2 := by omega
     have m2 : (p + q) / 2 < q := by omega
     generalize L[(p + q) / 2] = v at *;generalize (p + q) / 2 = k at *;have gv := Ek (gx k v hv);have hcy := Aq y;have hcv := Aq v;simp (disch := omega) only [Agi, e1, gv, gy, List.length_map, hWl, Bf, go_sem];refine Ab (Mx _ _) ?_;by_cases hc : C9 y v
     · have hc' : (Ee y.name v.name < 0) = True := eq_true (Dh.2 ((Ca (hid v hvm)).1 hc));simp (disch := omega) only [hc', go_sem];refine Al (x := (p, q)) (p, k) _ _ rfl ⟨by show p ≤ k; omega, by show k ≤ _; omega, p3, Qh hsl hv hc⟩ (by show k - p < q - p; omega) ?_ ?_
       · (try simp only [Lc, Lb, La, K9, K8, K7, K6, K5]); simp (disch := omega) only [go_sem]
       · simp (disch := omega) only [go_sem]
     · have hc' : (Ee y.name v.name < 0) = False := eq_false fun h => hc ((Ca (hid v hvm)).2 (Dh.1 h));simp (disch := omega) only [hc', go_sem];refine Al (x := (p, q)) (k + 1, q) _ _ rfl ⟨by show k + 1 ≤ q; omega, p2, Pg hsl hv (hlt v hvm hc), p4⟩ (by show q - (k + 1) < q - p; omega) ?_ ?_
       · (try simp only [Lc, Lb, La, K9, K8, K7, K6, K5]); simp (disch := omega) only [go_sem]
       · simp (disch := omega) only [go_sem]
   · obtain rfl : p = q := by omega
     have eM := hMv p p3 p4;simp (disch := omega) only [Agi, go_sem];refine Aw mixed (Agh A B L y (A.length + p)) (fun t => p ≤ t ∧ t ≤ L.length) (fun t => t) L.length ⟨p2, Nat.le_refl _⟩ (Ar ?_ ?_) fun t ht => ?_
     · simp (disch := omega) only [go_sem]
     · simp (disch := omega) only [eW, go_sem]
     by_cases htp : p < t
     · obtain ⟨u, rfl⟩ : ∃ u, t = u + 1 := ⟨t - 1, by omega⟩
       have hs : L[u]? = some L[u] := List.getElem?_eq_getElem (by omega);generalize L[u] = s at hs;obtain ⟨q1, q2, q3, q4, q5, q6, q7, q8⟩ := Mz A L B y s hs rfl;have g1 := Eo q3 (j := ((A.length + (u + 1) : Nat) : Int) - 1) (by omega);have g2 := Ek q4;have g3 := Jf q8 (i' := ((A.length + (u + 1) : Nat) : Int)) (j' := ((A.length + (u + 1) : Nat) : Int) - 1) (by omega) (by omega);rw [Int.toNat_natCast] at g3;have hk' : (A ++ (Fc L y (u + 1) ++ B)).length = A.length + L.length + 1 + B.length := by rw [List.length_append, List.length_append, Py]; omega
       have g2' : ((A ++ (Fc L y (u + 1) ++ B)).map Ai)[A.length + (u + 1)]? = some (Ai y) := g2;have hcy := Aq y;have hcs := Aq s;simp (disch := omega) only [Agh, g1, g2', List.length_set, List.length_map, hk', Bf, go_sem];refine Al (x := u + 1) u _ _ rfl ⟨by omega, by omega⟩ (by omega) ?_ ?_
       · simp (disch := omega) only [go_sem]
       · simp (disch := omega) only [g3, go_sem]
     · obtain rfl : t = p := by omega
       simp (disch := omega) only [Agh, eM, go_sem];refine C4 ?_;simp (disch := omega) only [go_sem];rfl
 obtain ⟨g, hg1, hg2⟩ : ∃ g, 2 * g ≤ L.length + R.length ∧ L.length + R.length ≤ 2 * g + 1 := ⟨(L.length + R.length) / 2, by omega, by omega⟩
 have e0 : ((A.length : Int) + ((A.length + L.length + R.length : Nat) : Int)).fdiv (2 ^ min (Int.toNat 1) 64) = ((A.length + g : Nat) : Int) := by
  rw [Afv]; congr 1; omega
 have gL : ∀ k v, L[k]? = some v → W[A.length + k]? = some v := fun k v hv => by rw [hW]; exact Ql hv
 have gR : ∀ k v, R[k]? = some v → W[A.length + L.length + k]? = some v := fun k v hv => by rw [hW]; exact Nw hv
 by_cases hlg : g < L.length
 · have e3 : ((A.length + g : Nat) : Int) + ((A.length + L.length : Nat) : Int) - ((A.length + L.length + R.length : Nat) : Int) = ((A.length + (g - R.length) : Nat) : Int) := by omega
   simp (disch := omega) only [ir68, Blk.ptr, e0, go_sem];refine Aw mixed (Ju A.length (A.length + L.length) (A.length + L.length + R.length) g W) (SrchJ L R g (g - R.length) g) (fun p => p.2 - p.1) ((g - R.length), g) ⟨Nat.le_refl _, by show (g - R.length) ≤ g; omega, Nat.le_refl _, fun q => absurd q (Nat.lt_irrefl _), fun q => absurd q (Nat.lt_irrefl _)⟩ (Ar ?_ ?_) fun p hp => ?_
   · (try simp only [Lc, Lb, La, K9, K8, K7, K6, K5]); simp (disch := omega) only [e3, go_sem]
   · simp (disch := omega) only [go_sem]
   obtain ⟨p, q⟩ := p;obtain ⟨p0, p1, p2, p3, p4⟩ := hp;simp only at p0 p1 p2 p3 p4;by_cases hpq : p < q
   · have e1 := U6 A.length p q;have m1 : p ≤ (p + q) / 2 := by omega
     have m2 : (p + q) / 2 < q := by omega
     generalize (p + q) / 2 = k at e1 m1 m2;have hkL : k < L.length := by omega
     have hkR : g - 1 - k < R.length := by omega
     have hx : L[k]? = some L[k] := List.getElem?_eq_getElem hkL;have hy : R[g - 1 - k]? = some R[g - 1 - k] := List.getElem?_eq_getElem hkR;have mx : L[k] ∈ L := List.getElem_mem _;have my : R[g - 1 - k] ∈ R := List.getElem_mem _;generalize L[k] = x at hx mx;generalize R[g - 1 - k] = y at hy my;have gx := Ek (gL k x hx);have gy := Eo (gR _ y hy) (j := ((A.length + g : Nat) : Int) + ((A.length + L.length : Nat) : Int) - 1 - ((A.length + k : Nat) : Int)) (by omega);have hcx := Aq x;have hcy := Aq y;simp (disch := omega) only [Ju, e1, gx, gy, List.length_map, hWl, Bf, go_sem];refine Ab (Mx _ _) ?_;by_cases hc : C9 y x
     · have hc' : (Ee y.name x.name < 0) = True := eq_true (Dh.2 ((Ca (hI.crs x mx y my)).1 hc));simp (disch := omega) only [hc', go_sem];refine Al (x := (p, q)) (p, k) _ _ rfl ⟨p0, by show p ≤ k; omega, by show k ≤ g; omega, p3, fun _ => ⟨x, y, hx, hy, hc⟩⟩ (by show k - p < q - p; omega) ?_ ?_
       · (try simp only [Lc, Lb, La, K9, K8, K7, K6, K5]); simp (disch := omega) only [go_sem]
       · simp (disch := omega) only [go_sem]
     · have hc' : (Ee y.name x.name < 0) = False := eq_false fun h => hc ((Ca (hI.crs x mx y my)).2 (Dh.1 h));simp (disch := omega) only [hc', go_sem];refine Al (x := (p, q)) (k + 1, q) _ _ rfl ⟨by show (g - R.length) ≤ k + 1; omega, by show k + 1 ≤ q; omega, p2, fun _ => ⟨x, y, by rw [← hx]; rfl, by rw [← hy]; show R[g - (k + 1)]? = _; congr 1; omega, hI.lt mx my hc⟩, p4⟩ (by show q - (k + 1) < q - p; omega) ?_ ?_
       · (try simp only [Lc, Lb, La, K9, K8, K7, K6, K5]); simp (disch := omega) only [go_sem]
       · simp (disch := omega) only [go_sem]
   · obtain rfl : p = q := by omega
     have h1 : ∀ x ∈ L.take p, ∀ y ∈ R.drop (g - p), C9 x y := fun x hx y hy => by
      have hp1 : 0 < p := Nat.pos_of_ne_zero fun e => by rw [e] at hx; cases hx
      have ht1 : g - p < R.length := Nat.lt_of_not_le fun e => by rw [List.drop_eq_nil_of_le e] at hy; cases hy
      obtain ⟨x', y', a1, a2, a3⟩ := p3 (by omega);exact Hj hI.sl hI.sr a1 a2 a3 x (by rwa [show p - 1 + 1 = p by omega]) y hy
     have h2 : ∀ y ∈ R.take (g - p), ∀ x ∈ L.drop p, C9 y x := fun y hy x hx => by
      have ht1 : 0 < g - p := Nat.pos_of_ne_zero fun e => by rw [e] at hy; cases hy
      have hp1 : p < L.length := Nat.lt_of_not_le fun e => by rw [List.drop_eq_nil_of_le e] at hx; cases hx
      obtain ⟨x', y', a1, a2, a3⟩ := p4 (by omega);exact Hj hI.sr hI.sl a2 a1 a3 y (by rwa [show g - 1 - p + 1 = g - p by omega]) x hx
     have eZ := Aln hI h1 h2;obtain ⟨t, ht⟩ : ∃ t, t = g - p := ⟨_, rfl⟩
     rw [← ht] at eZ;have hst : p + t = g := by omega
     have htr : t ≤ R.length := by omega
     have hpl : p ≤ L.length := by omega
     clear p3 p4 h1 h2 ht;obtain ⟨s, hs⟩ : ∃ s, s = p := ⟨_, rfl⟩
     subst hs;have k1 : (A ++ L.take s).length = A.length + s := by rw [List.length_append, List.length_take]; omega
     have k2 : (L.drop s).length = L.length - s := List.length_drop;have k3 : (R.take t).length = t := by rw [List.length_take]; omega
     have k4 : (R.drop t).length = R.length - t := List.length_drop;have k5 : (L.take s).length = s := by rw [List.length_take]; omega
     have k6 : (A ++ Ap (L.take s ++ R.take t)).length = A.length + g := by rw [List.length_append, Cx, List.length_append]; omega
     obtain ⟨W1, hW1⟩ : ∃ W1, W1 = A ++ (L.take s ++ (R.take t ++ (L.drop s ++ (R.drop t ++ B)))) := ⟨_, rfl⟩
     obtain ⟨W2, hW2⟩ : ∃ W2, W2 = A ++ (Ap (L.take s ++ R.take t) ++ (L.drop s ++ (R.drop t ++ B))) := ⟨_, rfl⟩
     have hr1 : W = (A ++ L.take s) ++ (L.drop s ++ (R.take t ++ (R.drop t ++ B))) := hW.trans (Afn s t A B);have hr2 : W1 = (A ++ L.take s) ++ (R.take t ++ (L.drop s ++ (R.drop t ++ B))) := by rw [hW1, List.append_assoc]
     have hP2 : W2 = (A ++ Ap (L.take s ++ R.take t)) ++ (L.drop s ++ (R.drop t ++ B)) := by rw [hW2, List.append_assoc]
     have hM2 : M = (A ++ Ap (L.take s ++ R.take t)) ++ (Ap (L.drop s ++ R.drop t) ++ B) := by rw [hM, ← eZ]; simp only [List.append_assoc]
     have e01 : ¬ (s < L.length ∧ 0 < t) → W = W1 := fun h => by rw [hW1, hW]; exact Afo h A B
     have e12 : ¬ (0 < s ∧ 0 < t) → W1 = W2 := fun h => by rw [hW1, hW2, Zq hI h]; simp only [List.append_assoc]
     have e2M : ¬ (s < L.length ∧ t < R.length) → W2 = M := fun h => by rw [hP2, hM2, Zp hI h]; simp only [List.append_assoc]
     have hz1 : W1.length ≤ 1000 := by rw [hr2]; simp only [List.length_append] at k1 ⊢; omega
     have hz2 : W2.length ≤ 1000 := by rw [hP2]; simp only [List.length_append] at k6 ⊢; omega
     by_cases b1 : s < L.length
     · by_cases b2 : 0 < t
       · by_cases b3 : 0 < s
         · by_cases b4 : t < R.length
           · simp (disch := omega) only [Ju, go_sem];refine Ab (J1 (A := A ++ L.take s) (U := L.drop s) (V := R.take t) (B := R.drop t ++ B) (L := W) (M := W1) hr1 hr2 (by omega) (by omega) (by omega) (by omega) (by omega) hsz rfl) ?_;simp (disch := omega) only [go_sem];refine Ab (IH (s + t) (by omega) (A := A) (L := L.take s) (R := R.take t) (B := L.drop s ++ (R.drop t ++ B)) (W := W1) (M := W2) (by omega) hW1 hW2 (by omega) (by omega) (by omega) (hI.fst b3 b2) hz1 rfl) ?_;simp (disch := omega) only [go_sem];refine Ab (IH (L.length + R.length - g) (by omega) (A := A ++ Ap (L.take s ++ R.take t)) (L := L.drop s) (R := R.drop t) (B := B) (W := W2) (M := M) (by omega) hP2 hM2 (by omega) (by omega) (by omega) (hI.snd b1 b4) hz2 rfl) ?_;simp (disch := omega) only [go_sem];refine C4 ?_;simp (disch := omega) only [go_sem];rfl
           · simp (disch := omega) only [Ju, go_sem];refine Ab (J1 (A := A ++ L.take s) (U := L.drop s) (V := R.take t) (B := R.drop t ++ B) (L := W) (M := W1) hr1 hr2 (by omega) (by omega) (by omega) (by omega) (by omega) hsz rfl) ?_;simp (disch := omega) only [go_sem];refine Ab (IH (s + t) (by omega) (A := A) (L := L.take s) (R := R.take t) (B := L.drop s ++ (R.drop t ++ B)) (W := W1) (M := W2) (by omega) hW1 hW2 (by omega) (by omega) (by omega) (hI.fst b3 b2) hz1 rfl) ?_;simp (disch := omega) only [e2M (by omega), go_sem];refine C4 ?_;simp (disch := omega) only [go_sem];rfl
         · by_cases b4 : t < R.length
           · exfalso; omega
           · simp (disch := omega) only [Ju, go_sem];refine Ab (J1 (A := A ++ L.take s) (U := L.drop s) (V := R.take t) (B := R.drop t ++ B) (L := W) (M := W1) hr1 hr2 (by omega) (by omega) (by omega) (by omega) (by omega) hsz rfl) ?_;simp (disch := omega) only [e12 (by omega), e2M (by omega), go_sem];refine C4 ?_;simp (disch := omega) only [go_sem];rfl
       · by_cases b3 : 0 < s
         · by_cases b4 : t < R.length
           · simp (disch := omega) only [Ju, e01 (by omega), e12 (by omega), go_sem];refine Ab (IH (L.length + R.length - g) (by omega) (A := A ++ Ap (L.take s ++ R.take t)) (L := L.drop s) (R := R.drop t) (B := B) (W := W2) (M := M) (by omega) hP2 hM2 (by omega) (by omega) (by omega) (hI.snd b1 b4) hz2 rfl) ?_;simp (disch := omega) only [go_sem];refine C4 ?_;simp (disch := omega) only [go_sem];rfl
           · exfalso; omega
         · by_cases b4 : t < R.length
           · exfalso; omega
           · exfalso; omega
     · by_cases b2 : 0 < t
       · by_cases b3 : 0 < s
         · by_cases b4 : t < R.length
           · exfalso; omega
           · exfalso; omega
         · by_cases b4 : t < R.length
           · exfalso; omega
           · exfalso; omega
       · by_cases b3 : 0 < s
         · by_cases b4 : t < R.length
           · exfalso; omega
           · exfalso; omega
         · by_cases b4 : t < R.length
           · exfalso; omega
           · exfalso; omega
 · simp (disch := omega) only [ir68, Blk.ptr, e0, go_sem];refine Aw mixed (Ju A.length (A.length + L.length) (A.length + L.length + R.length) g W) (SrchJ L R g 0 L.length) (fun p => p.2 - p.1) (0, L.length) ⟨Nat.le_refl _, by show 0 ≤ L.length; omega, Nat.le_refl _, fun q => absurd q (Nat.lt_irrefl _), fun q => absurd q (Nat.lt_irrefl _)⟩ (Ar ?_ ?_) fun p hp => ?_
   · (try simp only [Lc, Lb, La, K9, K8, K7, K6, K5]); simp (disch := omega) only [Nat.add_zero, go_sem]
   · simp (disch := omega) only [go_sem]
   obtain ⟨p, q⟩ := p;obtain ⟨p0, p1, p2, p3, p4⟩ := hp;simp only at p0 p1 p2 p3 p4;by_cases hpq : p < q
   · have e1 := U6 A.length p q;have m1 : p ≤ (p + q) / 2 := by omega
     have m2 : (p + q) / 2 < q := by omega
     generalize (p + q) / 2 = k at e1 m1 m2;have hkL : k < L.length := by omega
     have hkR : g - 1 - k < R.length := by omega
     have hx : L[k]? = some L[k] := List.getElem?_eq_getElem hkL;have hy : R[g - 1 - k]? = some R[g - 1 - k] := List.getElem?_eq_getElem hkR;have mx : L[k] ∈ L := List.getElem_mem _;have my : R[g - 1 - k] ∈ R := List.getElem_mem _;generalize L[k] = x at hx mx;generalize R[g - 1 - k] = y at hy my;have gx := Ek (gL k x hx);have gy := Eo (gR _ y hy) (j := ((A.length + g : Nat) : Int) + ((A.length + L.length : Nat) : Int) - 1 - ((A.length + k : Nat) : Int)) (by omega);have hcx := Aq x;have hcy := Aq y;simp (disch := omega) only [Ju, e1, gx, gy, List.length_map, hWl, Bf, go_sem];refine Ab (Mx _ _) ?_;by_cases hc : C9 y x
     · have hc' : (Ee y.name x.name < 0) = True := eq_true (Dh.2 ((Ca (hI.crs x mx y my)).1 hc));simp (disch := omega) only [hc', go_sem];refine Al (x := (p, q)) (p, k) _ _ rfl ⟨p0, by show p ≤ k; omega, by show k ≤ L.length; omega, p3, fun _ => ⟨x, y, hx, hy, hc⟩⟩ (by show k - p < q - p; omega) ?_ ?_
       · (try simp only [Lc, Lb, La, K9, K8, K7, K6, K5]); simp (disch := omega) only [go_sem]
       · simp (disch := omega) only [go_sem]
     · have hc' : (Ee y.name x.name < 0) = False := eq_false fun h => hc ((Ca (hI.crs x mx y my)).2 (Dh.1 h));simp (disch := omega) only [hc', go_sem];refine Al (x := (p, q)) (k + 1, q) _ _ rfl ⟨by show 0 ≤ k + 1; omega, by show k + 1 ≤ q; omega, p2, fun _ => ⟨x, y, by rw [← hx]; rfl, by rw [← hy]; show R[g - (k + 1)]? = _; congr 1; omega, hI.lt mx my hc⟩, p4⟩ (by show q - (k + 1) < q - p; omega) ?_ ?_
       · (try simp only [Lc, Lb, La, K9, K8, K7, K6, K5]); simp (disch := omega) only [go_sem]
       · simp (disch := omega) only [go_sem]
   · obtain rfl : p = q := by omega
     have h1 : ∀ x ∈ L.take p, ∀ y ∈ R.drop (g - p), C9 x y := fun x hx y hy => by
      have hp1 : 0 < p := Nat.pos_of_ne_zero fun e => by rw [e] at hx; cases hx
      have ht1 : g - p < R.length := Nat.lt_of_not_le fun e => by rw [List.drop_eq_nil_of_le e] at hy; cases hy
      obtain ⟨x', y', a1, a2, a3⟩ := p3 (by omega);exact Hj hI.sl hI.sr a1 a2 a3 x (by rwa [show p - 1 + 1 = p by omega]) y hy
     have h2 : ∀ y ∈ R.take (g - p), ∀ x ∈ L.drop p, C9 y x := fun y hy x hx => by
      have ht1 : 0 < g - p := Nat.pos_of_ne_zero fun e => by rw [e] at hy; cases hy
      have hp1 : p < L.length := Nat.lt_of_not_le fun e => by rw [List.drop_eq_nil_of_le e] at hx; cases hx
      obtain ⟨x', y', a1, a2, a3⟩ := p4 (by omega);exact Hj hI.sr hI.sl a2 a1 a3 y (by rwa [show g - 1 - p + 1 = g - p by omega]) x hx
     have eZ := Aln hI h1 h2;obtain ⟨t, ht⟩ : ∃ t, t = g - p := ⟨_, rfl⟩
     rw [← ht] at eZ;have hst : p + t = g := by omega
     have htr : t ≤ R.length := by omega
     have hpl : p ≤ L.length := by omega
     clear p3 p4 h1 h2 ht;obtain ⟨s, hs⟩ : ∃ s, s = p := ⟨_, rfl⟩
     subst hs;have k1 : (A ++ L.take s).length = A.length + s := by rw [List.length_append, List.length_take]; omega
     have k2 : (L.drop s).length = L.length - s := List.length_drop;have k3 : (R.take t).length = t := by rw [List.length_take]; omega
     have k4 : (R.drop t).length = R.length - t := List.length_drop;have k5 : (L.take s).length = s := by rw [List.length_take]; omega
     have k6 : (A ++ Ap (L.take s ++ R.take t)).length = A.length + g := by rw [List.length_append, Cx, List.length_append]; omega
     obtain ⟨W1, hW1⟩ : ∃ W1, W1 = A ++ (L.take s ++ (R.take t ++ (L.drop s ++ (R.drop t ++ B)))) := ⟨_, rfl⟩
     obtain ⟨W2, hW2⟩ : ∃ W2, W2 = A ++ (Ap (L.take s ++ R.take t) ++ (L.drop s ++ (R.drop t ++ B))) := ⟨_, rfl⟩
     have hr1 : W = (A ++ L.take s) ++ (L.drop s ++ (R.take t ++ (R.drop t ++ B))) := hW.trans (Afn s t A B);have hr2 : W1 = (A ++ L.take s) ++ (R.take t ++ (L.drop s ++ (R.drop t ++ B))) := by rw [hW1, List.append_assoc]
     have hP2 : W2 = (A ++ Ap (L.take s ++ R.take t)) ++ (L.drop s ++ (R.drop t ++ B)) := by rw [hW2, List.append_assoc]
     have hM2 : M = (A ++ Ap (L.take s ++ R.take t)) ++ (Ap (L.drop s ++ R.drop t) ++ B) := by rw [hM, ← eZ]; simp only [List.append_assoc]
     have e01 : ¬ (s < L.length ∧ 0 < t) → W = W1 := fun h => by rw [hW1, hW]; exact Afo h A B
     have e12 : ¬ (0 < s ∧ 0 < t) → W1 = W2 := fun h => by rw [hW1, hW2, Zq hI h]; simp only [List.append_assoc]
     have e2M : ¬ (s < L.length ∧ t < R.length) → W2 = M := fun h => by rw [hP2, hM2, Zp hI h]; simp only [List.append_assoc]
     have hz1 : W1.length ≤ 1000 := by rw [hr2]; simp only [List.length_append] at k1 ⊢; omega
     have hz2 : W2.length ≤ 1000 := by rw [hP2]; simp only [List.length_append] at k6 ⊢; omega
     by_cases b1 : s < L.length
     · by_cases b2 : 0 < t
       · by_cases b3 : 0 < s
         · by_cases b4 : t < R.length
           · simp (disch := omega) only [Ju, go_sem];refine Ab (J1 (A := A ++ L.take s) (U := L.drop s) (V := R.take t) (B := R.drop t ++ B) (L := W) (M := W1) hr1 hr2 (by omega) (by omega) (by omega) (by omega) (by omega) hsz rfl) ?_;simp (disch := omega) only [go_sem];refine Ab (IH (s + t) (by omega) (A := A) (L := L.take s) (R := R.take t) (B := L.drop s ++ (R.drop t ++ B)) (W := W1) (M := W2) (by omega) hW1 hW2 (by omega) (by omega) (by omega) (hI.fst b3 b2) hz1 rfl) ?_;simp (disch := omega) only [go_sem];refine Ab (IH (L.length + R.length - g) (by omega) (A := A ++ Ap (L.take s ++ R.take t)) (L := L.drop s) (R := R.drop t) (B := B) (W := W2) (M := M) (by omega) hP2 hM2 (by omega) (by omega) (by omega) (hI.snd b1 b4) hz2 rfl) ?_;simp (disch := omega) only [go_sem];refine C4 ?_;simp (disch := omega) only [go_sem];rfl
           · exfalso; omega
         · by_cases b4 : t < R.length
           · simp (disch := omega) only [Ju, go_sem];refine Ab (J1 (A := A ++ L.take s) (U := L.drop s) (V := R.take t) (B := R.drop t ++ B) (L := W) (M := W1) hr1 hr2 (by omega) (by omega) (by omega) (by omega) (by omega) hsz rfl) ?_;simp (disch := omega) only [e12 (by omega), go_sem];refine Ab (IH (L.length + R.length - g) (by omega) (A := A ++ Ap (L.take s ++ R.take t)) (L := L.drop s) (R := R.drop t) (B := B) (W := W2) (M := M) (by omega) hP2 hM2 (by omega) (by omega) (by omega) (hI.snd b1 b4) hz2 rfl) ?_;simp (disch := omega) only [go_sem];refine C4 ?_;simp (disch := omega) only [go_sem];rfl
           · simp (disch := omega) only [Ju, go_sem];refine Ab (J1 (A := A ++ L.take s) (U := L.drop s) (V := R.take t) (B := R.drop t ++ B) (L := W) (M := W1) hr1 hr2 (by omega) (by omega) (by omega) (by omega) (by omega) hsz rfl) ?_;simp (disch := omega) only [e12 (by omega), e2M (by omega), go_sem];refine C4 ?_;simp (disch := omega) only [go_sem];rfl
       · by_cases b3 : 0 < s
         · by_cases b4 : t < R.length
           · exfalso; omega
           · exfalso; omega
         · by_cases b4 : t < R.length
           · exfalso; omega
           · exfalso; omega
     · by_cases b2 : 0 < t
       · by_cases b3 : 0 < s
         · by_cases b4 : t < R.length
           · simp (disch := omega) only [Ju, e01 (by omega), go_sem];refine Ab (IH (s + t) (by omega) (A := A) (L := L.take s) (R := R.take t) (B := L.drop s ++ (R.drop t ++ B)) (W := W1) (M := W2) (by omega) hW1 hW2 (by omega) (by omega) (by omega) (hI.fst b3 b2) hz1 rfl) ?_;simp (disch := omega) only [e2M (by omega), go_sem];refine C4 ?_;simp (disch := omega) only [go_sem];rfl
           · exfalso; omega
         · by_cases b4 : t < R.length
           · exfalso; omega
           · exfalso; omega
       · by_cases b3 : 0 < s
         · by_cases b4 : t < R.length
           · simp (disch := omega) only [Ju, e01 (by omega), e12 (by omega), e2M (by omega), go_sem];refine C4 ?_;simp (disch := omega) only [go_sem];rfl
           · exfalso; omega
         · by_cases b4 : t < R.length
           · exfalso; omega
           · exfalso; omega
theorem Vr (a b : List Ent) (h : Dif (a ++ b)) : Ap (Ap a ++ Ap b) = Ap (a ++ b) :=
 E4 (Bw (h.perm ((A8 a).append (A8 b)).symm)) h ((A8 _).trans ((A8 a).append (A8 b)))
theorem M3 {L : List Ent} (h : Eb L) (n : Nat) (h1 : 1 ≤ n) (h2 : n < L.length) : MrgIn (Ap (L.take n)) (Ap (L.drop n)) := by
 have hd := E5 h;refine ⟨by rw [Cx, List.length_take]; omega, by rw [Cx, List.length_drop]; omega, Bw (List.Pairwise.sublist (List.take_sublist _ _) hd), Bw (List.Pairwise.sublist (List.drop_sublist _ _) hd), ?_, fun x hx y hy => ?_⟩
 · refine Dif.perm hd (List.Perm.symm ?_);have := (A8 (L.take n)).append (A8 (L.drop n))
   rwa [List.take_append_drop] at this
 · have h' := h;rw [← List.take_append_drop n L] at h';exact (List.pairwise_append.1 h').2.2 x (D1.1 hx) y (D1.1 hy)
def Iq (n : Nat) (W : Nat → List Ent) (k : Nat) : FS := mk [(8, .pv (.i .i64 ((20 * k + 20 : Nat) : Int))), (7, .pv (.i .i64 ((20 * k : Nat) : Int))), (6, .pv (.i .i64 20)), (0, .os 900), (1, .pv (.i .i64 n)), (2, .fn (.func 38) []), (1000000, .os 900)] [(900, some (.row 15 ((W k).map Ai)))]
def Ev (n : Nat) (W : Nat → List Ent) (j : Nat) : FS := mk [(6, .pv (.i .i64 ((20 * j + 20 : Nat) : Int))), (0, .os 900), (1, .pv (.i .i64 n)), (2, .fn (.func 38) []), (1000000, .os 900)] [(900, some (.row 15 ((W j).map Ai)))]
def Qx (n : Nat) (W : Nat → List Ent) (k : Nat) : FS := mk [(8, .pv (.i .i64 ((40 * k + 40 : Nat) : Int))), (7, .pv (.i .i64 ((40 * k : Nat) : Int))), (6, .pv (.i .i64 20)), (0, .os 900), (1, .pv (.i .i64 n)), (2, .fn (.func 38) []), (1000000, .os 900)] [(900, some (.row 15 ((W k).map Ai)))]
def wA (a b : List Ent) (k : Nat) : List Ent := if k = 0 then a else b
def wB (a b c : List Ent) (k : Nat) : List Ent := if k = 0 then a else if k = 1 then b else c
theorem wA0 (a b) : wA a b 0 = a := rfl
theorem wA1 (a b) : wA a b 1 = b := rfl
theorem wB0 (a b c) : wB a b c 0 = a := rfl
theorem wB1 (a b c) : wB a b c 1 = b := rfl
theorem wB2 (a b c) : wB a b c 2 = c := rfl
set_option maxHeartbeats 4000000 in
theorem Adi {L : List Ent} {n : Int} {h d} (hn : n = L.length) (hL : Eb L) (hsz : L.length ≤ 40) (hg : h 900 = some (.row 15 (L.map Ai))) :
 FunOk Tryd.prog 55 [.os 900, .pv (.i .i64 n), fIn] h d (.tup []) [.upd 900 (.row 15 ((Ap L).map Ai))] := by
 subst hn;unfold fIn;refine Hh (g := 900) mixed fn55 (by simp) (by simp [Ax, tn]) (by simp [Ax, tn]) hg rfl (by simp [Blk.ptr, SV.kill]) rfl (fun _ => rfl) fun F => ?_;have hd := E5 hL;simp (disch := omega) only [ir55, Blk.ptr, go_sem];by_cases h20 : L.length < 20
 · refine Aw mixed (Iq L.length fun _ => L) (fun k => k = 0) (fun _ => 0) 0 rfl (Ar ?_ ?_) fun k hk => ?_
   · simp (disch := omega) only [go_sem]
   · (try simp only [Lc, Lb, La, K9, K8, K7, K6, K5]); simp (disch := omega) only [go_sem]
   obtain rfl := hk;simp (disch := omega) only [Iq, go_sem];refine Ab (J2 (A := []) (K := L) (B := []) (M := Ap L) (by simp) (by simp) (by simp) (by simp) hL (by omega) rfl) ?_;simp (disch := omega) only [go_sem];refine Aw mixed (Ev L.length fun _ => Ap L) (fun j => j = 0) (fun _ => 0) 0 rfl (Ar ?_ ?_) fun j hj => ?_
   · simp (disch := omega) only [go_sem]
   · (try simp only [Lc, Lb, La, K9, K8, K7, K6, K5]); simp (disch := omega) only [go_sem]
   obtain rfl := hj;simp (disch := omega) only [Ev, go_sem];refine C4 ?_;simp (disch := omega) only [go_sem];rfl
 have t1 : (L.take 20).length = 20 := by rw [List.length_take]; omega
 have t2 : (L.drop 20).length = L.length - 20 := List.length_drop;have hs1 : Eb (L.take 20) := List.Pairwise.sublist (List.take_sublist _ _) hL;have hs2 : Eb (L.drop 20) := List.Pairwise.sublist (List.drop_sublist _ _) hL;have e1 : L = [] ++ (L.take 20 ++ L.drop 20) := by rw [List.take_append_drop]; rfl
 have s1 : (Ap (L.take 20)).length = 20 := by rw [Cx, t1]
 have s2 : (Ap (L.drop 20)).length = L.length - 20 := by rw [Cx, t2]
 obtain ⟨W1, hW1⟩ : ∃ W1, W1 = Ap (L.take 20) ++ L.drop 20 := ⟨_, rfl⟩
 obtain ⟨W2, hW2⟩ : ∃ W2, W2 = Ap (L.take 20) ++ Ap (L.drop 20) := ⟨_, rfl⟩
 have z1 : W1.length ≤ 1000 := by rw [hW1, List.length_append]; omega
 have z2 : W2.length ≤ 1000 := by rw [hW2, List.length_append]; omega
 have eF : Ap W2 = Ap L := by
  rw [hW2, Vr _ _ (by rw [List.take_append_drop]; exact hd), List.take_append_drop]
 by_cases h40 : L.length < 40
 · refine Aw mixed (Iq L.length (wA L W1)) (fun k => k ≤ 1) (fun k => 1 - k) 0 (Nat.zero_le _) (Ar ?_ ?_) fun k hk => ?_
   · simp (disch := omega) only [go_sem]
   · simp (disch := omega) only [wA0, go_sem]
   rcases k with _ | k
   · simp (disch := omega) only [Iq, wA0, go_sem];refine Ab (J2 (A := []) (K := L.take 20) (B := L.drop 20) (M := W1) e1 hW1 (by simp) (by simp only [List.length_nil]; omega) hs1 (by omega) rfl) ?_;simp (disch := omega) only [go_sem];refine Al (x := 0) 1 _ _ rfl (Nat.le_refl _) (by omega) ?_ ?_
     · simp (disch := omega) only [go_sem]
     · simp (disch := omega) only [wA1, go_sem]
   · obtain rfl : k = 0 := by omega
     simp (disch := omega) only [Iq, wA1, go_sem];refine Ab (J2 (A := Ap (L.take 20)) (K := L.drop 20) (B := []) (M := W2) (by rw [List.append_nil]; exact hW1) (by rw [List.append_nil]; exact hW2) (by omega) (by omega) hs2 z1 rfl) ?_;simp (disch := omega) only [go_sem];by_cases he : L.length = 20
     · have eW : W2 = Ap L := by
        rw [hW2, List.take_of_length_le (by omega), List.drop_eq_nil_of_le (by omega)]; exact List.append_nil _
       refine Aw mixed (Ev L.length fun _ => W2) (fun j => j = 0) (fun _ => 0) 0 rfl (Ar ?_ ?_) fun j hj => ?_
       · simp (disch := omega) only [go_sem]
       · (try simp only [Lc, Lb, La, K9, K8, K7, K6, K5]); simp (disch := omega) only [go_sem]
       obtain rfl := hj;simp (disch := omega) only [Ev, eW, go_sem];refine C4 ?_;simp (disch := omega) only [go_sem];rfl
     · refine Aw mixed (Ev L.length (wA W2 (Ap L))) (fun j => j ≤ 1) (fun j => 1 - j) 0 (Nat.zero_le _) (Ar ?_ ?_) fun j hj => ?_
       · simp (disch := omega) only [go_sem]
       · simp (disch := omega) only [wA0, go_sem]
       rcases j with _ | j
       · simp (disch := omega) only [Ev, wA0, go_sem];refine Aw mixed (Qx L.length fun _ => W2) (fun k => k = 0) (fun _ => 0) 0 rfl (Ar ?_ ?_) fun k hk => ?_
         · simp (disch := omega) only [go_sem]
         · (try simp only [Lc, Lb, La, K9, K8, K7, K6, K5]); simp (disch := omega) only [go_sem]
         obtain rfl := hk;simp (disch := omega) only [Qx, go_sem];refine Ab (Ut L.length (A := []) (L := Ap (L.take 20)) (R := Ap (L.drop 20)) (B := []) (W := W2) (M := Ap L) (by omega) (by rw [List.append_nil]; exact hW2) (by rw [List.append_nil, ← hW2, eF]; rfl) (by simp) (by simp only [List.length_nil]; omega) (by simp only [List.length_nil]; omega) (M3 hL 20 (by omega) (by omega)) z2 rfl) ?_;simp (disch := omega) only [go_sem];refine Al (x := 0) 1 _ _ rfl (Nat.le_refl _) (by omega) ?_ ?_
         · simp (disch := omega) only [go_sem]
         · simp (disch := omega) only [wA1, go_sem]
       · obtain rfl : j = 0 := by omega
         simp (disch := omega) only [Ev, wA1, go_sem];refine C4 ?_;simp (disch := omega) only [go_sem];rfl
 · have hl : L.length = 40 := by omega
   refine Aw mixed (Iq L.length (wB L W1 W2)) (fun k => k ≤ 2) (fun k => 2 - k) 0 (Nat.zero_le _) (Ar ?_ ?_) fun k hk => ?_
   · simp (disch := omega) only [go_sem]
   · simp (disch := omega) only [wB0, go_sem]
   rcases k with _ | k
   · simp (disch := omega) only [Iq, wB0, go_sem];refine Ab (J2 (A := []) (K := L.take 20) (B := L.drop 20) (M := W1) e1 hW1 (by simp) (by simp only [List.length_nil]; omega) hs1 (by omega) rfl) ?_;simp (disch := omega) only [go_sem];refine Al (x := 0) 1 _ _ rfl (by omega) (by omega) ?_ ?_
     · simp (disch := omega) only [go_sem]
     · simp (disch := omega) only [wB1, go_sem]
   rcases k with _ | k
   · simp (disch := omega) only [Iq, wB1, go_sem];refine Ab (J2 (A := Ap (L.take 20)) (K := L.drop 20) (B := []) (M := W2) (by rw [List.append_nil]; exact hW1) (by rw [List.append_nil]; exact hW2) (by omega) (by omega) hs2 z1 rfl) ?_;simp (disch := omega) only [go_sem];refine Al (x := 1) 2 _ _ rfl (by omega) (by omega) ?_ ?_
     · simp (disch := omega) only [go_sem]
     · simp (disch := omega) only [wB2, go_sem]
   · obtain rfl : k = 0 := by omega
     have hW2l : W2.length = 40 := by rw [hW2, List.length_append]; omega
     simp (disch := omega) only [Iq, wB2, go_sem];refine Ab (J2 (A := W2) (K := []) (B := []) (M := W2) (by simp) (by simp [Ap]) (by omega) (by simp only [List.length_nil]; omega) List.Pairwise.nil z2 rfl) ?_;simp (disch := omega) only [go_sem];refine Aw mixed (Ev L.length (wA W2 (Ap L))) (fun j => j ≤ 1) (fun j => 1 - j) 0 (Nat.zero_le _) (Ar ?_ ?_) fun j hj => ?_
     · simp (disch := omega) only [go_sem]
     · simp (disch := omega) only [wA0, go_sem]
     rcases j with _ | j
     · simp (disch := omega) only [Ev, wA0, go_sem];refine Aw mixed (Qx L.length (wA W2 (Ap L))) (fun k => k ≤ 1) (fun k => 1 - k) 0 (Nat.zero_le _) (Ar ?_ ?_) fun k hk => ?_
       · simp (disch := omega) only [go_sem]
       · simp (disch := omega) only [wA0, go_sem]
       rcases k with _ | k
       · simp (disch := omega) only [Qx, wA0, go_sem];refine Ab (Ut L.length (A := []) (L := Ap (L.take 20)) (R := Ap (L.drop 20)) (B := []) (W := W2) (M := Ap L) (by omega) (by rw [List.append_nil]; exact hW2) (by rw [List.append_nil, ← hW2, eF]; rfl) (by simp) (by simp only [List.length_nil]; omega) (by simp only [List.length_nil]; omega) (M3 hL 20 (by omega) (by omega)) z2 rfl) ?_;simp (disch := omega) only [go_sem];refine Al (x := 0) 1 _ _ rfl (Nat.le_refl _) (by omega) ?_ ?_
         · simp (disch := omega) only [go_sem]
         · simp (disch := omega) only [wA1, go_sem]
       · obtain rfl : k = 0 := by omega
         simp (disch := omega) only [Qx, wA1, go_sem];refine Al (x := 0) 1 _ _ rfl (Nat.le_refl _) (by omega) ?_ ?_
         · simp (disch := omega) only [go_sem]
         · simp (disch := omega) only [wA1, go_sem]
     · obtain rfl : j = 0 := by omega
       simp (disch := omega) only [Ev, wA1, go_sem];refine C4 ?_;simp (disch := omega) only [go_sem];rfl
theorem Y9 {L : List Ent} {h d} (hL : Eb L) (hsz : L.length ≤ 40) (hg : h 900 = some (.row 15 (L.map Ai))) :
 FunOk Tryd.prog 37 [.os 900, .fn (.func 38) []] h d (.tup []) [.upd 900 (.row 15 ((Ap L).map Ai))] := by
 refine Hh (g := 900) mixed fn37 (by simp) (by simp [Ax, tn]) (by simp [Ax, tn]) hg rfl (by simp [Blk.ptr, SV.kill]) rfl (fun _ => rfl) fun F => ?_;simp (disch := omega) only [ir37, Blk.ptr, List.length_map, go_sem];refine Ab (Adi rfl hL hsz rfl) ?_;simp (disch := omega) only [go_sem];refine C4 ?_;simp (disch := omega) only [go_sem];rfl
theorem FunOk.rowC {P : Program} {f : Nat} {a : List SV} {sz : Nat} {es es' : List (List PV)} {x : SV} (hf : ∀ h d, h 900 = some (.row sz es) → FunOk P f (.os 900 :: a) h d x [.upd 900 (.row sz es')]) (ha : SV.closedL a = true) (hx : x.closed = true) {g : Nat} {h : Nat → Option Blk} {d : Nat} (hg : h g = some (.row sz es)) :
 FunOk P f (.os g :: a) h d x [.upd g (.row sz es')] := by
 have h1 := (hf (fun k => h (sw1 900 g k)) d (by show h (sw1 900 g 900) = _; rw [Afj]; exact hg)).rn (π := sw1 900 g) (Ub 900 g) (d' := d);simp only [SV.rnL, SV.rn, HU.rn, Blk.rn, List.map_cons, List.map_nil, Afj, Mp ha, Afp hx] at h1;refine h1.at fun n hn => ?_;simp only [Ax, tn, Io ha, List.append_nil, List.mem_singleton] at hn;subst hn;simp only [Ub, hg, Option.map_some, Blk.rn]
theorem Adj {L : List Ent} {g : Nat} {h d} (hL : Eb L) (hsz : L.length ≤ 40) (hg : h g = some (.row 15 (L.map Ai))) :
 FunOk Tryd.prog 37 [.os g, .fn (.func 38) []] h d (.tup []) [.upd g (.row 15 ((Ap L).map Ai))] :=
 FunOk.rowC (fun _ _ hg => Y9 hL hsz hg) rfl rfl hg
def Aci (l : List UInt8) : Nat := l.foldl (fun a c => a * 10 + (c.toNat - 48)) 0
theorem Lx {n : Nat} (h : n < 10) : (UInt8.ofNat (48 + n)).toNat = 48 + n := by
 rw [UInt8.toNat_ofNat']; omega
theorem R4 (n : Nat) : Aci (Dt n) = n := by
 refine Nat.strongRecOn (motive := fun n => Aci (Dt n) = n) n fun n ih => ?_;unfold Dt;split
 · rename_i h;simp only [Aci, List.foldl_cons, List.foldl_nil, Lx h]; omega
 · have h := ih (n / 10) (by omega);unfold Aci at h ⊢;rw [List.foldl_append, h, List.foldl_cons, List.foldl_nil, Lx (Nat.mod_lt _ (by omega))]; omega
theorem R5 {a b : Nat} (h : Dt a = Dt b) : a = b := by rw [← R4 a, h, R4]
theorem Aa0 (n : Nat) : ∀ c ∈ Dt n, 48 ≤ c.toNat ∧ c.toNat ≤ 57 := by
 refine Nat.strongRecOn (motive := fun n => ∀ c ∈ Dt n, 48 ≤ c.toNat ∧ c.toNat ≤ 57) n fun n ih => ?_;intro c hc;unfold Dt at hc;split at hc
 · rename_i h;rw [List.mem_singleton.1 hc, Lx h]; omega
 · rcases List.mem_append.1 hc with hc | hc
   · exact ih (n / 10) (by omega) c hc
   · have := Nat.mod_lt n (show 0 < 10 by omega);rw [List.mem_singleton.1 hc, Lx this]; omega
theorem Pl {α : Type} {c : α} : ∀ {l1 l2 r1 r2 : List α}, c ∉ l1 → c ∉ l2 → l1 ++ c :: r1 = l2 ++ c :: r2 → l1 = l2 ∧ r1 = r2
 | [], [], r1, r2, _, _, h => by simpa using h
 | [], b :: l2, r1, r2, _, h2, h => by
   simp only [List.nil_append, List.cons_append, List.cons.injEq] at h;exact absurd (by rw [h.1]; exact List.mem_cons_self) h2
 | a :: l1, [], r1, r2, h1, _, h => by
   simp only [List.nil_append, List.cons_append, List.cons.injEq] at h;exact absurd (by rw [← h.1]; exact List.mem_cons_self) h1
 | a :: l1, b :: l2, r1, r2, h1, h2, h => by
   simp only [List.cons_append, List.cons.injEq] at h;obtain ⟨e1, e2⟩ := Pl (fun q => h1 (List.mem_cons_of_mem _ q)) (fun q => h2 (List.mem_cons_of_mem _ q)) h.2;exact ⟨by rw [h.1, e1], e2⟩
theorem Ph (s : List UInt8) (i : E2) : Hm s i = s ++ 126 :: (Nk i.1 ++ 46 :: Dt i.2) := by simp [Hm]
theorem Ya (s : List UInt8) (i : E2) : (126 : UInt8) ∈ Hm s i := by rw [Ph]; simp
theorem R6 {n : Int} (h : 0 ≤ n) : Nk n = Dt n.toNat := by unfold Nk; rw [if_neg (by omega)]
theorem Alk (n : Nat) : (46 : UInt8) ∉ Dt n := fun h => by have := Aa0 n _ h; simp at this
theorem Acp {s t : List UInt8} {i j : E2} (hs : (126 : UInt8) ∉ s) (ht : (126 : UInt8) ∉ t) (hi : 0 ≤ i.1) (hj : 0 ≤ j.1) (h : Hm s i = Hm t j) : s = t ∧ i = j := by
 rw [Ph, Ph] at h;obtain ⟨e1, e2⟩ := Pl hs ht h;rw [R6 hi, R6 hj] at e2;obtain ⟨e3, e4⟩ := Pl (Alk _) (Alk _) e2;have e5 := R5 e3;have e6 := R5 e4;exact ⟨e1, Prod.ext (by omega) e6⟩
theorem Zn {x y : Ent} (h : C9 x y) : Op.bytesLess x.name y.name = true ∨ x.name = y.name := by
 rcases h with h | ⟨h, _⟩
 · exact .inl h
 · exact .inr h
theorem Jw {M : List Ent} (h : B9 M) {j k : Nat} {x y : Ent} (hx : M[j]? = some x) (hy : M[k]? = some y) (hjk : j < k) : C9 x y := by
 obtain ⟨h1, rfl⟩ := List.getElem?_eq_some_iff.1 hx;obtain ⟨h2, rfl⟩ := List.getElem?_eq_some_iff.1 hy;exact List.pairwise_iff_getElem.1 h j k h1 h2 hjk
theorem Sv {M : List Ent} (h : B9 M) {j k : Nat} {x y : Ent} (hx : M[j]? = some x) (hy : M[k]? = some y) (hjk : j < k) (e : x.name = y.name) : Dj M k y := by
 refine ⟨by omega, ?_⟩;have hk : k < M.length := (List.getElem?_eq_some_iff.1 hy).1;have hz : M[k - 1]? = some M[k - 1] := List.getElem?_eq_getElem (by omega);refine ⟨_, hz, ?_⟩;generalize M[k - 1] = z at hz;by_cases hj : j = k - 1
 · subst hj;rw [hx] at hz; cases hz; exact e
 have h1 := Zn (Jw h hx hz (by omega));have h2 := Zn (Jw h hz hy (by omega));rcases h2 with h2 | h2
 · exfalso;rcases h1 with h1 | h1
   · exact Qj _ (e ▸ Nr h1 h2)
   · rw [← h1, e] at h2; exact Qj _ h2
 · exact h2
theorem Ac4 {M : List Ent} (h : B9 M) (hn : ∀ x ∈ M, (126 : UInt8) ∉ x.name) (hr : ∀ x ∈ M, 0 ≤ x.id.1) {j k : Nat} (hjk : j < k) (hk : k < M.length) : Jx M j ≠ Jx M k := fun e => by
 have hx : M[j]? = some M[j] := List.getElem?_eq_getElem (by omega);have hy : M[k]? = some M[k] := List.getElem?_eq_getElem hk;have mx : M[j] ∈ M := List.getElem_mem _;have my : M[k] ∈ M := List.getElem_mem _;generalize M[j] = x at hx mx;generalize M[k] = y at hy my;have hl := Jw h hx hy hjk;by_cases h1 : Dj M j x <;> by_cases h2 : Dj M k y
 · rw [Vy hx h1, Vy hy h2] at e;obtain ⟨e1, e2⟩ := Acp (hn x mx) (hn y my) (hr x mx) (hr y my) e;rcases hl with hl | ⟨_, hl⟩
   · rw [e1] at hl; exact Qj _ hl
   · rw [e2] at hl; exact Dx hl
 · rw [Vy hx h1, Vz hy h2] at e;exact hn y my (e ▸ Ya _ _)
 · rw [Vz hx h1, Vy hy h2] at e;exact hn x mx (e ▸ Ya _ _)
 · rw [Vz hx h1, Vz hy h2] at e;exact h2 (Sv h hx hy hjk e)
theorem Afd {cs : List PV} (h : GC Yp cs) : ∃ x : Ent, cs = Ai x ∧ IdR x.id := by
 simp only [GC, GCL] at h;obtain ⟨c1, r1, rfl, g1, c2, r2, rfl, g2, c3, r3, rfl, ⟨n, rfl, hn⟩, c4, r4, rfl, g4, c5, r5, rfl, g5, rfl⟩ := h;obtain ⟨a, rfl, ha1, ha2⟩ := Vg (by simpa only [GC, GCL] using g1);obtain ⟨b, rfl, _⟩ := Vg (by simpa only [GC, GCL] using g2);obtain ⟨c, rfl, _⟩ := Vg (by simpa only [GC, GCL] using g4);obtain ⟨v, rfl, _⟩ := Anc (by simpa only [GC, GCL] using g5);exact ⟨⟨a, b, n, c, v⟩, by simp [Ai, idE, Tf], ⟨ha1.1, by have := ha1.2; show a.1 ≤ _; omega, ha2⟩⟩
theorem Q1 {M : List Ent} {j : Nat} (hj : j < M.length) : (Hn M M.length)[j]? = some (Jx M j) := by
 unfold Hn; rw [List.getElem?_map, List.getElem?_range hj]; rfl
theorem V1 {M : List Ent} (h : B9 M) (hn : ∀ x ∈ M, (126 : UInt8) ∉ x.name) (hr : ∀ x ∈ M, 0 ≤ x.id.1) {j k : Nat} {s t : List UInt8} (hjk : j < k) (hs : (Hn M M.length)[j]? = some s) (ht : (Hn M M.length)[k]? = some t) : s ≠ t := by
 have hk : k < M.length := by have := (List.getElem?_eq_some_iff.1 ht).1; rwa [Mk] at this
 rw [Q1 (Nat.lt_trans hjk hk)] at hs;rw [Q1 hk] at ht;cases hs; cases ht;exact Ac4 h hn hr hjk hk
theorem Acq {W : World} {l : List (String × DataW Unit)} (h : laidMetH Tryd.prog l W) (keep : String × DataW Unit → Bool) (e : ((l.filter fun x => x.2.handleName?.isNone).filter keep) = [("internal/strconv.uint64pow10", Lib.tabData .u64 Lib.pow10Tab)]) : T8 W := by
 have h1 := ((laidMetH_iff.1 h).1).filter keep;rw [e] at h1;have hg : Tryd.prog.globalNamed "internal/strconv.uint64pow10" = some 0 := by kernel_rfl
 have h2 := Lib.tabIs_of_head (g := 0) (t := 97) (e := 76) (n := 20) hg (by kernel_rfl) Tryd.underlying97 Tryd.underlying76 (by kernel_rfl) (by kernel_rfl) h1;intro p hp;obtain rfl := List.mem_singleton.1 hp;unfold Lib.TabIs World.var? at h2;rw [hg] at h2;exact h2
end Go.Proofs.YthleeikkpjiicaaDoor.Fw
namespace Go.Proofs.YthleeikkpjiicaaDoor.Fw
open Go.RowKit
variable {P : Program} {F : Fr} {N : Nat} {ρ ρ' : Nat → Value} {s : FS} {a : Act} {w w' : World} {V V' : View}
end Go.Proofs.YthleeikkpjiicaaDoor.Fw
namespace Go.Proofs.YthleeikkpjiicaaDoor.Fw
open Go.RowKit Go.Proofs
theorem Cn (x : Ent) (K : KK) : LoadK (some (Ai x)) 0 1 false K = K (.pv (.i .i64 x.id.1)) [] := by
 simp only [LoadK, Om, eq_iff_iff, Aq];exact ⟨fun h => h.2.2, fun h => ⟨by omega, .inr trivial, h⟩⟩
def Agg (l : List Ent) (dir : E2) (k : Nat) : FS := mk [(23, .pv (.i .i64 k)), (22, .pv (.i .i64 l.length)), (21, .pv (.sl false 15 (l.map Ai))), (0, .pv (.sl false 15 (l.map Ai))), (3, .p 3 0), (5, .pv (.i .i64 (((l.take k).filter (F4 dir)).length : Nat)))] [(3, some (.var (.vec 2 [.i .i64 dir.1, .i .u32 dir.2])))]
def Qz (l : List Ent) (dir : E2) (k : Nat) (y : Ent) (j : Nat) : FS := mk [(30, .pv (.i .i64 j)), (29, .pv (.i .i64 y.name.length)), (7, .p 7 0), (23, .pv (.i .i64 k)), (22, .pv (.i .i64 l.length)), (21, .pv (.sl false 15 (l.map Ai))), (0, .pv (.sl false 15 (l.map Ai))), (3, .p 3 0), (5, .pv (.i .i64 (((l.take k).filter (F4 dir)).length : Nat)))] [(7, some (.var (.vec 15 (Ai y)))), (3, some (.var (.vec 2 [.i .i64 dir.1, .i .u32 dir.2])))]
def Agf (S : List (List UInt8)) (c : Nat) (k : Nat) : FS := mk [(66, .pv (.i .i64 k)), (65, .pv (.i .i64 S.length)), (9, .pv (.sl false 1 (S.map Ed))), (5, .pv (.i .i64 c))] []
def Yg (S : List (List UInt8)) (c : Nat) (k j : Nat) : FS := mk [(73, .pv (.i .i64 j)), (72, .pv (.i .i64 k)), (71, .pv (.sl false 1 ((S.map Ed).take k))), (10, .pv (.i .i64 k)), (66, .pv (.i .i64 k)), (65, .pv (.i .i64 S.length)), (9, .pv (.sl false 1 (S.map Ed))), (5, .pv (.i .i64 c))] []
theorem Ah4 (t : List UInt8) (K : KK) : LoadK (some (Ed t)) 0 1 false K = K (.pv (.s t)) [] := by simp [LoadK, Om, Ed]
set_option maxHeartbeats 4000000 in
theorem N6 (l : List Ent) (dir : E2) (hid : ∀ x ∈ l, IdR x.id) {h d} :
 FunOk Tryd.prog 3 [.pv (.sl false 15 (l.map Ai)), .vec 2 [.i .i64 dir.1, .i .u32 dir.2]] h d (.pv (.b true)) [] := by
 refine A7 mixed fn3 (by simp) rfl rfl fun F => ?_;simp (disch := omega) only [ir3, go_sem];refine Ab Uy ?_;simp (disch := omega) only [go_sem];refine Ab (Adn (l := l) rfl rfl) ?_;by_cases ha : Vh l
 case neg =>
  have e := Je ha;simp (disch := omega) only [e, go_sem];refine Ab Uy ?_;simp (disch := omega) only [go_sem]
 have e := Ry ha;have la := ha.1;have sl := Nd ha.2.1;have e00 : ((List.filter (F4 dir) (List.take 0 l)).length : Int) = 0 := by simp
 simp (disch := omega) only [e, List.length_map, go_sem];refine Aw mixed (Agg l dir) (fun k => k ≤ l.length ∧ ∀ x ∈ l.take k, (126 : UInt8) ∉ x.name ∧ 0 ≤ x.id.1) (fun k => l.length - k) 0 ⟨Nat.zero_le _, by simp⟩ (Ar ?_ ?_) fun k hk => ?_
 · simp (disch := omega) only [e00, go_sem]
 · simp (disch := omega) only [go_sem]
 obtain ⟨hk, hN⟩ := hk;by_cases hlt : k < l.length
 · have hx : l[k]? = some l[k] := List.getElem?_eq_getElem hlt;have he : (l.map Ai)[k]? = some (Ai l[k]) := by rw [List.getElem?_map, hx]; rfl
   have htk : l.take (k + 1) = l.take k ++ [l[k]] := by rw [List.take_add_one, hx]; rfl
   have ht := Kz hx (F4 dir);have hb : ((l.take k).filter (F4 dir)).length ≤ k := Nat.le_trans (List.length_filter_le _ _) (by simp; omega);have hnm : (l[k]).name.length ≤ 40 := ha.2.2 _ (List.getElem_mem hlt);generalize l[k] = y at *;have hcy := Aq y;simp (disch := omega) only [Agg, List.length_map, he, Bf, hcy, Bx, go_sem];refine Aw mixed (Qz l dir k y) (fun j => j ≤ y.name.length ∧ (126 : UInt8) ∉ y.name.take j) (fun j => y.name.length - j) 0 ⟨Nat.zero_le _, by simp⟩ (Ar ?_ ?_) fun j hj => ?_
   · simp (disch := omega) only [go_sem]
   · simp (disch := omega) only [go_sem]
   obtain ⟨hj, hJ⟩ := hj;by_cases hjl : j < y.name.length
   · have hc : y.name[j]? = some y.name[j] := List.getElem?_eq_getElem hjl;have hg : y.name.getD j 0 = y.name[j] := by rw [List.getD_eq_getElem?_getD, hc]; rfl
     have htj : y.name.take (j + 1) = y.name.take j ++ [y.name[j]] := by rw [List.take_add_one, hc]; rfl
     generalize y.name[j] = c at *;by_cases h126 : c = 126
     · have h1 : ((c.toNat : Int) = 126) = True := eq_true (by subst h126; rfl);simp (disch := omega) only [Qz, hcy, Bx, hg, h1, go_sem]
     · have h1 : ((c.toNat : Int) = 126) = False := eq_false fun q => h126 (UInt8.toNat_inj.1 (by show c.toNat = 126; omega));simp (disch := omega) only [Qz, hcy, Bx, hg, h1, go_sem];refine Al (j + 1) _ _ rfl ⟨by omega, fun q => ?_⟩ (by omega) ?_ ?_
       · rw [htj] at q;rcases List.mem_append.1 q with q | q
         · exact hJ q
         · exact h126 (List.mem_singleton.1 q).symm
       · simp (disch := omega) only [go_sem]
       · simp (disch := omega) only [go_sem]
   · obtain rfl : j = y.name.length := by omega
     rw [List.take_length] at hJ;have next : 0 ≤ y.id.1 → ∀ x ∈ l.take (k + 1), (126 : UInt8) ∉ x.name ∧ 0 ≤ x.id.1 := fun h0 x hx => by
      rw [htk] at hx;rcases List.mem_append.1 hx with hx | hx
      · exact hN x hx
      · rw [List.mem_singleton.1 hx]; exact ⟨hJ, h0⟩
     by_cases hdir : y.dir = dir
     · have hp := Y5 hdir;simp (disch := omega) only [Qz, hcy, Hf, Lw, hp, Bf, go_sem];refine Ab (V9 y) ?_;by_cases hal : Sn y.gone fun _ => 0
       · have hP : F4 dir y = true := by simp [F4, hdir, hal]
         rw [if_pos hP] at ht;have hcnt : ((List.filter (F4 dir) (l.take (k + 1))).length : Nat) = ((l.take k).filter (F4 dir)).length + 1 := by rw [ht, List.length_append]; rfl
         simp (disch := omega) only [hal, hcy, go_sem];by_cases h0 : y.id.1 < 0
         · simp (disch := omega) only [Cn, hcy, h0, go_sem]
         by_cases h1 : 1000 < y.id.1
         · simp (disch := omega) only [Cn, hcy, go_sem]
         simp (disch := omega) only [Cn, hcy, go_sem];refine Al (x := k) (k + 1) _ _ rfl ⟨by omega, next (by omega)⟩ (by omega) ?_ ?_
         · simp (disch := omega) only [hcnt, go_sem]
         · simp (disch := omega) only [go_sem]
       · have hP : ¬ F4 dir y = true := by simp [F4, hdir, hal]
         rw [if_neg hP, List.append_nil] at ht;simp (disch := omega) only [hal, hcy, go_sem];by_cases h0 : y.id.1 < 0
         · simp (disch := omega) only [Cn, hcy, h0, go_sem]
         by_cases h1 : 1000 < y.id.1
         · simp (disch := omega) only [Cn, hcy, go_sem]
         simp (disch := omega) only [Cn, hcy, go_sem];refine Al (x := k) (k + 1) _ _ rfl ⟨by omega, next (by omega)⟩ (by omega) ?_ ?_
         · simp (disch := omega) only [ht, go_sem]
         · simp (disch := omega) only [go_sem]
     · have hp := Y6 hdir;have hP : ¬ F4 dir y = true := by simp [F4, hdir]
       rw [if_neg hP, List.append_nil] at ht;simp (disch := omega) only [Qz, hcy, Hf, Lw, hp, Bf, go_sem];by_cases h0 : y.id.1 < 0
       · simp (disch := omega) only [Cn, hcy, h0, go_sem]
       by_cases h1 : 1000 < y.id.1
       · simp (disch := omega) only [Cn, hcy, go_sem]
       simp (disch := omega) only [Cn, hcy, go_sem];refine Al (x := k) (k + 1) _ _ rfl ⟨by omega, next (by omega)⟩ (by omega) ?_ ?_
       · simp (disch := omega) only [ht, go_sem]
       · simp (disch := omega) only [go_sem]
 · obtain rfl : k = l.length := by omega
   rw [List.take_length] at hN;have hfl : ((l.filter (F4 dir)).length : Nat) ≤ 40 := Nat.le_trans (List.length_filter_le _ _) la;have sf : Eb (l.filter (F4 dir)) := List.Pairwise.sublist (List.filter_sublist) sl;simp (disch := omega) only [Agg, List.length_map, List.take_length, go_sem];refine Ab (Afs (l := l) (M := Ap (l.filter (F4 dir))) (dir := dir) (fun {h d} hh => Adj sf (by omega) hh) rfl rfl (by omega)) ?_;have mem : ∀ x ∈ Ap (l.filter (F4 dir)), x ∈ l := fun x hx => (List.mem_filter.1 (D1.1 hx)).1;have hMS : B9 (Ap (l.filter (F4 dir))) := Bw (E5 sf);have hMl : (Ap (l.filter (F4 dir))).length = (l.filter (F4 dir)).length := Cx _;generalize Ap (l.filter (F4 dir)) = M at *;simp (disch := omega) only [go_sem];refine Ab (Uq (x := .os 62) (f := false) (l := M) (fun k y hy hs {h d} => Akt (by have := ha.2.2 y (mem y (List.mem_of_getElem? hy)); omega) (hid y (mem y (List.mem_of_getElem? hy)))) rfl rfl (by omega)) ?_;have hSl : (Hn M M.length).length = (l.filter (F4 dir)).length := by rw [Mk]; exact hMl
   have hD2 : ∀ {j k s t}, j < k → (Hn M M.length)[j]? = some s → (Hn M M.length)[k]? = some t → s ≠ t := fun h1 h2 h3 => V1 hMS (fun x hx => (hN x (mem x hx)).1) (fun x hx => (hN x (mem x hx)).2) h1 h2 h3;generalize Hn M M.length = S at *;simp (disch := omega) only [List.length_map, go_sem];refine Aw mixed (Agf S (l.filter (F4 dir)).length) (fun k => k ≤ S.length) (fun k => S.length - k) 0 (Nat.zero_le _) (Af0 63 rfl (Ar ?_ ?_)) fun k hk => ?_
   · simp (disch := omega) only [go_sem]
   · simp (disch := omega) only [go_sem]
   by_cases hlt : k < S.length
   · have hs : S[k]? = some S[k] := List.getElem?_eq_getElem hlt;generalize S[k] = s at hs;have gs : (S.map Ed)[k]? = some (Ed s) := by rw [List.getElem?_map, hs]; rfl
     have htk : ((S.map Ed).take k).length = k := by rw [List.length_take, List.length_map]; omega
     simp (disch := omega) only [Agf, List.length_map, htk, go_sem];refine Aw mixed (Yg S (l.filter (F4 dir)).length k) (fun j => j ≤ k) (fun j => k - j) 0 (Nat.zero_le _) (Ar ?_ ?_) fun j hj => ?_
     · simp (disch := omega) only [htk, go_sem]
     · simp (disch := omega) only [go_sem]
     by_cases hjk : j < k
     · have ht : S[j]? = some S[j] := List.getElem?_eq_getElem (by omega);generalize S[j] = t at ht;have gt : ((S.map Ed).take k)[j]? = some (Ed t) := by rw [List.getElem?_take, if_pos hjk, List.getElem?_map, ht]; rfl
       have hne := hD2 hjk ht hs;have hne' : decide (t = s) = false := by simp [hne]
       simp (disch := omega) only [Yg, List.length_map, htk, gs, gt, Ah4, hne, hne', go_sem];refine Al (j + 1) _ _ rfl (by omega) (by omega) ?_ ?_
       · simp (disch := omega) only [go_sem]
       · simp (disch := omega) only [go_sem]
     · simp (disch := omega) only [Yg, go_sem];refine Al (x := k) (k + 1) _ _ rfl (by omega) (by omega) ?_ ?_
       · simp (disch := omega) only [go_sem]
       · simp (disch := omega) only [go_sem]
   · obtain rfl : k = S.length := by omega
     simp (disch := omega) only [Agf, List.length_map, hSl, go_sem]
theorem Lj {c0 c1 : List PV} (g0 : GC (.sl Yp) c0) (g1 : GC V2 c1) {h d} :
 FunOk Tryd.prog 3 [Ec (.sl Yp) c0, Ec V2 c1] h d (.pv (.b true)) [] := by
 obtain ⟨es, rfl, h1, g0⟩ := Ane g0;obtain ⟨l, rfl, hl⟩ := Aau (f := Ai) Afd g0;obtain ⟨b, rfl, hb⟩ := Vg g1;refine (N6 l b hl).imp ⟨Imp.refl _, Lu (by rfl) (by rfl), trivial⟩ ?_;intro n hn;simp [Ax, tn] at hn
end Go.Proofs.YthleeikkpjiicaaDoor.Fw
