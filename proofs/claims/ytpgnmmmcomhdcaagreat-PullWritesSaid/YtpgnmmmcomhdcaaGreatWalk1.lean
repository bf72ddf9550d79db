/- What the functions compute that the laws of this seat Zc. -/
import Derived.Test.YtpgnmmmcomhdcaaGreatIr
import Derived.OpenShut
import Derived.ShutString
import Derived.ChangeOld
import Derived.SizedLaws
import Derived.ChangeOld
import Derived.Lib.Bytealg
import Derived.OpenShut
import Derived.ShutString
import Derived.SizedLaws
set_option linter.unusedVariables false
set_option linter.unusedSimpArgs false
set_option linter.unusedSectionVars false
set_option maxRecDepth 100000
namespace Go.Proofs.YtpgnmmmcomhdcaaGreat.Fw
open Go.RowKit Go.Proofs
end Go.Proofs.YtpgnmmmcomhdcaaGreat.Fw
namespace Go.Proofs.YtpgnmmmcomhdcaaGreat.Fw
open Go.RowKit
noncomputable abbrev Kk (w : World) : View := Ar w fun _ => False
theorem Vl {w : World} {a : Addr} {v : Value} (h : w.cell? a = some v) : a.spot = none ∧ ∃ arr, Kk w a.block = some arr ∧ arr[a.off]? = some v := by
 unfold World.cell? at h;split at h
 · rename_i c ty fr hb;split at h
   · cases h
   · rename_i hs;refine ⟨by cases hx : a.spot <;> simp_all, c, ?_, h⟩;unfold Kk Ar C2;simp [hb]
 · cases h
inductive Sh where
 | int (k : IntKind) | bool | str | arr (n : Nat) (s : Sh) | st (l : List Sh) | sl (s : Sh)
mutual
def Sh.w : Sh → Nat
 | .arr n s => n * s.w
 | .st l => Sh.wL l
 | _ => 1
def Sh.wL : List Sh → Nat
 | [] => 0
 | s :: l => s.w + Sh.wL l
end
mutual
def Yj (P : Program) : Sh → TypeId → Bool
 | .int k, t => match P.underlying t with | some (.int k') => decide (k = k') | _ => false
 | .bool, t => match P.underlying t with | some .bool => true | _ => false
 | .str, t => match P.underlying t with | some .string => true | _ => false
 | .arr n s, t => match P.underlying t with | some (.array n' e) => decide (n = n') && decide (P.cellsOf e = s.w) && decide (P.cellsOf t = n * s.w) && Yj P s e | _ => false
 | .st l, t => match P.underlying t with | some (.struct fs) => decide (P.cellsOf t = Sh.wL l) && Ajk P l fs.toList 0 | _ => false
 | .sl s, t => match P.underlying t with | some (.slice e) => decide (P.cellsOf e = s.w) && decide (0 < s.w) && Yj P s e | _ => false
def Ajk (P : Program) : List Sh → List Field → Nat → Bool
 | [], [], _ => true
 | s :: l, f :: fs, off => decide (f.offset = off) && decide (P.cellsOf f.type = s.w) && Yj P s f.type && Ajk P l fs (off + s.w)
 | _, _, _ => false
end
mutual
def GC : Sh → List PV → Prop
 | .int k, cs => ∃ n, cs = [.i k n] ∧ (Lit.int k n).wf = true
 | .bool, cs => ∃ b, cs = [.b b]
 | .str, cs => ∃ l, cs = [.s l] ∧ l.length ≤ maxLen
 | .arr n s, cs => ∃ cc : List (List PV), cs = cc.flatten ∧ cc.length = n ∧ ∀ c ∈ cc, GC s c
 | .st l, cs => GCL l cs
 | .sl s, cs => ∃ es, cs = [.sl false s.w es] ∧ es.length ≤ maxLen ∧ ∀ c ∈ es, GC s c
def GCL : List Sh → List PV → Prop
 | [], cs => cs = []
 | s :: l, cs => ∃ c cs', cs = c ++ cs' ∧ GC s c ∧ GCL l cs'
end
theorem Aaf {w : Nat} : ∀ {cc : List (List PV)}, (∀ c ∈ cc, c.length = w) → cc.flatten.length = cc.length * w
 | [], _ => by simp
 | c :: cc, h => by
   rw [List.flatten_cons, List.length_append, Aaf fun c hc => h c (by simp [hc]), h c (by simp), List.length_cons, Nat.add_mul]; omega
mutual
theorem GC.len : ∀ {s : Sh} {cs : List PV}, GC s cs → cs.length = s.w
 | .int k, cs, h => by obtain ⟨n, rfl, _⟩ := h; rfl
 | .bool, cs, h => by obtain ⟨n, rfl⟩ := h; rfl
 | .str, cs, h => by obtain ⟨n, rfl, _⟩ := h; rfl
 | .arr n s, cs, h => by
   simp only [GC] at h;obtain ⟨cc, rfl, rfl, h⟩ := h;rw [Aaf fun c hc => GC.len (h c hc)]; rfl
 | .st l, cs, h => by simp only [GC] at h; simp only [Sh.w]; exact GCL.len h
 | .sl s, cs, h => by obtain ⟨n, rfl, _⟩ := h; rfl
theorem GCL.len : ∀ {l : List Sh} {cs : List PV}, GCL l cs → cs.length = Sh.wL l
 | [], cs, h => by simp only [GCL] at h; subst h; rfl
 | s :: l, cs, h => by
   simp only [GCL] at h;obtain ⟨c, cs', rfl, h1, h2⟩ := h;rw [List.length_append, GC.len h1, GCL.len h2]; rfl
end
theorem Ans {V : View} {s : Sh} : ∀ (n : Nat) (vs : List Value), vs.length = n * s.w → (∀ i, i < n → ∃ c, GC s c ∧ PCells V c ((vs.drop (i * s.w)).take s.w)) → ∃ cc : List (List PV), cc.length = n ∧ (∀ c ∈ cc, GC s c) ∧ PCells V cc.flatten vs
 | 0, vs, hl, h => by
   have : vs = [] := List.eq_nil_of_length_eq_zero (by omega);subst this;exact ⟨[], rfl, by simp, PCells.nil⟩
 | n + 1, vs, hl, h => by
   rw [Nat.add_mul] at hl;obtain ⟨c, g, p⟩ := h 0 (by omega);rw [Nat.zero_mul, List.drop_zero] at p;obtain ⟨cc, e1, e2, e3⟩ := Ans (V := V) (s := s) n (vs.drop s.w) (by rw [List.length_drop]; omega) fun i hi => by
    obtain ⟨c', g', p'⟩ := h (i + 1) (by omega);refine ⟨c', g', ?_⟩;rw [List.drop_drop, show s.w + i * s.w = (i + 1) * s.w from by rw [Nat.add_mul]; omega];exact p'
   refine ⟨c :: cc, by simp [e1], fun x hx => ?_, ?_⟩
   · rcases List.mem_cons.1 hx with rfl | hx
     · exact g
     · exact e2 x hx
   · rw [List.flatten_cons];have := PCells.append p e3
     rwa [List.take_append_drop] at this
theorem Atd {a : Addr} (h : a.spot = none) (i j : Nat) : (a.add i).add j = ⟨a.block, a.off + (i + j), none⟩ := by
 obtain ⟨b, o, sp⟩ := a;simp only at h; subst h;unfold Addr.add;by_cases hi : i = 0
 · subst hi;by_cases hj : j = 0
   · subst hj; simp
   · simp [hj]
 · by_cases hj : j = 0
   · subst hj; simp [hi]
   · simp [hi, hj]; omega
theorem Aja {w : World} {s : Sh} {a : Addr} {len cap : Nat} (hcap : len ≤ cap) (hw : 0 < s.w)
 (h : ∀ i, i < len → ∃ c vs, GC s c ∧ PCells (Kk w) c vs ∧ w.cells? 0 (a.add (i * s.w)) s.w = some vs) :
 ∃ es : List (List PV), es.length = len ∧ (∀ c ∈ es, GC s c) ∧ PConc (Kk w) (.sl false s.w es) (.slice (some a) len cap) := by
 by_cases h0 : len = 0
 · subst h0;exact ⟨[], rfl, by simp, .sl false s.w [] (some a) cap (fun _ _ => undef) 0 0 #[] (by simp) (by simp) (by simp) (by simp) (by simp) (by simp)⟩
 · have h' : ∀ i, ∃ c vs, i < len → GC s c ∧ PCells (Kk w) c vs ∧ w.cells? 0 (a.add (i * s.w)) s.w = some vs := fun i => by
    by_cases hi : i < len
    · obtain ⟨c, vs, h1⟩ := h i hi; exact ⟨c, vs, fun _ => h1⟩
    · exact ⟨[], [], fun h => absurd h hi⟩
   obtain ⟨c, hc⟩ := Classical.axiomOfChoice h';obtain ⟨vs, hv⟩ := Classical.axiomOfChoice hc;obtain ⟨g0, p0, k0⟩ := hv 0 (by omega);obtain ⟨_, l0, c0⟩ := World.cells?_some k0;have c00 := c0 0 hw;have hlen0 : 0 < (vs 0).length := by omega
   rw [List.getElem?_eq_getElem hlen0, Nat.zero_mul] at c00;have e0 : (a.add 0).add 0 = a := by simp [Addr.add]
   rw [e0] at c00;obtain ⟨hs, arr, harr, _⟩ := Vl c00;have hget : ∀ i j, i < len → j < s.w → arr[a.off + (i * s.w + j)]? = (vs i)[j]? := fun i j hi hj => by
    obtain ⟨_, _, k⟩ := hv i hi;obtain ⟨_, ll, cc⟩ := World.cells?_some k;have h1 := cc j hj;have hlt : j < (vs i).length := by omega
    rw [List.getElem?_eq_getElem hlt, Atd hs] at h1;obtain ⟨_, arr', ha', h2⟩ := Vl h1;simp only at ha' h2;rw [harr] at ha'; cases ha';rw [h2, List.getElem?_eq_getElem hlt]
   have hel : ∀ i, i < len → ((List.range len).map c)[i]? = some (c i) := fun i hi => by simp [hi]
   refine ⟨(List.range len).map c, by simp, fun x hx => ?_, ?_⟩
   · obtain ⟨i, hi, rfl⟩ := List.mem_map.1 hx;exact (hv i (by simpa using hi)).1
   · have e := PConc.sl (V := Kk w) false s.w ((List.range len).map c) (some a) cap (fun i j => (vs i).getD j undef) a.block a.off arr (by simpa using hcap) (by simp) (fun x hx => by
      obtain ⟨i, hi, rfl⟩ := List.mem_map.1 hx;exact (hv i (by simpa using hi)).1.len) (fun _ => by
      obtain ⟨b, o, sp⟩ := a;simp only at hs; subst hs;exact ⟨rfl, harr⟩) (fun i j hi hj => by
      have hi' : i < len := by simpa using hi
      rw [hget i j hi' hj];have : j < (vs i).length := by
       obtain ⟨_, ll, _⟩ := World.cells?_some (hv i hi').2.2; omega
      simp [List.getD_eq_getElem?_getD, this]) (fun i j x y hx hy => by
      have hi' : i < len := by
       have := (List.getElem?_eq_some_iff.1 hx).1; simpa using this
      rw [hel i hi'] at hx; cases hx;obtain ⟨v, hv1, hv2⟩ := (hv i hi').2.1.2 j y hy;simp only [List.getD_eq_getElem?_getD, hv1, Option.getD_some]; exact hv2)
     simpa using e
section
variable {H : Type} {enc : TypeId × Value → H} {P : Program} {w : World} {spare : Nat → Bool} {held : Bool}
mutual
theorem Rk : ∀ (s : Sh) {t : TypeId} {fuel : Nat} {vs : List Value} {x}, Yj P s t = true → DataW.trod enc P w 0 spare held fuel t vs = some x → ∃ cs, GC s cs ∧ PCells (Kk w) cs vs
 | .int k, t, fuel, vs, x, hs, h => by
   simp only [Yj] at hs;split at hs
   · rename_i k' hu;obtain rfl := of_decide_eq_true hs;obtain ⟨n, rfl, _, hw⟩ := DataW.trod_int hu h;exact ⟨[.i k n], ⟨n, rfl, hw⟩, PCells.cons (.i _ _) PCells.nil⟩
   · cases hs
 | .bool, t, fuel, vs, x, hs, h => by
   simp only [Yj] at hs;split at hs
   · rename_i hu;obtain ⟨n, rfl, _⟩ := DataW.trod_bool hu h;exact ⟨[.b n], ⟨n, rfl⟩, PCells.cons (.b _) PCells.nil⟩
   · cases hs
 | .str, t, fuel, vs, x, hs, h => by
   simp only [Yj] at hs;split at hs
   · rename_i hu;obtain ⟨b, rfl, _, hl⟩ := DataW.trod_string hu h;refine ⟨[.s b.data.toList], ⟨b.data.toList, rfl, by simpa using hl⟩, PCells.cons ?_ PCells.nil⟩;have := PConc.s (V := Kk w) b.data.toList;simpa using this
   · cases hs
 | .arr n s, t, fuel, vs, x, hs, h => by
   simp only [Yj] at hs;split at hs
   · rename_i n' e hu;simp only [Bool.and_eq_true, decide_eq_true_eq] at hs;obtain ⟨⟨⟨rfl, h1⟩, h2⟩, h3⟩ := hs;obtain ⟨xs, m, rfl, _, hl, hx, hg⟩ := DataW.trod_array hu h;rw [h1] at hg;obtain ⟨cc, e1, e2, e3⟩ := Ans (V := Kk w) (s := s) n vs (by rw [hl, h2]) fun i hi => by
      have := hg i hi;rw [List.getElem?_eq_getElem (by omega)] at this;exact Rk s h3 this
     exact ⟨cc.flatten, by simp only [GC]; exact ⟨cc, rfl, e1, e2⟩, e3⟩
   · cases hs
 | .st l, t, fuel, vs, x, hs, h => by
   simp only [Yj] at hs;split at hs
   · rename_i fs hu;simp only [Bool.and_eq_true, decide_eq_true_eq] at hs;obtain ⟨h2, h3⟩ := hs;obtain ⟨xs, m, rfl, _, hl, hx, hg⟩ := DataW.trod_struct hu h;obtain ⟨cs, e1, e2⟩ := Yn l (off := 0) (vs := vs) h3 fun f hf => by
      obtain ⟨i, hi⟩ := List.mem_iff_getElem?.1 hf;have hi2 : fs[i]? = some f := by simpa using hi
      have := hg i f hi2;have hlt := (Array.getElem?_eq_some_iff.1 hi2).1;rw [List.getElem?_eq_getElem (by omega)] at this;exact ⟨_, _, this⟩
     rw [List.drop_zero, ← h2, ← hl, List.take_length] at e2;exact ⟨cs, by simp only [GC]; exact e1, e2⟩
   · cases hs
 | .sl s, t, fuel, vs, x, hs, h => by
   simp only [Yj] at hs;split at hs
   · rename_i e hu;simp only [Bool.and_eq_true, decide_eq_true_eq] at hs;obtain ⟨⟨h1, h2⟩, h3⟩ := hs;rcases DataW.trod_slice hu h with ⟨rfl, _⟩ | ⟨a, len, cap, Cn, rest, n, rfl, rfl, _, _, hl, hm, hle, hg, _⟩
     · exact ⟨[.sl false s.w []], by simp only [GC]; exact ⟨[], rfl, by simp, by simp⟩, PCells.cons (.sl false s.w [] none 0 (fun _ _ => undef) 0 0 #[] (by simp) (by simp) (by simp) (by simp) (by simp) (by simp)) PCells.nil⟩
     · rw [h1] at hg;obtain ⟨es, e1, e2, e3⟩ := Aja (w := w) (s := s) (a := a) hl h2 fun i hi => by
        have h4 := hg i hi;rw [List.getElem?_eq_getElem (by omega)] at h4;obtain ⟨vs, h5, h6⟩ := Option.bind_eq_some_iff.1 h4;obtain ⟨c, g, p⟩ := Rk s h3 h6;exact ⟨c, vs, g, p, h5⟩
       exact ⟨[.sl false s.w es], by simp only [GC]; exact ⟨es, rfl, by omega, e2⟩, PCells.cons e3 PCells.nil⟩
   · cases hs
theorem Yn : ∀ (l : List Sh) {fs : List Field} {off : Nat} {vs : List Value}, Ajk P l fs off = true →
 (∀ f ∈ fs, ∃ n x, DataW.trod enc P w 0 spare held n f.type ((vs.drop f.offset).take (P.cellsOf f.type)) = some x) → ∃ cs, GCL l cs ∧ PCells (Kk w) cs ((vs.drop off).take (Sh.wL l))
 | [], fs, off, vs, hs, h => ⟨[], by simp only [GCL], by simp only [Sh.wL, List.take_zero]; exact PCells.nil⟩
 | s :: l, [], off, vs, hs, h => by simp [Ajk] at hs
 | s :: l, f :: fs, off, vs, hs, h => by
   simp only [Ajk, Bool.and_eq_true, decide_eq_true_eq] at hs;obtain ⟨⟨⟨h1, h2⟩, h3⟩, h4⟩ := hs;obtain ⟨n, x, hx⟩ := h f (by simp);obtain ⟨c, g, p⟩ := Rk s h3 hx;obtain ⟨cs, gl, pl⟩ := Yn l (vs := vs) h4 fun f hf => h f (by simp [hf]);refine ⟨c ++ cs, by simp only [GCL]; exact ⟨c, cs, rfl, g, gl⟩, ?_⟩;rw [h1, h2] at p;have := PCells.append p pl;have e : (vs.drop off).take (Sh.wL (s :: l)) = (vs.drop off).take s.w ++ (vs.drop (off + s.w)).take (Sh.wL l) := by
    simp only [Sh.wL];rw [List.take_add, List.drop_drop]
   rw [e]; exact this
end
end
mutual
def Ij : Sh → List PV → SV
 | .arr n s, cs => .vec (n * s.w) cs
 | .st l, cs => .agg (Mt l cs)
 | _, cs => .pv (cs.headD (.b false))
def Mt : List Sh → List PV → List SV
 | [], _ => []
 | s :: l, cs => (Ij s (cs.take s.w)).segs ++ Mt l (cs.drop s.w)
end
def Sh.isAg : Sh → Bool
 | .arr _ _ => true
 | .st _ => true
 | _ => false
theorem Pf {V : View} {ρ : Nat → Value} : ∀ {l m : List SV} {a b : List Value}, Cells V ρ l a → Cells V ρ m b → Cells V ρ (l ++ m) (a ++ b)
 | [], m, a, b, h1, h2 => by simp only [Cells] at h1; subst h1; exact h2
 | x :: l, m, a, b, h1, h2 => by
   simp only [Cells, List.cons_append] at h1 ⊢;obtain ⟨u, us, rfl, c, d, e, f⟩ := h1;exact ⟨u, us ++ b, by simp, c, d, e, Pf f h2⟩
mutual
theorem Vk {V : View} {ρ : Nat → Value} : ∀ (s : Sh) {cs : List PV} {v : Value}, GC s cs → PCells V cs (An v) → (s.isAg = true → ∃ vs, v = .agg ⟨vs⟩) → (s.isAg = false → ∀ vs, v ≠ .agg vs) → Conc V ρ (Ij s cs) v
 | .int k, cs, v, g, p, _, h => by
   obtain ⟨n, rfl, _⟩ := g;have e : An v = [v] := by cases v <;> first | rfl | exact absurd rfl (h rfl _)
   rw [e] at p;obtain ⟨v', h1, h2⟩ := p.2 0 _ rfl;simp at h1; subst h1;simp only [Ij, Conc, List.headD_cons]; exact h2
 | .bool, cs, v, g, p, _, h => by
   obtain ⟨n, rfl⟩ := g;have e : An v = [v] := by cases v <;> first | rfl | exact absurd rfl (h rfl _)
   rw [e] at p;obtain ⟨v', h1, h2⟩ := p.2 0 _ rfl;simp at h1; subst h1;simp only [Ij, Conc, List.headD_cons]; exact h2
 | .str, cs, v, g, p, _, h => by
   obtain ⟨n, rfl, _⟩ := g;have e : An v = [v] := by cases v <;> first | rfl | exact absurd rfl (h rfl _)
   rw [e] at p;obtain ⟨v', h1, h2⟩ := p.2 0 _ rfl;simp at h1; subst h1;simp only [Ij, Conc, List.headD_cons]; exact h2
 | .sl s, cs, v, g, p, _, h => by
   simp only [GC] at g;obtain ⟨n, rfl, _⟩ := g;have e : An v = [v] := by cases v <;> first | rfl | exact absurd rfl (h rfl _)
   rw [e] at p;obtain ⟨v', h1, h2⟩ := p.2 0 _ rfl;simp at h1; subst h1;simp only [Ij, Conc, List.headD_cons]; exact h2
 | .arr n s, cs, v, g, p, h, _ => by
   obtain ⟨vs, rfl⟩ := h rfl;have hl := g.len;simp only [Ij, Conc];refine ⟨vs, rfl, ?_, p⟩;have e1 : vs.length = cs.length := p.1.symm;rw [e1, hl]; rfl
 | .st l, cs, v, g, p, h, _ => by
   obtain ⟨vs, rfl⟩ := h rfl;simp only [GC] at g;simp only [Ij, Conc];exact ⟨vs, rfl, Lg l g p⟩
theorem Lg {V : View} {ρ : Nat → Value} : ∀ (l : List Sh) {cs : List PV} {vs : List Value}, GCL l cs → PCells V cs vs → Cells V ρ (Mt l cs) vs
 | [], cs, vs, g, p => by
   simp only [GCL] at g; subst g;have : vs = [] := List.eq_nil_of_length_eq_zero (by rw [← p.1]; rfl);subst this;simp only [Mt, Cells]
 | s :: l, cs, vs, g, p => by
   simp only [GCL] at g;obtain ⟨c, cs', rfl, g1, g2⟩ := g;have hl := g1.len;have p1 : PCells V c (vs.take c.length) := by
    have := p.split c.length |>.1;simpa using this
   have p2 : PCells V cs' (vs.drop c.length) := by
    have := p.split c.length |>.2;simpa using this
   have hvs : vs = vs.take c.length ++ vs.drop c.length := (List.take_append_drop _ _).symm;have hlen : (vs.take c.length).length = s.w := by rw [← p1.1, hl]
   simp only [Mt];rw [List.take_left' hl, List.drop_left' hl];rw [hvs];refine Pf ?_ (Lg l g2 p2);cases s with
   | st m =>
     simp only [GC] at g1;simp only [Ij, SV.segs];exact Lg m g1 p1
   | arr n s' =>
     have := Vk (V := V) (ρ := ρ) (.arr n s') (v := .agg ⟨vs.take c.length⟩) g1 (by simpa [An] using p1) (fun _ => ⟨_, rfl⟩) (by simp [Sh.isAg]);simp only [Ij] at this ⊢;simp only [SV.segs, Cells];exact ⟨_, [], by simp [An], this, by simpa [An, SV.width, Sh.w] using hlen, fun v hv => p1.one v (by simpa [An] using hv), rfl⟩
   | int k =>
     obtain ⟨n, rfl, _⟩ := g1;obtain ⟨v, h1, h2⟩ := p1.2 0 _ rfl;have e : vs.take [PV.i k n].length = [v] := by
      match hx : vs.take [PV.i k n].length, h1, hlen with
      | [u], h1, _ => simp at h1; rw [h1]
     have ho := h2.one;have fv : An v = [v] := by cases v <;> first | rfl | exact absurd ho (by simp [Ay])
     rw [e];simp only [Ij, SV.segs, Cells, Conc, List.headD_cons];exact ⟨v, [], by rw [fv]; rfl, h2, by rw [fv]; rfl, by rw [fv]; simpa using ho, rfl⟩
   | bool =>
     obtain ⟨n, rfl⟩ := g1;obtain ⟨v, h1, h2⟩ := p1.2 0 _ rfl;have e : vs.take [PV.b n].length = [v] := by
      match hx : vs.take [PV.b n].length, h1, hlen with
      | [u], h1, _ => simp at h1; rw [h1]
     have ho := h2.one;have fv : An v = [v] := by cases v <;> first | rfl | exact absurd ho (by simp [Ay])
     rw [e];simp only [Ij, SV.segs, Cells, Conc, List.headD_cons];exact ⟨v, [], by rw [fv]; rfl, h2, by rw [fv]; rfl, by rw [fv]; simpa using ho, rfl⟩
   | str =>
     obtain ⟨n, rfl, _⟩ := g1;obtain ⟨v, h1, h2⟩ := p1.2 0 _ rfl;have e : vs.take [PV.s n].length = [v] := by
      match hx : vs.take [PV.s n].length, h1, hlen with
      | [u], h1, _ => simp at h1; rw [h1]
     have ho := h2.one;have fv : An v = [v] := by cases v <;> first | rfl | exact absurd ho (by simp [Ay])
     rw [e];simp only [Ij, SV.segs, Cells, Conc, List.headD_cons];exact ⟨v, [], by rw [fv]; rfl, h2, by rw [fv]; rfl, by rw [fv]; simpa using ho, rfl⟩
   | sl s' =>
     simp only [GC] at g1;obtain ⟨n, rfl, _⟩ := g1;obtain ⟨v, h1, h2⟩ := p1.2 0 _ rfl;have e : vs.take [PV.sl false s'.w n].length = [v] := by
      match hx : vs.take [PV.sl false s'.w n].length, h1, hlen with
      | [u], h1, _ => simp at h1; rw [h1]
     have ho := h2.one;have fv : An v = [v] := by cases v <;> first | rfl | exact absurd ho (by simp [Ay])
     rw [e];simp only [Ij, SV.segs, Cells, Conc, List.headD_cons];exact ⟨v, [], by rw [fv]; rfl, h2, by rw [fv]; rfl, by rw [fv]; simpa using ho, rfl⟩
end
mutual
theorem Yo : ∀ (s : Sh) (cs : List PV), (Ij s cs).closed = true
 | .int k, cs => rfl
 | .bool, cs => rfl
 | .str, cs => rfl
 | .sl s, cs => rfl
 | .arr n s, cs => rfl
 | .st l, cs => by simp only [Ij, SV.closed]; exact H6 l cs
theorem H6 : ∀ (l : List Sh) (cs : List PV), SV.closedL (Mt l cs) = true
 | [], cs => rfl
 | s :: l, cs => by
   simp only [Mt];have h2 := H6 l (cs.drop s.w);have app : ∀ (a b : List SV), SV.closedL a = true → SV.closedL b = true → SV.closedL (a ++ b) = true := fun a b ha hb => by
    induction a with
    | nil => exact hb
    | cons x a ih => simp only [SV.closedL, Bool.and_eq_true, List.cons_append] at ha ⊢; exact ⟨ha.1, ih ha.2⟩
   refine app _ _ ?_ h2;cases s with
   | st m => simp only [Ij, SV.segs]; exact H6 m _
   | int k => rfl
   | bool => rfl
   | str => rfl
   | sl s => rfl
   | arr n s => rfl
end
theorem Agd {P : Program} {w : World} {base : Nat} {t : TypeId} {v : Value} : ∀ {s : Sh}, Yj P s t = true → Value.okWide P w .any base t v → (s.isAg = true → ∃ vs, v = .agg ⟨vs⟩) ∧ (s.isAg = false → ∀ vs, v ≠ .agg vs)
 | .int k, hs, h => by
   simp only [Yj] at hs;split at hs
   · rename_i k' hu;obtain ⟨n, rfl⟩ := WideShapes.okWide_int hu h;exact ⟨fun h => (by cases h), fun _ vs e => by cases e⟩
   · cases hs
 | .bool, hs, h => by
   simp only [Yj] at hs;split at hs
   · rename_i hu;obtain ⟨n, rfl⟩ := WideShapes.okWide_bool hu h;exact ⟨fun h => (by cases h), fun _ vs e => by cases e⟩
   · cases hs
 | .str, hs, h => by
   simp only [Yj] at hs;split at hs
   · rename_i hu;obtain ⟨n, rfl⟩ := WideShapes.okWide_string hu h;exact ⟨fun h => (by cases h), fun _ vs e => by cases e⟩
   · cases hs
 | .sl s, hs, h => by
   simp only [Yj] at hs;split at hs
   · rename_i e hu;obtain ⟨a, b, c, rfl⟩ := WideShapes.okWide_slice hu h;exact ⟨fun h => (by cases h), fun _ vs e => by cases e⟩
   · cases hs
 | .arr n s, hs, h => by
   simp only [Yj] at hs;split at hs
   · rename_i n' e hu;simp only [Value.okWide, hu] at h;obtain ⟨⟨xs⟩, rfl, _⟩ := h;exact ⟨fun _ => ⟨_, rfl⟩, fun h => (by cases h)⟩
   · cases hs
 | .st l, hs, h => by
   simp only [Yj] at hs;split at hs
   · rename_i fs hu;simp only [Value.okWide, hu] at h;obtain ⟨⟨xs⟩, rfl, _⟩ := h;exact ⟨fun _ => ⟨_, rfl⟩, fun h => (by cases h)⟩
   · cases hs
theorem Anv {H : Type} {enc : TypeId × Value → H} {P : Program} {w : World} {spare : Nat → Bool} {held : Bool} {base : Nat} {t : TypeId} {v : Value} {d : DataW H} {ps : List MemPlace} {s : Sh} (hs : Yj P s t = true)
 (hv : Value.okWide P w .any base t v) (h : DataW.Trod enc P w 0 spare held t v d ps) : ∃ cs, GC s cs ∧ Conc (Kk w) (fun _ => undef) (Ij s cs) v := by
 obtain ⟨fuel, hf⟩ := h;obtain ⟨cs, g, p⟩ := Rk s hs hf;rw [D7] at p;obtain ⟨h1, h2⟩ := Agd hs hv;exact ⟨cs, g, Vk s g p h1 h2⟩
end Go.Proofs.YtpgnmmmcomhdcaaGreat.Fw
namespace Go.Proofs.YtpgnmmmcomhdcaaGreat.Fw
open Go.RowKit
theorem Aag {m : Nat} : ∀ {cc : List (List PV)} {i j : Nat}, (∀ c ∈ cc, c.length = m) → j < m → cc.flatten[i * m + j]? = (cc[i]?).bind (·[j]?)
 | [], i, j, _, _ => by simp
 | c :: cc, 0, j, h, hj => by
   have hc := h c (by simp);rw [List.flatten_cons, Nat.zero_mul, Nat.zero_add, List.getElem?_append_left (by omega)]; rfl
 | c :: cc, i + 1, j, h, hj => by
   have hc := h c (by simp);rw [List.flatten_cons, List.getElem?_append_right (by rw [Nat.add_mul]; omega)];rw [show (i + 1) * m + j - c.length = i * m + j from by rw [Nat.add_mul]; omega];rw [Aag (fun c hc => h c (by simp [hc])) hj]; rfl
theorem Anr {n : Nat} {s : Sh} {cs : List PV} (h : GC (.arr n s) cs) : cs.length = n * s.w ∧ ∀ i, i < n → ∃ c, GC s c ∧ ∀ j, j < s.w → cs[i * s.w + j]? = c[j]? := by
 refine ⟨h.len, fun i hi => ?_⟩;simp only [GC] at h;obtain ⟨cc, rfl, rfl, g⟩ := h;refine ⟨cc[i], g _ (List.getElem_mem _), fun j hj => ?_⟩;rw [Aag (fun c hc => (g c hc).len) hj, List.getElem?_eq_getElem hi]; rfl
theorem Aiw {n : Int} (h : (Lit.int .u32 n).wf = true) : 0 ≤ n ∧ n < 4294967296 := by
 simp [Lit.wf, IntKind.min, IntKind.max, IntKind.signed, IntKind.bits] at h; omega
theorem Axh {n : Int} (h : (Lit.int .i64 n).wf = true) : -9223372036854775808 ≤ n ∧ n < 9223372036854775808 := by
 simp [Lit.wf, IntKind.min, IntKind.max, IntKind.signed, IntKind.bits] at h; omega
theorem Afh {n : Nat} {cs : List PV} {f : Nat → PV} (hl : cs.length = n) (h : ∀ i, i < n → cs[i]? = some (f i)) : cs = Cu n f := by
 apply List.ext_getElem?;intro i;by_cases hi : i < n
 · rw [h i hi, E0 hi]
 · rw [List.getElem?_eq_none (by omega), List.getElem?_eq_none (by rw [Cy]; omega)]
theorem Aok {cs : List PV} (h : GC (.arr 8 (.int .u32)) cs) : ∃ a : Vc, cs = vE a ∧ ∀ i, i < 8 → a i < 4294967296 := by
 obtain ⟨hl, g⟩ := Anr h;have key : ∀ i, ∃ n : Nat, i < 8 → cs[i]? = some (.i .u32 n) ∧ n < 4294967296 := fun i => by
  by_cases hi : i < 8
  · obtain ⟨c, ⟨n, rfl, hw⟩, k⟩ := g i hi;have := k 0 (by simp [Sh.w]);simp only [Sh.w, Nat.mul_one, Nat.add_zero] at this;have hr := Aiw hw;refine ⟨n.toNat, fun _ => ⟨?_, by omega⟩⟩;rw [this, show ((n.toNat : Nat) : Int) = n from by omega]; rfl
  · exact ⟨0, fun h => absurd h hi⟩
 obtain ⟨a, ha⟩ := Classical.axiomOfChoice key;exact ⟨a, Afh hl fun i hi => (ha i hi).1, fun i hi => (ha i hi).2⟩
theorem A33 {cs : List PV} (h : GC (.arr 8 (.arr 8 (.int .u32))) cs) : ∃ t : Nat → Vc, cs = tE t ∧ ∀ i, i < 8 → ∀ j, j < 8 → t i j < 4294967296 := by
 obtain ⟨hl, g⟩ := Anr h;have key : ∀ i, ∃ a : Vc, i < 8 → (∀ j, j < 8 → cs[i * 8 + j]? = some (.i .u32 (a j))) ∧ ∀ j, j < 8 → a j < 4294967296 := fun i => by
  by_cases hi : i < 8
  · obtain ⟨c, hc, k⟩ := g i hi;obtain ⟨a, rfl, hb⟩ := Aok hc;refine ⟨a, fun _ => ⟨fun j hj => ?_, hb⟩⟩;have := k j hj;simp only [Sh.w] at this;rw [this]; exact E0 hj _
  · exact ⟨fun _ => 0, fun h => absurd h hi⟩
 obtain ⟨t, ht⟩ := Classical.axiomOfChoice key;refine ⟨t, Afh hl fun i hi => ?_, fun i hi => (ht i hi).2⟩;have := (ht (i / 8) (by omega)).1 (i % 8) (by omega);rw [show i / 8 * 8 + i % 8 = i from by omega] at this;exact this
theorem Aol {s : Sh} {cs : List PV} (h : GC (.sl s) cs) : ∃ es, cs = [.sl false s.w es] ∧ es.length ≤ maxLen ∧ ∀ c ∈ es, GC s c := by
 simp only [GC] at h; exact h
end Go.Proofs.YtpgnmmmcomhdcaaGreat.Fw
namespace Go.Proofs.YtpgnmmmcomhdcaaGreat.Fw
open Go.RowKit Go.Proofs
def Iz (r : Int) (q : Nat) (r' : Int) (q' : Nat) : Bool := decide (q < q' ∨ q = q' ∧ r < r')
theorem Akh (r : Int) (q : Nat) (r' : Int) (q' : Nat) {h d} : FunOk Tryz.prog 80 [.vec 2 [.i .i64 r, .i .u32 q], .vec 2 [.i .i64 r', .i .u32 q']] h d (.pv (.b (Iz r q r' q'))) [] := by
 refine Aq Ao fn80 (by simp) rfl rfl fun F => ?_;by_cases h : q = q'
 · subst h;have e : Iz r q r' q = decide (r < r') := by simp [Iz]
   simp (disch := omega) only [ir80, e, go_sem]
 · have hz : ¬ (q : Int) = (q' : Int) := by omega
   have e : Iz r q r' q' = decide ((q : Int) < (q' : Int)) := by simp [Iz, h]
   simp (disch := omega) only [ir80, e, go_sem]
theorem Aen (r : Int) (q : Nat) (r' : Int) (q' : Nat) {h d} : FunOk Tryz.prog 81 [.vec 2 [.i .i64 r, .i .u32 q], .vec 2 [.i .i64 r', .i .u32 q']] h d (.pv (.b (Iz r q r' q'))) [] := by
 refine Aq Ao fn81 (by simp) rfl rfl fun F => ?_;by_cases h : q = q'
 · subst h;have e : Iz r q r' q = decide (r < r') := by simp [Iz]
   have hl : ¬ (q : Int) < (q : Int) := by omega
   simp (disch := omega) only [ir81, e, hl, go_sem]
 · have hz : ¬ (q : Int) = (q' : Int) := by omega
   have e : Iz r q r' q' = decide ((q : Int) < (q' : Int)) := by simp [Iz, h]
   by_cases hl : (q : Int) < (q' : Int)
   · simp (disch := omega) only [ir81, e, hl, go_sem]
   · simp (disch := omega) only [ir81, e, hl, go_sem]
theorem Oc {r r' : Int} {q q' : Nat} (h : r = r' ∧ q = q') : Sy [.i .i64 r, .i .u32 q] [.i .i64 r', .i .u32 q'] = true := by
 obtain ⟨rfl, rfl⟩ := h; simp [Sy]
theorem Od {r r' : Int} {q q' : Nat} (h : ¬ (r = r' ∧ q = q')) : Sy [.i .i64 r, .i .u32 q] [.i .i64 r', .i .u32 q'] = false := by
 simp only [Sy, decide_eq_false_iff_not];intro e;simp only [List.cons.injEq, PV.i.injEq, true_and, and_true] at e;exact h ⟨e.1, by omega⟩
abbrev I7 := Int × Nat
def Hj (b : I7) : List PV := [.i .i64 b.1, .i .u32 b.2]
def Kl (a : Vc) (r : Int) : Nat := if 1 ≤ r ∧ r ≤ 8 then a (r - 1).toNat else 0
def Cg (a : Vc) (r : Int) (q : Nat) : Bool := decide (1 ≤ q ∧ q ≤ Kl a r)
theorem A0s (a : Vc) (r : Int) {h d} : FunOk Tryz.prog 79 [.vec 8 (vE a), .pv (.i .i64 r)] h d (.pv (.i .u32 (Kl a r))) [] := by
 refine Aq Ao fn79 (by simp) rfl rfl fun F => ?_;by_cases h1 : r < 1
 · have e : Kl a r = 0 := by simp [Kl]; omega
   simp (disch := omega) only [ir79, h1, e, go_sem]
 by_cases h2 : 8 < r
 · have e : Kl a r = 0 := by simp [Kl]; omega
   simp (disch := omega) only [ir79, h1, h2, e, go_sem]
 have e : Kl a r = a (r - 1).toNat := by simp [Kl]; omega
 obtain ⟨k, rfl⟩ : ∃ k : Nat, r = k + 1 := ⟨(r - 1).toNat, by omega⟩
 have ek : ((k : Int) + 1 - 1) = k := by omega
 simp (disch := omega) only [ir79, h1, h2, e, ek, go_sem]
def Wc (a : Vc) (r : Int) (k : Nat) : FS := mk [(5, .pv (.i .i64 k)), (1, .pv (.i .i64 r)), (2, .p 2 0)] [(2, some (.var (.vec 8 (vE a))))]
theorem Ach (a : Vc) (r : Int) {h d} : FunOk Tryz.prog 52 [.vec 8 (vE a), .pv (.i .i64 r)] h d (.pv (.i .u32 (Kl a r))) [] := by
 refine Aq Ao fn52 (by simp) rfl rfl fun F => ?_;simp (disch := omega) only [ir52, go_sem];refine A2 Ao (Wc a r) (fun k => k ≤ 8 ∧ ∀ i : Nat, i < k → (i : Int) + 1 ≠ r) (fun k => 8 - k) 0 (by simp) (Au ?_ ?_) fun k hk => ?_
 · simp (disch := omega) only [go_sem]
 · simp (disch := omega) only [go_sem]
 obtain ⟨hk1, hk2⟩ := hk;by_cases hlt : k < 8
 · by_cases he : (k : Int) + 1 = r
   · subst he;have e : Kl a ((k : Int) + 1) = a k := by
      have e1 : ((k : Int) + 1 - 1).toNat = k := by omega
      simp [Kl, e1]; omega
     simp (disch := omega) only [Wc, e, go_sem]
   · simp (disch := omega) only [Wc, he, go_sem];refine Az (k + 1) _ _ rfl ⟨by omega, fun i hi => ?_⟩ (by omega) ?_ ?_
     · by_cases e : i = k
       · subst e; exact he
       · exact hk2 i (by omega)
     · simp (disch := omega) only [go_sem]
     · simp (disch := omega) only [go_sem]
 · obtain rfl : k = 8 := by omega
   have e : Kl a r = 0 := by
    unfold Kl;rw [if_neg];intro h;exact hk2 (r - 1).toNat (by omega) (by omega)
   simp (disch := omega) only [Wc, e, go_sem]
theorem Ia (a : Vc) (r : Int) (q : Nat) {h d} : FunOk Tryz.prog 50 [.vec 8 (vE a), .vec 2 [.i .i64 r, .i .u32 q]] h d (.pv (.b (Cg a r q))) [] := by
 refine Aq Ao fn50 (by simp) rfl rfl fun F => ?_;by_cases h1 : (1 : Int) ≤ q
 · simp (disch := omega) only [ir50, h1, go_sem];refine Aa (A0s a r) ?_;have e : Cg a r q = decide ((q : Int) ≤ (Kl a r : Int)) := decide_eq_decide.2 (by omega);simp (disch := omega) only [e, go_sem]
 · have e : Cg a r q = false := decide_eq_false (by omega);simp (disch := omega) only [ir50, h1, e, go_sem]
theorem Px (a : Vc) (r : Int) (q : Nat) {h d} : FunOk Tryz.prog 53 [.vec 8 (vE a), .vec 2 [.i .i64 r, .i .u32 q]] h d (.pv (.b (Cg a r q))) [] := by
 refine Aq Ao fn53 (by simp) rfl rfl fun F => ?_;by_cases h1 : (0 : Int) < q
 · simp (disch := omega) only [ir53, h1, go_sem];refine Aa (Ach a r) ?_;have e : Cg a r q = decide ((q : Int) ≤ (Kl a r : Int)) := decide_eq_decide.2 (by omega);simp (disch := omega) only [e, go_sem]
 · have e : Cg a r q = false := decide_eq_false (by omega);simp (disch := omega) only [ir53, h1, e, go_sem]
theorem Ow {l : List SV} {cs : List PV} {n : Nat} (hc : SV.cellsL? l = some cs) (hn : cs.length = n) : Imp (.agg l) (.vec n cs) := by
 intro V ρ v h;have hp := Conc.cells h (x := .agg l) (cs := cs) hc;simp only [Conc] at h ⊢;obtain ⟨vs, rfl, _⟩ := h;exact ⟨vs, rfl, by rw [← hn]; exact hp.1.symm, hp⟩
def ImpL : List SV → List SV → Prop
 | [], [] => True
 | x :: l, y :: m => Imp x y ∧ ImpL l m
 | _, _ => False
theorem ImpL.conc {V : View} {ρ : Nat → Value} : ∀ {l m : List SV} {vs : List Value}, ImpL l m → ConcL V ρ l vs → ConcL V ρ m vs
 | [], [], vs, _, h => h
 | x :: l, y :: m, vs, h, k => by
   simp only [ConcL] at k ⊢;obtain ⟨v, us, rfl, k1, k2⟩ := k;exact ⟨v, us, rfl, h.1 _ _ _ k1, ImpL.conc h.2 k2⟩
 | [], _ :: _, _, h, _ => h.elim
 | _ :: _, [], _, h, _ => h.elim
theorem FunOk.imp {P : Program} {f : Nat} {args args' : List SV} {h d x u} (hf : FunOk P f args' h d x u) (hi : ImpL args args') (ht : ∀ n ∈ A3 args', n ∈ A3 args) : FunOk P f args h d x u :=
 ⟨hf.1, fun F N ρ s a w hR hh vs hc => hf.2 F N ρ s a w hR (fun n hn => hh n (ht n hn)) vs (hi.conc hc)⟩
abbrev Yz : Sh := .st [.int .i64, .int .u32]
theorem Abc {cs : List PV} (h : GC Yz cs) : ∃ b : I7, cs = Hj b ∧ (-9223372036854775808 ≤ b.1 ∧ b.1 < 9223372036854775808) ∧ b.2 < 4294967296 := by
 simp only [GC, GCL] at h;obtain ⟨c, cs', rfl, ⟨n, rfl, hw⟩, c', cs'', rfl, ⟨m, rfl, hw'⟩, rfl⟩ := h;have hr := Aiw hw';exact ⟨(n, m.toNat), by simp [Hj]; omega, Axh hw, by show m.toNat < _; omega⟩
theorem X1 {α : Type} {f : α → List PV} {p : α → Prop} {s : Sh} (key : ∀ {cs}, GC s cs → ∃ x, cs = f x ∧ p x) : ∀ {es : List (List PV)}, (∀ c ∈ es, GC s c) → ∃ l : List α, es = l.map f ∧ ∀ x ∈ l, p x
 | [], _ => ⟨[], rfl, by simp⟩
 | c :: es, h => by
   obtain ⟨l, e, hp⟩ := X1 (es := es) key fun c hc => h c (List.mem_cons_of_mem _ hc);obtain ⟨x, e2, hx⟩ := key (h c List.mem_cons_self);exact ⟨x :: l, by rw [e, e2]; rfl, fun y hy => by
    rcases List.mem_cons.1 hy with hy | hy
    · rw [hy]; exact hx
    · exact hp y hy⟩
structure SlI where
 f : Bool
 z : Nat
 l : List I7
def SlI.pv (g : SlI) : PV := .sl g.f g.z (g.l.map Hj)
def SlI.ok (g : SlI) : Prop := g.l = [] ∨ g.z = 2
def SlI.nil : SlI := ⟨true, 0, []⟩
structure Evt where
 rep : Int
 seq : Nat
 dep : Vc
 kind : Int
 orep : Int
 oseq : Nat
 drep : Int
 dseq : Nat
 name : List UInt8
 gone : SlI
 base : SlI
 off : Int
 data : List UInt8
 ward : Int
def B9 (e : Evt) : List PV := [.i .i64 e.rep, .i .u32 e.seq] ++ vE e.dep ++ [.i .i64 e.kind, .i .i64 e.orep, .i .u32 e.oseq, .i .i64 e.drep, .i .u32 e.dseq, .s e.name, e.gone.pv, e.base.pv, .i .i64 e.off, .s e.data, .i .i64 e.ward]
theorem Ac (e : Evt) : (B9 e).length = 21 := by simp [B9, vE, Cu]
theorem E2 (e : Evt) (K : KK) : LoadK (some (B9 e)) 0 1 false K = K (.pv (.i .i64 e.rep)) [] := by
 simp only [LoadK, Jq, eq_iff_iff];exact ⟨fun h => h.2.2, fun h => ⟨by simp [B9, vE, Cu], .inr trivial, h⟩⟩
theorem Fv (e : Evt) (K : KK) : LoadK (some (B9 e)) 1 1 false K = K (.pv (.i .u32 e.seq)) [] := by
 simp only [LoadK, Jq, eq_iff_iff];exact ⟨fun h => h.2.2, fun h => ⟨by simp [B9, vE, Cu], .inr trivial, h⟩⟩
theorem Eo (e : Evt) (K : KK) : LoadK (some (B9 e)) 10 1 false K = K (.pv (.i .i64 e.kind)) [] := by
 simp only [LoadK, Jq, eq_iff_iff];exact ⟨fun h => h.2.2, fun h => ⟨by simp [B9, vE, Cu], .inr trivial, h⟩⟩
theorem L0 (e : Evt) (K : KK) : LoadK (some (B9 e)) 15 1 false K = K (.pv (.s e.name)) [] := by
 simp only [LoadK, Jq, eq_iff_iff];exact ⟨fun h => h.2.2, fun h => ⟨by simp [B9, vE, Cu], .inr trivial, h⟩⟩
theorem Rw (e : Evt) (K : KK) : LoadK (some (B9 e)) 16 1 false K = K (.pv (e.gone.pv)) [] := by
 simp only [LoadK, Jq, eq_iff_iff];exact ⟨fun h => h.2.2, fun h => ⟨by simp [B9, vE, Cu], .inr trivial, h⟩⟩
theorem W6 (e : Evt) (K : KK) : LoadK (some (B9 e)) 17 1 false K = K (.pv (e.base.pv)) [] := by
 simp only [LoadK, Jq, eq_iff_iff];exact ⟨fun h => h.2.2, fun h => ⟨by simp [B9, vE, Cu], .inr trivial, h⟩⟩
theorem Aq1 (e : Evt) (K : KK) : LoadK (some (B9 e)) 18 1 false K = K (.pv (.i .i64 e.off)) [] := by
 simp only [LoadK, Jq, eq_iff_iff];exact ⟨fun h => h.2.2, fun h => ⟨by simp [B9, vE, Cu], .inr trivial, h⟩⟩
theorem Oq (e : Evt) (K : KK) : LoadK (some (B9 e)) 19 1 false K = K (.pv (.s e.data)) [] := by
 simp only [LoadK, Jq, eq_iff_iff];exact ⟨fun h => h.2.2, fun h => ⟨by simp [B9, vE, Cu], .inr trivial, h⟩⟩
theorem Aq0 (e : Evt) (K : KK) : LoadK (some (B9 e)) 20 1 false K = K (.pv (.i .i64 e.ward)) [] := by
 simp only [LoadK, Jq, eq_iff_iff];exact ⟨fun h => h.2.2, fun h => ⟨by simp [B9, vE, Cu], .inr trivial, h⟩⟩
theorem B0 (e : Evt) (K : KK) : LoadK (some (B9 e)) 0 2 true K = K (.vec 2 ([.i .i64 e.rep, .i .u32 e.seq])) [] := by
 simp only [LoadK, Jq, eq_iff_iff];exact ⟨fun h => h.2.2, fun h => ⟨by simp [B9, vE, Cu], .inl trivial, h⟩⟩
theorem K8 (e : Evt) (K : KK) : LoadK (some (B9 e)) 2 8 true K = K (.vec 8 (vE e.dep)) [] := by
 simp only [LoadK, Jq, eq_iff_iff];exact ⟨fun h => h.2.2, fun h => ⟨by simp [B9, vE, Cu], .inl trivial, h⟩⟩
theorem Alg (e : Evt) (K : KK) : LoadK (some (B9 e)) 11 2 true K = K (.vec 2 ([.i .i64 e.orep, .i .u32 e.oseq])) [] := by
 simp only [LoadK, Jq, eq_iff_iff];exact ⟨fun h => h.2.2, fun h => ⟨by simp [B9, vE, Cu], .inl trivial, h⟩⟩
theorem Tl (e : Evt) (K : KK) : LoadK (some (B9 e)) 13 2 true K = K (.vec 2 ([.i .i64 e.drep, .i .u32 e.dseq])) [] := by
 simp only [LoadK, Jq, eq_iff_iff];exact ⟨fun h => h.2.2, fun h => ⟨by simp [B9, vE, Cu], .inl trivial, h⟩⟩
theorem Ev (e : Evt) (K : KK) : LoadK (some (B9 e)) 0 21 true K = K (.vec 21 (B9 e)) [] := M7 (Ac e) K
theorem Fu (e : Evt) {j : Nat} (h : j < 8) (K : KK) : LoadK (some (B9 e)) (2 + j) 1 false K = K (.pv (.i .u32 (e.dep j))) [] := by
 have : j = 0 ∨ j = 1 ∨ j = 2 ∨ j = 3 ∨ j = 4 ∨ j = 5 ∨ j = 6 ∨ j = 7 := by omega
 simp only [LoadK, Jq, eq_iff_iff];rcases this with rfl | rfl | rfl | rfl | rfl | rfl | rfl | rfl <;> exact ⟨fun h => h.2.2, fun h => ⟨by simp [B9, vE, Cu], .inr trivial, h⟩⟩
theorem Aur (e : Evt) (r : Int) (q : Nat) : splice (B9 e) 11 [.i .i64 r, .i .u32 q] = B9 { e with orep := r, oseq := q } := rfl
theorem Aus (e : Evt) (r : Int) (q : Nat) : splice (B9 e) 13 [.i .i64 r, .i .u32 q] = B9 { e with drep := r, dseq := q } := rfl
theorem Hq (e : Evt) (s : List UInt8) : splice (B9 e) 15 [.s s] = B9 { e with name := s } := rfl
theorem Aph (e : Evt) (f : Bool) (z : Nat) (l : List I7) : splice (B9 e) 16 [.sl f z (l.map Hj)] = B9 { e with gone := ⟨f, z, l⟩ } := rfl
theorem Api (e : Evt) (f : Bool) (z : Nat) (l : List I7) : splice (B9 e) 17 [.sl f z (l.map Hj)] = B9 { e with base := ⟨f, z, l⟩ } := rfl
theorem Kt (e : Evt) (n : Int) : splice (B9 e) 18 [.i .i64 n] = B9 { e with off := n } := rfl
theorem Hs (e : Evt) (s : List UInt8) : splice (B9 e) 19 [.s s] = B9 { e with data := s } := rfl
theorem Ho (e : Evt) (n : Int) : splice (B9 e) 20 [.i .i64 n] = B9 { e with ward := n } := rfl
theorem Hp (e : Evt) : splice (B9 e) 11 [.i .i64 0, .i .u32 0] = B9 { e with orep := 0, oseq := 0 } := Aur e 0 0
theorem Hr (e : Evt) : splice (B9 e) 13 [.i .i64 0, .i .u32 0] = B9 { e with drep := 0, dseq := 0 } := Aus e 0 0
theorem Ga (e : Evt) : splice (B9 e) 16 [.sl true 0 []] = B9 { e with gone := .nil } := Aph e true 0 []
theorem Gb (e : Evt) : splice (B9 e) 17 [.sl true 0 []] = B9 { e with base := .nil } := Api e true 0 []
theorem Dk (e e' : Evt) : splice (B9 e) 0 (B9 e') = B9 e' := rfl
attribute [go_sem] E2 Fv Eo L0 Rw W6 Aq1 Oq Aq0 B0 K8 Alg Tl Ev Ac SlI.pv Dq List.length_map
def Br (e : Evt) : Evt :=
 if e.kind = 1 ∨ e.kind = 2 then { e with drep := 0, dseq := 0, name := [] }
 else if e.kind = 3 then { e with orep := 0, oseq := 0, base := .nil, off := 0, data := [] }
 else if e.kind = 4 then { e with orep := 0, oseq := 0, base := .nil, off := 0 }
 else if e.kind = 5 then { e with orep := 0, oseq := 0, base := .nil, data := [] }
 else if e.kind = 6 then { e with orep := 0, oseq := 0, gone := .nil }
 else if e.kind = 7 then { e with orep := 0, oseq := 0, gone := .nil, drep := 0, dseq := 0, name := [] }
 else if e.kind = 8 then { e with ward := 0 }
 else e
set_option maxHeartbeats 4000000 in
theorem Av5 (e : Evt) {h d} : FunOk Tryz.prog 46 [.vec 21 (B9 e)] h d (.vec 21 (B9 (Br e))) [] := by
 refine Aq Ao fn46 (by simp) rfl rfl fun F => ?_;have hl := Ac e;by_cases h1 : e.kind = 1
 · have eb : Br e = { e with drep := 0, dseq := 0, name := [] } := by simp [Br, h1]
   simp (disch := omega) only [ir46, Eo, h1, Hr, Hq, Hp, Gb, Ga, Kt, Hs, Ho, Ev, Ac, eb, go_sem]
 by_cases h2 : e.kind = 2
 · have eb : Br e = { e with drep := 0, dseq := 0, name := [] } := by simp [Br, h2]
   simp (disch := omega) only [ir46, Eo, h2, Hr, Hq, Hp, Gb, Ga, Kt, Hs, Ho, Ev, Ac, eb, go_sem]
 by_cases h3 : e.kind = 3
 · have eb : Br e = { e with orep := 0, oseq := 0, base := .nil, off := 0, data := [] } := by simp [Br, h3]
   simp (disch := omega) only [ir46, Eo, h3, Hr, Hq, Hp, Gb, Ga, Kt, Hs, Ho, Ev, Ac, eb, go_sem]
 by_cases h4 : e.kind = 4
 · have eb : Br e = { e with orep := 0, oseq := 0, base := .nil, off := 0 } := by simp [Br, h4]
   simp (disch := omega) only [ir46, Eo, h4, Hr, Hq, Hp, Gb, Ga, Kt, Hs, Ho, Ev, Ac, eb, go_sem]
 by_cases h5 : e.kind = 5
 · have eb : Br e = { e with orep := 0, oseq := 0, base := .nil, data := [] } := by simp [Br, h5]
   simp (disch := omega) only [ir46, Eo, h5, Hr, Hq, Hp, Gb, Ga, Kt, Hs, Ho, Ev, Ac, eb, go_sem]
 by_cases h6 : e.kind = 6
 · have eb : Br e = { e with orep := 0, oseq := 0, gone := .nil } := by simp [Br, h6]
   simp (disch := omega) only [ir46, Eo, h6, Hr, Hq, Hp, Gb, Ga, Kt, Hs, Ho, Ev, Ac, eb, go_sem]
 by_cases h7 : e.kind = 7
 · have eb : Br e = { e with orep := 0, oseq := 0, gone := .nil, drep := 0, dseq := 0, name := [] } := by simp [Br, h7]
   simp (disch := omega) only [ir46, Eo, h7, Hr, Hq, Hp, Gb, Ga, Kt, Hs, Ho, Ev, Ac, eb, go_sem]
 by_cases h8 : e.kind = 8
 · have eb : Br e = { e with ward := 0 } := by simp [Br, h8]
   simp (disch := omega) only [ir46, Eo, h8, Hr, Hq, Hp, Gb, Ga, Kt, Hs, Ho, Ev, Ac, eb, go_sem]
 have eb : Br e = e := by simp [Br, h1, h2, h3, h4, h5, h6, h7, h8]
 simp (disch := omega) only [ir46, Eo, h1, h2, h3, h4, h5, h6, h7, h8, Ev, Ac, eb, go_sem]
end Go.Proofs.YtpgnmmmcomhdcaaGreat.Fw
namespace Go.Proofs.YtpgnmmmcomhdcaaGreat.Fw
open Go.RowKit Go.Proofs
def Bo (r : Int) (q : Nat) : Bool := decide (r = 0 ∧ q = 0)
theorem Tk (r : Int) (q : Nat) (K : KK) : LoadK (some [PV.i .i64 r, PV.i .u32 q]) 0 1 false K = K (.pv (.i .i64 r)) [] := C6 ..
theorem Tj (r : Int) (q : Nat) (K : KK) : LoadK (some [PV.i .i64 r, PV.i .u32 q]) 1 1 false K = K (.pv (.i .u32 q)) [] := by
 rw [Aew]; exact C6 ..
theorem Ap (r : Int) (q : Nat) {h d} : FunOk Tryz.prog 54 [.vec 2 [.i .i64 r, .i .u32 q]] h d (.pv (.b (Bo r q))) [] := by
 refine Aq Ao fn54 (by simp) rfl rfl fun F => ?_;by_cases h1 : r = 0
 · by_cases h2 : q = 0
   · have e : Bo r q = true := decide_eq_true ⟨h1, h2⟩;simp (disch := omega) only [ir54, Tk, Tj, h1, h2, e, Int.natCast_zero, go_sem];rw [← h1, ← h2, e]
   · have e : Bo r q = false := decide_eq_false (by omega);have h3 : ¬ (q : Int) = 0 := by omega
     simp (disch := omega) only [ir54, Tk, Tj, h3, e, h1, go_sem];rw [← h1, e]
 · have e : Bo r q = false := decide_eq_false (by omega);simp (disch := omega) only [ir54, Tk, Tj, h1, e, go_sem]
theorem Ag (r : Int) (q : Nat) : Du [K1.int .i64, K1.int .u32] [.i .i64 r, .i .u32 q] = True := eq_true rfl
theorem Al : Du [K1.int .i64, K1.int .u32] [.i .i64 0, .i .u32 0] = True := eq_true rfl
theorem Ak (r : Int) (q : Nat) : Sy [.i .i64 r, .i .u32 q] [.i .i64 0, .i .u32 0] = Bo r q := by
 by_cases h : r = 0 ∧ q = 0
 · rw [show Bo r q = true from decide_eq_true h];exact Oc (q' := 0) h
 · rw [show Bo r q = false from decide_eq_false h];exact Od (q' := 0) h
def Bv (e : Evt) : Bool := Bo e.drep e.dseq || Cg e.dep e.drep e.dseq
theorem Ww (e : Evt) {h d} : FunOk Tryz.prog 48 [.vec 21 (B9 e)] h d (.pv (.b (Bv e))) [] := by
 refine Aq Ao fn48 (by simp) rfl rfl fun F => ?_;have hl := Ac e;cases hz : Bo e.drep e.dseq with
 | true =>
   have eb : Bv e = true := by simp [Bv, hz]
   simp (disch := omega) only [ir48, Tl, Ac, Ag, Al, Ak, hz, eb, go_sem]
 | false =>
   have eb : Bv e = Cg e.dep e.drep e.dseq := by simp [Bv, hz]
   simp (disch := omega) only [ir48, Tl, K8, Ac, Ag, Al, Ak, hz, eb, go_sem];refine Aa (Ia _ _ _) ?_;simp (disch := omega) only [go_sem]
def Cb (n : Int) : Bool := decide (0 ≤ n ∧ n ≤ 200)
theorem S2 (n : Int) {h d} : FunOk Tryz.prog 47 [.pv (.i .i64 n)] h d (.pv (.b (Cb n))) [] := by
 refine Aq Ao fn47 (by simp) rfl rfl fun F => ?_;by_cases h1 : 0 ≤ n
 · have e : Cb n = decide (n ≤ 200) := decide_eq_decide.2 (by omega);simp (disch := omega) only [ir47, h1, e, go_sem]
 · have e : Cb n = false := decide_eq_false (by omega);simp (disch := omega) only [ir47, h1, e, go_sem]
def Afl (a : Vc) (l : List I7) : Prop := ∀ i, (h : i < l.length) → Cg a l[i].1 l[i].2 = true ∧ (0 < i → Iz l[i - 1].1 l[i - 1].2 l[i].1 l[i].2 = true)
open Classical in
noncomputable def E8 (a : Vc) (l : List I7) : Bool := decide (Afl a l)
theorem Aec {a : Vc} {l : List I7} (h : Afl a l) : E8 a l = true := by simp [E8, h]
theorem Rp {a : Vc} {l : List I7} (h : ¬ Afl a l) : E8 a l = false := by simp [E8, h]
theorem Er (x : I7) (K : KK) : LoadK (some (Hj x)) 0 2 true K = K (.vec 2 [.i .i64 x.1, .i .u32 x.2]) [] := M7 (by rfl) K
def Nz (f : Bool) (z : Nat) (l : List I7) (a : Vc) (k : Nat) : FS := mk [(15, .pv (.i .i64 k)), (14, .pv (.i .i64 l.length)), (13, .pv (.sl f z (l.map Hj))), (0, .pv (.sl f z (l.map Hj))), (5, .p 5 0)] [(5, some (.var (.vec 8 (vE a))))]
noncomputable def Dm (l : List I7) (most : Int) (a : Vc) : Bool := decide ((l.length : Int) ≤ most) && E8 a l
theorem U2 {a : Vc} {l : List I7} {k : Nat} (hk : ∀ i, (h : i < l.length) → i < k → Cg a l[i].1 l[i].2 = true ∧ (0 < i → Iz l[i - 1].1 l[i - 1].2 l[i].1 l[i].2 = true)) (hlt : k < l.length)
 (h1 : Cg a l[k].1 l[k].2 = true) (h2 : 0 < k → Iz l[k - 1].1 l[k - 1].2 l[k].1 l[k].2 = true) : ∀ i, (h : i < l.length) → i < k + 1 → Cg a l[i].1 l[i].2 = true ∧ (0 < i → Iz l[i - 1].1 l[i - 1].2 l[i].1 l[i].2 = true) := fun i h hi => by
 by_cases e : i = k
 · subst e; exact ⟨h1, h2⟩
 · exact hk i h (by omega)
set_option maxHeartbeats 2000000 in
theorem Zn {f : Bool} {z : Nat} {l : List I7} {most : Int} {a : Vc} {h d} (hz : l = [] ∨ z = 2) (hn : l.length ≤ 1000) :
 FunOk Tryz.prog 51 [.pv (.sl f z (l.map Hj)), .pv (.i .i64 most), .vec 8 (vE a)] h d (.pv (.b (Dm l most a))) [] := by
 refine Aq Ao fn51 (by simp) rfl rfl fun F => ?_;by_cases hm : most < (l.length : Int)
 · have eb : Dm l most a = false := by
    have : ¬ (l.length : Int) ≤ most := by omega
    simp [Dm, this]
   simp (disch := omega) only [ir51, List.length_map, hm, eb, go_sem]
 have eb : Dm l most a = E8 a l := by
  have : (l.length : Int) ≤ most := by omega
  simp [Dm, this]
 rw [eb];simp (disch := omega) only [ir51, List.length_map, hm, go_sem];refine A2 Ao (Nz f z l a) (fun k => k ≤ l.length ∧ ∀ i, (h : i < l.length) → i < k → Cg a l[i].1 l[i].2 = true ∧ (0 < i → Iz l[i - 1].1 l[i - 1].2 l[i].1 l[i].2 = true)) (fun k => l.length - k) 0 (by simp) (Au ?_ ?_) fun k hk => ?_
 · simp (disch := omega) only [List.length_map, go_sem]
 · simp (disch := omega) only [go_sem]
 obtain ⟨hk1, hk2⟩ := hk;by_cases hlt : k < l.length
 · have hz2 : z = 2 := hz.resolve_left fun e => by subst e; simp at hlt
   subst hz2;have he : (l.map Hj)[k]? = some (Hj l[k]) := by simp [hlt]
   have hst := U2 hk2 hlt;by_cases hh : Cg a l[k].1 l[k].2 = true
   · by_cases h0 : k = 0
     · subst h0;have e0 : (l.map Hj)[0]? = some (Hj l[0]) := he;simp (disch := omega) only [Nz, List.length_map, he, e0, Er, Dq, Int.natCast_zero, go_sem];refine Aa (Ia _ _ _) ?_;simp (disch := omega) only [hh, Int.natCast_zero, go_sem];refine Az (x := (0 : Nat)) (1 : Nat) _ _ rfl ⟨by omega, hst hh (by omega)⟩ (by omega) ?_ ?_
       · simp (disch := omega) only [go_sem]
       · simp (disch := omega) only [go_sem]
     · have hk' : k - 1 < l.length := by omega
       have he' : (l.map Hj)[k - 1]? = some (Hj l[k - 1]) := by simp [hk']
       have ek : ((k : Int) - 1).toNat = k - 1 := by omega
       have hpos : (0 : Int) < k := by omega
       by_cases hlt2 : Iz l[k - 1].1 l[k - 1].2 l[k].1 l[k].2 = true
       · simp (disch := omega) only [Nz, List.length_map, he, he', ek, hpos, Er, Dq, go_sem];refine Aa (Ia _ _ _) ?_;simp (disch := omega) only [hh, he, he', ek, hpos, Er, List.length_map, go_sem];refine Aa (Akh _ _ _ _) ?_;simp (disch := omega) only [hlt2, go_sem];refine Az (k + 1) _ _ rfl ⟨by omega, hst hh fun _ => hlt2⟩ (by omega) ?_ ?_
         · simp (disch := omega) only [go_sem]
         · simp (disch := omega) only [go_sem]
       · have hlt3 : Iz l[k - 1].1 l[k - 1].2 l[k].1 l[k].2 = false := by simpa using hlt2
         have er := Rp (a := a) (l := l) fun h => hlt2 ((h k hlt).2 (by omega));simp (disch := omega) only [Nz, List.length_map, he, he', ek, hpos, Er, Dq, go_sem];refine Aa (Ia _ _ _) ?_;simp (disch := omega) only [hh, he, he', ek, hpos, Er, List.length_map, go_sem];refine Aa (Akh _ _ _ _) ?_;simp (disch := omega) only [hlt3, er, Nz, go_sem]
   · have hh' : Cg a l[k].1 l[k].2 = false := by simpa using hh
     have er := Rp (a := a) (l := l) fun h => hh (h k hlt).1;simp (disch := omega) only [Nz, List.length_map, he, Er, Dq, go_sem];refine Aa (Ia _ _ _) ?_;simp (disch := omega) only [hh', er, Nz, go_sem]
 · obtain rfl : k = l.length := by omega
   have er := Aec (a := a) (l := l) fun i h => hk2 i h h;simp (disch := omega) only [Nz, List.length_map, er, Nz, go_sem]
def Jc (f : Bool) (z : Nat) (l : List I7) (a : Vc) (k : Nat) : FS := mk [(5, .pv (.i .i64 k)), (0, .pv (.sl f z (l.map Hj))), (3, .p 3 0)] [(3, some (.var (.vec 8 (vE a))))]
set_option maxHeartbeats 2000000 in
theorem Ake {f : Bool} {z : Nat} {l : List I7} {a : Vc} {h d} (hz : l = [] ∨ z = 2) (hn : l.length ≤ 1000) :
 FunOk Tryz.prog 55 [.pv (.sl f z (l.map Hj)), .vec 8 (vE a)] h d (.pv (.b (E8 a l))) [] := by
 refine Aq Ao fn55 (by simp) rfl rfl fun F => ?_;simp (disch := omega) only [ir55, List.length_map, go_sem];refine A2 Ao (Jc f z l a) (fun k => k ≤ l.length ∧ ∀ i, (h : i < l.length) → i < k → Cg a l[i].1 l[i].2 = true ∧ (0 < i → Iz l[i - 1].1 l[i - 1].2 l[i].1 l[i].2 = true)) (fun k => l.length - k) 0 (by simp) (Au ?_ ?_) fun k hk => ?_
 · simp (disch := omega) only [go_sem]
 · simp (disch := omega) only [go_sem]
 obtain ⟨hk1, hk2⟩ := hk;by_cases hlt : k < l.length
 · have hz2 : z = 2 := hz.resolve_left fun e => by subst e; simp at hlt
   subst hz2;have he : (l.map Hj)[k]? = some (Hj l[k]) := by simp [hlt]
   have hst := U2 hk2 hlt;by_cases hh : Cg a l[k].1 l[k].2 = true
   · by_cases h0 : k = 0
     · subst h0;have e0 : (l.map Hj)[0]? = some (Hj l[0]) := he;simp (disch := omega) only [Jc, List.length_map, he, e0, Er, Dq, Int.natCast_zero, go_sem];refine Aa (Px _ _ _) ?_;simp (disch := omega) only [hh, Int.natCast_zero, go_sem];refine Az (x := (0 : Nat)) (1 : Nat) _ _ rfl ⟨by omega, hst hh (by omega)⟩ (by omega) ?_ ?_
       · simp (disch := omega) only [go_sem]
       · simp (disch := omega) only [go_sem]
     · have hk' : k - 1 < l.length := by omega
       have he' : (l.map Hj)[k - 1]? = some (Hj l[k - 1]) := by simp [hk']
       have ek : ((k : Int) - 1).toNat = k - 1 := by omega
       have hpos : (0 : Int) < k := by omega
       by_cases hlt2 : Iz l[k - 1].1 l[k - 1].2 l[k].1 l[k].2 = true
       · simp (disch := omega) only [Jc, List.length_map, he, he', ek, hpos, Er, Dq, go_sem];refine Aa (Px _ _ _) ?_;simp (disch := omega) only [hh, he, he', ek, hpos, Er, List.length_map, go_sem];refine Aa (Aen _ _ _ _) ?_;simp (disch := omega) only [hlt2, go_sem];refine Az (k + 1) _ _ rfl ⟨by omega, hst hh fun _ => hlt2⟩ (by omega) ?_ ?_
         · simp (disch := omega) only [go_sem]
         · simp (disch := omega) only [go_sem]
       · have hlt3 : Iz l[k - 1].1 l[k - 1].2 l[k].1 l[k].2 = false := by simpa using hlt2
         have er := Rp (a := a) (l := l) fun h => hlt2 ((h k hlt).2 (by omega));simp (disch := omega) only [Jc, List.length_map, he, he', ek, hpos, Er, Dq, go_sem];refine Aa (Px _ _ _) ?_;simp (disch := omega) only [hh, he, he', ek, hpos, Er, List.length_map, go_sem];refine Aa (Aen _ _ _ _) ?_;simp (disch := omega) only [hlt3, er, Jc, go_sem]
   · have hh' : Cg a l[k].1 l[k].2 = false := by simpa using hh
     have er := Rp (a := a) (l := l) fun h => hh (h k hlt).1;simp (disch := omega) only [Jc, List.length_map, he, Er, Dq, go_sem];refine Aa (Px _ _ _) ?_;simp (disch := omega) only [hh', er, Jc, go_sem]
 · obtain rfl : k = l.length := by omega
   have er := Aec (a := a) (l := l) fun i h => hk2 i h h;simp (disch := omega) only [Jc, List.length_map, er, Jc, go_sem]
def Bc (n : Nat) : List UInt8 := if h : n = 0 then [] else Bc (n / 256) ++ [UInt8.ofNat (n % 256)]
decreasing_by omega
theorem Gm : Bc 0 = [] := by unfold Bc; simp
theorem Hb {n : Nat} (h : n ≠ 0) : Bc n = Bc (n / 256) ++ [UInt8.ofNat (n % 256)] := by conv => lhs; unfold Bc; rw [dif_neg h]
theorem Wy {n : Nat} : 0 < (Bc n).length ↔ n ≠ 0 := by
 constructor
 · intro h e; subst e; rw [Gm] at h; simp at h
 · intro h; rw [Hb h]; simp
theorem C5 : ∀ (k n : Nat), n < 256 ^ k → (Bc n).length ≤ k
 | 0, n, h => by
   have : n = 0 := by simpa using h
   subst this; rw [Gm]; simp
 | k + 1, n, h => by
   by_cases hn : n = 0
   · subst hn; rw [Gm]; simp
   · rw [Hb hn, List.length_append];have := C5 k (n / 256) (by
      rw [Nat.pow_succ] at h;exact Nat.div_lt_of_lt_mul (by rw [Nat.mul_comm]; exact h))
     simp; exact this
def Fd (l : List UInt8) : Nat := l.foldl (fun n c => n * 256 + c.toNat) 0
theorem Lp (l : List UInt8) (c : UInt8) : Fd (l ++ [c]) = Fd l * 256 + c.toNat := by simp [Fd]
theorem Uw (n : Nat) : Fd (Bc n) = n := by
 induction n using Nat.strongRecOn with
 | _ n ih =>
   by_cases hn : n = 0
   · subst hn; rw [Gm]; rfl
   · rw [Hb hn, Lp, ih _ (by omega), UInt8.toNat_ofNat'];have : n % 256 % 2 ^ 8 = n % 256 := Nat.mod_eq_of_lt (by omega);rw [this]; omega
theorem Yu {p : List UInt8 → Prop} (h0 : p []) (h1 : ∀ l c, p l → p (l ++ [c])) (l : List UInt8) : p l := by
 have key : ∀ l : List UInt8, p l.reverse := fun l => by
  induction l with
  | nil => exact h0
  | cons c l ih => rw [List.reverse_cons]; exact h1 _ _ ih
 have := key l.reverse
 rwa [List.reverse_reverse] at this
theorem Ad0 (l : List UInt8) : Fd l < 256 ^ l.length := by
 refine Yu (p := fun l => Fd l < 256 ^ l.length) (by simp [Fd]) (fun l c ih => ?_) l;rw [Lp, List.length_append, List.length_singleton, Nat.pow_succ];have := c.toNat_lt;omega
theorem Arr (l : List UInt8) (c : UInt8) (h : l ≠ []) : (l ++ [c]).head? = l.head? := by cases l <;> simp_all
theorem Agi (l : List UInt8) : Bc (Fd l) = l ↔ l.head? ≠ some 0 := by
 refine Yu (p := fun l => Bc (Fd l) = l ↔ l.head? ≠ some 0) (by simp [Fd, Gm]) (fun l c ih => ?_) l;rw [Lp];have hc := c.toNat_lt;have hcc : UInt8.ofNat c.toNat = c := UInt8.ofNat_toNat;by_cases hl : l = []
 · subst hl;have hv : Fd [] = 0 := rfl;rw [hv, Nat.zero_mul, Nat.zero_add, List.nil_append];simp only [List.head?_cons, ne_eq, Option.some.injEq];by_cases h0 : c.toNat = 0
   · have : c = 0 := UInt8.toNat_inj.1 (by simpa using h0);subst this;simp [Gm]
   · have hne : c ≠ 0 := fun e => h0 (by rw [e]; rfl);rw [Hb h0, show c.toNat / 256 = 0 from by omega, Gm, show c.toNat % 256 = c.toNat from by omega, hcc];simp [hne]
 · rw [Arr l c hl];have hlen : Fd l ≠ 0 → Bc (Fd l * 256 + c.toNat) = Bc (Fd l) ++ [c] := fun hv => by
    rw [Hb (by omega), show (Fd l * 256 + c.toNat) / 256 = Fd l from by omega, show (Fd l * 256 + c.toNat) % 256 = c.toNat from by omega, hcc]
   constructor
   · intro e;by_cases hv : Fd l = 0
     · intro hh;rw [hv, Nat.zero_mul, Nat.zero_add] at e;have h1 := congrArg List.length e;have h2 := C5 1 c.toNat (by omega);have h3 : 0 < l.length := List.length_pos_iff.2 hl;simp at h1; omega
     · rw [hlen hv] at e;exact ih.1 (List.append_cancel_right e)
   · intro hh;have e := ih.2 hh;have hv : Fd l ≠ 0 := fun hv => by rw [hv, Gm] at e; exact hl e.symm
     rw [hlen hv, e]
theorem Aiu {l : List UInt8} (h : l.length ≤ 8) : Fd l < 18446744073709551616 := by
 have h1 := Ad0 l;have h2 : 256 ^ l.length ≤ 256 ^ 8 := Nat.pow_le_pow_right (by omega) h;omega
def Co (l : List UInt8) : Nat × Int := if 8 < l.length then (0, 4) else if l.head? = some 0 then (0, 7) else (Fd l, 0)
theorem Aay (l : List UInt8) : (Co l).1 < 18446744073709551616 := by
 unfold Co;split
 · simp
 · split
   · simp
   · exact Aiu (by omega)
def Dg (f : List UInt8) : List UInt8 := if f.length < 255 then UInt8.ofNat f.length :: f else 255 :: UInt8.ofNat (f.length / 256) :: UInt8.ofNat f.length :: f
def Cv : List (List UInt8) → List UInt8
 | [] => []
 | f :: l => Dg f ++ Cv l
theorem Lu : ∀ (a b : List (List UInt8)), Cv (a ++ b) = Cv a ++ Cv b
 | [], b => rfl
 | f :: a, b => by simp only [List.cons_append, Cv, Lu a b, List.append_assoc]
theorem O7 {f : List UInt8} (h : f.length < 255) : Dg f = UInt8.ofNat f.length :: f := if_pos h
theorem Q2 {f : List UInt8} (h : ¬ f.length < 255) : Dg f = 255 :: UInt8.ofNat (f.length / 256) :: UInt8.ofNat f.length :: f := if_neg h
theorem J4 (f : List UInt8) : (Dg f).length = f.length + if f.length < 255 then 1 else 3 := by
 unfold Dg; split <;> simp
theorem Ahp (f : List UInt8) : Dg f ≠ [] := by unfold Dg; split <;> simp
def Bx (l : List UInt8) : Nat × Nat × Int :=
 if (l.getD 0 0).toNat < 255 then ((l.getD 0 0).toNat, 1, 0)
 else if l.length < 3 then (0, 0, 8)
 else if (l.getD 1 0).toNat * 256 + (l.getD 2 0).toNat < 255 then (0, 0, 7)
 else ((l.getD 1 0).toNat * 256 + (l.getD 2 0).toNat, 3, 0)
def O9 (l : List UInt8) : Int := if (Bx l).2.2 = 0 then if l.length < (Bx l).2.1 + (Bx l).1 then 8 else 0 else (Bx l).2.2
def Aad (l : List UInt8) : List UInt8 := (l.drop (Bx l).2.1).take (Bx l).1
def Y8 (l : List UInt8) : List UInt8 := l.drop ((Bx l).2.1 + (Bx l).1)
theorem Acx {l : List UInt8} (h : (Bx l).2.2 = 0) : 1 ≤ (Bx l).2.1 := by
 unfold Bx at *;split
 · simp
 · rename_i h1;rw [if_neg h1] at h;split
   · rename_i h2; rw [if_pos h2] at h; simp at h
   · rename_i h2;rw [if_neg h2] at h;split
     · rename_i h3; rw [if_pos h3] at h; simp at h
     · simp
theorem Ahs {l : List UInt8} (h : O9 l = 0) : (Bx l).2.2 = 0 ∧ (Bx l).2.1 + (Bx l).1 ≤ l.length := by
 unfold O9 at h;split at h
 · rename_i h1;split at h
   · cases h
   · exact ⟨h1, by omega⟩
 · rename_i h1; exact absurd h h1
theorem Ad9 {l : List UInt8} (hl : l ≠ []) (h : O9 l = 0) : (Y8 l).length < l.length := by
 obtain ⟨h1, h2⟩ := Ahs h;have := Acx h1;have := List.length_pos_iff.2 hl;unfold Y8;rw [List.length_drop]; omega
def Cj (l : List UInt8) (out : List (List UInt8)) (most : Int) : List (List UInt8) × Int :=
 if hl : l = [] then (out, 0)
 else if h : O9 l = 0 then
  if most ≤ out.length then ([], 4) else Cj (Y8 l) (out ++ [Aad l]) most
 else ([], O9 l)
termination_by l.length
decreasing_by exact Ad9 hl h
theorem Qm (out most) : Cj [] out most = (out, 0) := by rw [Cj]; simp
theorem Ym {l out most} (hl : l ≠ []) (h : O9 l ≠ 0) : Cj l out most = ([], O9 l) := by rw [Cj, dif_neg hl, dif_neg h]
theorem V3 {l out} {most : Int} (hl : l ≠ []) (h : O9 l = 0) (hm : most ≤ out.length) : Cj l out most = ([], 4) := by rw [Cj, dif_neg hl, dif_pos h, if_pos hm]
theorem Se {l out} {most : Int} (hl : l ≠ []) (h : O9 l = 0) (hm : ¬ most ≤ out.length) : Cj l out most = Cj (Y8 l) (out ++ [Aad l]) most := by rw [Cj, dif_neg hl, dif_pos h, if_neg hm]
theorem G3 {n : Nat} (h : n < 256) : (UInt8.ofNat n).toNat = n := by rw [UInt8.toNat_ofNat']; exact Nat.mod_eq_of_lt h
theorem Nb (f r : List UInt8) (hf : f.length ≤ 65535) : Bx (Dg f ++ r) = (f.length, (if f.length < 255 then 1 else 3), 0) := by
 unfold Bx Dg;by_cases h : f.length < 255
 · simp only [if_pos h, List.cons_append, List.getD_cons_zero];rw [G3 (by omega), if_pos h]
 · simp only [if_neg h, List.cons_append, List.getD_cons_zero, List.getD_cons_succ, List.length_cons];rw [if_neg (by decide), if_neg (by omega), G3 (by omega), UInt8.toNat_ofNat'];have : f.length / 256 * 256 + f.length % 2 ^ 8 = f.length := by omega
   rw [this, if_neg h]
theorem Tt (f r : List UInt8) : (Dg f ++ r).drop (if f.length < 255 then 1 else 3) = f ++ r := by
 unfold Dg;by_cases h : f.length < 255
 · simp [if_pos h]
 · simp [if_neg h]
theorem Ahr (f r : List UInt8) (hf : f.length ≤ 65535) : O9 (Dg f ++ r) = 0 := by
 unfold O9;rw [Nb f r hf];simp only [if_true];rw [if_neg];rw [List.length_append, J4];omega
theorem Ahn (f r : List UInt8) (hf : f.length ≤ 65535) : Aad (Dg f ++ r) = f := by
 unfold Aad;rw [Nb f r hf];simp only;rw [Tt, List.take_left]
theorem Af5 (f r : List UInt8) (hf : f.length ≤ 65535) : Y8 (Dg f ++ r) = r := by
 unfold Y8;rw [Nb f r hf];simp only;rw [← List.drop_drop, Tt, List.drop_left]
theorem Ql (r : List UInt8) : ∀ (l out : List (List UInt8)) (most : Int), (∀ f ∈ l, f.length ≤ 65535) → (out.length + l.length : Int) ≤ most → Cj (Cv l ++ r) out most = Cj r (out ++ l) most
 | [], out, most, _, _ => by simp [Cv]
 | f :: l, out, most, hl, hm => by
   simp only [Cv, List.append_assoc];have hf := hl f List.mem_cons_self;simp only [List.length_cons] at hm;rw [Se (by simp [Ahp]) (Ahr f _ hf) (by omega), Ahn f _ hf, Af5 f _ hf];rw [Ql r l (out ++ [f]) most (fun g hg => hl g (List.mem_cons_of_mem _ hg)) (by simp; omega)];simp
theorem Mr (l : List (List UInt8)) (most : Int) (hl : ∀ f ∈ l, f.length ≤ 65535) (hm : (l.length : Int) ≤ most) : Cj (Cv l) [] most = (l, 0) := by
 have := Ql [] l [] most hl (by simpa using hm);rw [List.append_nil] at this;rw [this, Qm]; simp
def Cq (n : Nat) : List UInt8 := UInt8.ofNat (Bc n).length :: Bc n
def A1 (p : Nat → Bool) : Nat → Nat
 | 0 => 0
 | k + 1 => if p k = true then A1 p k + 2 ^ k else A1 p k
theorem Dd (p : Nat → Bool) : ∀ k, A1 p k < 2 ^ k
 | 0 => by simp [A1]
 | k + 1 => by
   have := Dd p k;simp only [A1];rw [Nat.pow_succ];split <;> omega
theorem Jo (p : Nat → Bool) (i : Nat) : ∀ k, A1 p k / 2 ^ i % 2 = if i < k ∧ p i = true then 1 else 0
 | 0 => by simp [A1]
 | k + 1 => by
   have ih := Jo p i k;have hlt := Dd p k;simp only [A1];by_cases hk : p k = true
   · rw [if_pos hk];by_cases h1 : i < k
     · have e : 2 ^ k = 2 * (2 ^ (k - 1 - i)) * 2 ^ i := by
        rw [← Nat.pow_succ', ← Nat.pow_add]; congr 1; omega
       rw [e, Nat.add_mul_div_right _ _ (Nat.two_pow_pos i)];rw [Nat.add_mul_mod_self_left, ih];simp [h1, show i < k + 1 from by omega]
     · by_cases h2 : i = k
       · subst h2;rw [Nat.add_div_right _ (Nat.two_pow_pos i), Nat.div_eq_of_lt hlt];simp [hk]
       · have h3 : A1 p k + 2 ^ k < 2 ^ i := by
          have : 2 ^ (k + 1) ≤ 2 ^ i := Nat.pow_le_pow_right (by omega) (by omega);rw [Nat.pow_succ] at this; omega
         rw [Nat.div_eq_of_lt h3, if_neg (by omega)]
   · rw [if_neg hk, ih];by_cases h2 : i = k
     · subst h2; simp [hk]
     · have : (i < k) ↔ (i < k + 1) := by omega
       simp only [this]
theorem Afi (m s i : Nat) : (m &&& s).testBit i = (decide (m / 2 ^ i % 2 = 1) && decide (s / 2 ^ i % 2 = 1)) := by
 rw [Nat.testBit_and, Nat.testBit_eq_decide_div_mod_eq, Nat.testBit_eq_decide_div_mod_eq]
theorem Aog {m s : Nat} (hm : m < 256) : m &&& s = 0 ↔ ∀ i, i < 8 → ¬ (m / 2 ^ i % 2 = 1 ∧ s / 2 ^ i % 2 = 1) := by
 constructor
 · intro h i _ ⟨h1, h2⟩;have := Afi m s i;rw [h, Nat.zero_testBit, decide_eq_true h1, decide_eq_true h2] at this;cases this
 · intro h;apply Nat.eq_of_testBit_eq;intro i;rw [Afi, Nat.zero_testBit];by_cases hi : i < 8
   · have := h i hi;by_cases h1 : m / 2 ^ i % 2 = 1
     · have h2 : ¬ s / 2 ^ i % 2 = 1 := fun h2 => this ⟨h1, h2⟩;rw [decide_eq_false h2, Bool.and_false]
     · rw [decide_eq_false h1, Bool.false_and]
   · have h3 : m < 2 ^ i := Nat.lt_of_lt_of_le hm (by
      have : 2 ^ 8 ≤ 2 ^ i := Nat.pow_le_pow_right (by omega) (by omega);exact this)
     have h1 : ¬ m / 2 ^ i % 2 = 1 := by rw [Nat.div_eq_of_lt h3]; simp
     rw [decide_eq_false h1, Bool.false_and]
def dA (x y : Nat) : List UInt8 := if y < x then Cq (x - y) else if x < y then Cq (y - x) else []
def Nl (v base : Nat → Nat) : Nat → List UInt8
 | 0 => []
 | k + 1 => Nl v base k ++ dA (v k) (base k)
def Eb (v base : Nat → Nat) : Nat → Nat → List UInt8
 | i, 0 => []
 | i, n + 1 => dA (v i) (base i) ++ Eb v base (i + 1) n
theorem Q8 (v base : Nat → Nat) : ∀ n i, Eb v base i (n + 1) = Eb v base i n ++ dA (v (i + n)) (base (i + n))
 | 0, i => by simp [Eb]
 | n + 1, i => by
   have := Q8 v base n (i + 1);rw [Eb, this, Eb, List.append_assoc, show i + 1 + n = i + (n + 1) from by omega]
theorem Vq (v base : Nat → Nat) : ∀ k, Nl v base k = Eb v base 0 k
 | 0 => rfl
 | k + 1 => by rw [Nl, Vq v base k, Q8, Nat.zero_add]
def Bi (v base : Nat → Nat) (i : Nat) : Bool := decide (base i < v i)
def Bg (v base : Nat → Nat) (i : Nat) : Bool := decide (v i < base i)
def A6 (v base : Nat → Nat) : List UInt8 := UInt8.ofNat (A1 (Bi v base) 8) :: UInt8.ofNat (A1 (Bg v base) 8) :: Nl v base 8
theorem H3 {n : Nat} (h : n < 4294967296) : (Cq n).length ≤ 5 := by
 have := C5 4 n h;simp [Cq]; omega
theorem I5 (v base : Nat → Nat) (hv : ∀ i, i < 8 → v i < 4294967296) (hb : ∀ i, i < 8 → base i < 4294967296) : ∀ k, k ≤ 8 → (Nl v base k).length ≤ 5 * k
 | 0, _ => by simp [Nl]
 | k + 1, h => by
   have := I5 v base hv hb k (by omega);have h1 := hv k (by omega);have h2 := hb k (by omega);simp only [Nl, List.length_append];have : (dA (v k) (base k)).length ≤ 5 := by
    unfold dA;split
    · exact H3 (by omega)
    · split
      · exact H3 (by omega)
      · simp
   omega
inductive RdR where
 | skip
 | err (e : Int)
 | val (x : Int) (rest : List UInt8)
def Gr (sg : Int) (rest : List UInt8) : RdR :=
 if rest.length = 0 ∨ rest.length - 1 < (rest.getD 0 0).toNat then .err 8
 else if (Co ((rest.take (1 + (rest.getD 0 0).toNat)).drop 1)).2 ≠ 0 ∨ (Co ((rest.take (1 + (rest.getD 0 0).toNat)).drop 1)).1 = 0 ∨ 4294967295 < (Co ((rest.take (1 + (rest.getD 0 0).toNat)).drop 1)).1 then .err 7
 else .val (sg * ((Co ((rest.take (1 + (rest.getD 0 0).toNat)).drop 1)).1 : Int)) (rest.drop (1 + (rest.getD 0 0).toNat))
def G7 (m s i : Nat) (rest : List UInt8) : RdR :=
 if s / 2 ^ i % 2 = 1 then Gr (-1) rest else if m / 2 ^ i % 2 = 0 then .skip else Gr 1 rest
def Ui : Nat → Int := fun _ => 0
def Ul (a : Nat → Int) (k : Nat) (x : Int) : Nat → Int := fun i => if i = k then x else a i
def D2 (m s : Nat) : Nat → Nat → (Nat → Int) → List UInt8 → (Nat → Int) × Int
 | 0, i, t, rest => if rest.length = 0 then (t, 0) else (Ui, 4)
 | n + 1, i, t, rest => match G7 m s i rest with
   | .skip => D2 m s n (i + 1) t rest
   | .err e => (Ui, e)
   | .val x rest' => D2 m s n (i + 1) (Ul t i x) rest'
def Ch (l : List UInt8) : (Nat → Int) × Int :=
 if l.length < 2 then (Ui, 8)
 else if (l.getD 0 0).toNat &&& (l.getD 1 0).toNat ≠ 0 then (Ui, 7)
 else D2 (l.getD 0 0).toNat (l.getD 1 0).toNat 8 0 Ui (l.drop 2)
theorem Jk (m s : Nat) : ∀ n i t rest, (∀ j, -4294967296 < t j ∧ t j < 4294967296) → ∀ j, -4294967296 < (D2 m s n i t rest).1 j ∧ (D2 m s n i t rest).1 j < 4294967296
 | 0, i, t, rest, h, j => by
   simp only [D2];split
   · exact h j
   · simp [Ui]
 | n + 1, i, t, rest, h, j => by
   simp only [D2];split
   · exact Jk m s n _ _ _ h j
   · simp [Ui]
   · rename_i x rest' hx;refine Jk m s n _ _ _ (fun k => ?_) j;unfold Ul;split
     · have key : ∀ sg : Int, (sg = 1 ∨ sg = -1) → Gr sg rest = .val x rest' → -4294967296 < x ∧ x < 4294967296 := fun sg hsg he => by
        unfold Gr at he;split at he
        · cases he
        · split at he
          · cases he
          · rename_i hn;cases he;generalize (Co ((rest.take (1 + (rest.getD 0 0).toNat)).drop 1)).1 = q at hn;rcases hsg with rfl | rfl <;> omega
       unfold G7 at hx;split at hx
       · exact key _ (.inr rfl) hx
       · split at hx
         · cases hx
         · exact key _ (.inl rfl) hx
     · exact h k
theorem Zb (l : List UInt8) (j : Nat) : -4294967296 < (Ch l).1 j ∧ (Ch l).1 j < 4294967296 := by
 unfold Ch;split
 · simp [Ui]
 · split
   · simp [Ui]
   · exact Jk _ _ _ _ _ _ (fun j => by simp [Ui]) j
theorem Nm {n : Nat} (h : n < 18446744073709551616) : Co (Bc n) = (n, 0) := by
 have hl := C5 8 n h;have hh := (Agi (Bc n)).1 (by rw [Uw]);unfold Co;rw [if_neg (by omega), if_neg hh, Uw]
theorem Ob (sg : Int) (n : Nat) (h0 : n ≠ 0) (h : n < 4294967296) (rest : List UInt8) : Gr sg (Cq n ++ rest) = .val (sg * n) rest := by
 have hl := C5 4 n h;have e0 : ((Cq n ++ rest).getD 0 0).toNat = (Bc n).length := by
  simp only [Cq, List.cons_append, List.getD_cons_zero];rw [UInt8.toNat_ofNat'];exact Nat.mod_eq_of_lt (by omega)
 have e1 : ((Cq n ++ rest).take (1 + (Bc n).length)).drop 1 = Bc n := by
  rw [Nat.add_comm];simp only [Cq, List.cons_append, List.take_succ_cons, List.drop_succ_cons, List.drop_zero];exact List.take_left' rfl
 have e2 : (Cq n ++ rest).drop (1 + (Bc n).length) = rest := by
  rw [Nat.add_comm];simp only [Cq, List.cons_append, List.drop_succ_cons];exact List.drop_left' rfl
 unfold Gr;rw [e0, e1, e2, Nm (by omega)];rw [if_neg (by simp [Cq]), if_neg (by simp; omega)]
theorem Lt (v base : Nat → Nat) (hv : ∀ i, i < 8 → v i < 4294967296) (hb : ∀ i, i < 8 → base i < 4294967296) : ∀ n i t, i + n = 8 →
 (D2 (A1 (Bi v base) 8) (A1 (Bg v base) 8) n i t (Eb v base i n)).2 = 0 ∧ ∀ j, (D2 (A1 (Bi v base) 8) (A1 (Bg v base) 8) n i t (Eb v base i n)).1 j = if i ≤ j ∧ j < 8 ∧ v j ≠ base j then (v j : Int) - base j else t j
 | 0, i, t, h => by
   simp only [D2, Eb, List.length_nil, if_true];refine ⟨trivial, fun j => ?_⟩;rw [if_neg (by omega)]
 | n + 1, i, t, h => by
   have h1 := hv i (by omega);have h2 := hb i (by omega);have bm := Jo (Bi v base) i 8;have bl := Jo (Bg v base) i 8;simp only [D2, Eb];rcases Nat.lt_trichotomy (v i) (base i) with hc | hc | hc
   · have e1 : Bg v base i = true := by simp [Bg, hc]
     rw [e1, if_pos ⟨by omega, rfl⟩] at bl;have e2 : G7 (A1 (Bi v base) 8) (A1 (Bg v base) 8) i (dA (v i) (base i) ++ Eb v base (i + 1) n) = .val (-1 * ((base i - v i : Nat) : Int)) (Eb v base (i + 1) n) := by
      unfold G7 dA;rw [if_pos bl, if_neg (by omega), if_pos hc];exact Ob _ _ (by omega) (by omega) _
     rw [e2];obtain ⟨r1, r2⟩ := Lt v base hv hb n (i + 1) (Ul t i (-1 * ((base i - v i : Nat) : Int))) (by omega);refine ⟨r1, fun j => ?_⟩;simp only [r2];unfold Ul;by_cases hj : j = i
     · subst hj; rw [if_neg (by omega), if_pos rfl, if_pos ⟨by omega, by omega, by omega⟩]; omega
     · rw [if_neg hj];by_cases hj2 : i + 1 ≤ j ∧ j < 8 ∧ v j ≠ base j
       · rw [if_pos hj2, if_pos ⟨by omega, hj2.2⟩]
       · rw [if_neg hj2, if_neg (fun hx => hj2 ⟨by omega, hx.2⟩)]
   · have e1 : Bg v base i = false := by simp [Bg, hc]
     have e1' : Bi v base i = false := by simp [Bi, hc]
     rw [e1, if_neg (by simp)] at bl;rw [e1', if_neg (by simp)] at bm;have e2 : G7 (A1 (Bi v base) 8) (A1 (Bg v base) 8) i (dA (v i) (base i) ++ Eb v base (i + 1) n) = .skip := by
      unfold G7;rw [if_neg (by omega), if_pos bm]
     have e3 : dA (v i) (base i) = [] := by unfold dA; rw [if_neg (by omega), if_neg (by omega)]
     rw [e2, e3, List.nil_append];obtain ⟨r1, r2⟩ := Lt v base hv hb n (i + 1) t (by omega);refine ⟨r1, fun j => ?_⟩;simp only [r2];by_cases hj2 : i + 1 ≤ j ∧ j < 8 ∧ v j ≠ base j
     · rw [if_pos hj2, if_pos ⟨by omega, hj2.2⟩]
     · rw [if_neg hj2, if_neg (fun hx => hj2 ⟨by
        by_cases e : j = i
        · subst e; exact absurd hc hx.2.2
        · omega, hx.2⟩)]
   · have e1 : Bg v base i = false := by simp [Bg]; omega
     have e1' : Bi v base i = true := by simp [Bi, hc]
     rw [e1, if_neg (by simp)] at bl;rw [e1', if_pos ⟨by omega, rfl⟩] at bm;have e2 : G7 (A1 (Bi v base) 8) (A1 (Bg v base) 8) i (dA (v i) (base i) ++ Eb v base (i + 1) n) = .val (1 * ((v i - base i : Nat) : Int)) (Eb v base (i + 1) n) := by
      unfold G7 dA;rw [if_neg (by omega), if_neg (by omega), if_pos hc];exact Ob _ _ (by omega) (by omega) _
     rw [e2];obtain ⟨r1, r2⟩ := Lt v base hv hb n (i + 1) (Ul t i (1 * ((v i - base i : Nat) : Int))) (by omega);refine ⟨r1, fun j => ?_⟩;simp only [r2];unfold Ul;by_cases hj : j = i
     · subst hj; rw [if_neg (by omega), if_pos rfl, if_pos ⟨by omega, by omega, by omega⟩]; omega
     · rw [if_neg hj];by_cases hj2 : i + 1 ≤ j ∧ j < 8 ∧ v j ≠ base j
       · rw [if_pos hj2, if_pos ⟨by omega, hj2.2⟩]
       · rw [if_neg hj2, if_neg (fun hx => hj2 ⟨by omega, hx.2⟩)]
theorem Zu (p : Nat → Bool) : (UInt8.ofNat (A1 p 8)).toNat = A1 p 8 := by
 rw [UInt8.toNat_ofNat'];exact Nat.mod_eq_of_lt (Dd p 8)
theorem Wp (v base : Nat → Nat) (hv : ∀ i, i < 8 → v i < 4294967296) (hb : ∀ i, i < 8 → base i < 4294967296) :
 (Ch (A6 v base)).2 = 0 ∧ ∀ j, j < 8 → (Ch (A6 v base)).1 j = (v j : Int) - base j := by
 have hz : A1 (Bi v base) 8 &&& A1 (Bg v base) 8 = 0 := (Aog (Dd _ 8)).2 fun i hi ⟨h1, h2⟩ => by
  rw [Jo] at h1 h2;simp only [Bi, Bg, decide_eq_true_eq] at h1 h2;split at h1 <;> split at h2 <;> omega
 have e : Ch (A6 v base) = D2 (A1 (Bi v base) 8) (A1 (Bg v base) 8) 8 0 Ui (Eb v base 0 8) := by
  unfold Ch;rw [if_neg (by simp [A6])];simp only [A6, List.getD_cons_zero, List.getD_cons_succ, Zu, List.drop_succ_cons, List.drop_zero];rw [if_neg (by rw [hz]; simp), Vq]
 rw [e];obtain ⟨r1, r2⟩ := Lt v base hv hb 8 0 Ui (by omega);refine ⟨r1, fun j hj => ?_⟩;rw [r2];by_cases h : v j = base j
 · rw [if_neg (fun hx => hx.2.2 h), h]; simp [Ui]
 · rw [if_pos ⟨by omega, hj, h⟩]
def Nd (l : List UInt8) (base : Nat → Nat) : Prop := ∀ i, i < 8 → 0 ≤ (base i : Int) + (Ch l).1 i ∧ (base i : Int) + (Ch l).1 i ≤ 4294967295
instance (l : List UInt8) (base : Nat → Nat) : Decidable (Nd l base) := inferInstanceAs (Decidable (∀ i, i < 8 → 0 ≤ (base i : Int) + (Ch l).1 i ∧ (base i : Int) + (Ch l).1 i ≤ 4294967295))
def Gt (l : List UInt8) (base : Nat → Nat) : (Nat → Nat) × Int :=
 if (Ch l).2 ≠ 0 then (fun _ => 0, (Ch l).2)
 else if Nd l base then (fun i => ((base i : Int) + (Ch l).1 i).toNat, 0) else (fun _ => 0, 7)
theorem Jw (v base : Nat → Nat) (hv : ∀ i, i < 8 → v i < 4294967296) (hb : ∀ i, i < 8 → base i < 4294967296) :
 (Gt (A6 v base) base).2 = 0 ∧ ∀ i, i < 8 → (Gt (A6 v base) base).1 i = v i := by
 obtain ⟨r1, r2⟩ := Wp v base hv hb;have hok : Nd (A6 v base) base := fun i hi => by rw [r2 i hi]; have := hv i hi; omega
 unfold Gt;rw [if_neg (by rw [r1]; simp), if_pos hok];refine ⟨rfl, fun i hi => ?_⟩;show ((base i : Int) + (Ch (A6 v base)).1 i).toNat = v i;rw [r2 i hi]; omega
theorem Bw (n : Nat) : IntKind.u8.wrap (n : Int) = ((UInt8.ofNat n).toNat : Int) := by
 rw [UInt8.toNat_ofNat'];simp [IntKind.wrap, IntKind.signed, IntKind.bits]
theorem Nt (n : Nat) : IntKind.u8.wrap (n : Int) = ((n % 256 : Nat) : Int) := by simp [IntKind.wrap, IntKind.signed, IntKind.bits]
theorem Rs (a : Nat) (h : a < 18446744073709551616) : (BitVec.ofInt 64 (a : Int)).toNat = a := by
 rw [BitVec.ofInt_natCast, BitVec.toNat_ofNat]; exact Nat.mod_eq_of_lt (by omega)
theorem Aaw (a b : Nat) (ha : a < 18446744073709551616) (hb : b < 18446744073709551616) : bits .or .u64 a b = ((a ||| b : Nat) : Int) := by
 have h : a ||| b < 2 ^ 64 := Nat.or_lt_two_pow ha hb;show IntKind.u64.wrap ((BitVec.ofInt 64 (a : Int) ||| BitVec.ofInt 64 (b : Int)).toNat : Int) = _;rw [BitVec.toNat_or, Rs a ha, Rs b hb];exact G0 ⟨by omega, by omega⟩
theorem Apr (n c : Nat) (hn : n < 72057594037927936) (hc : c < 256) : bits .or .u64 ((n : Int) * 256) (c : Int) = ((n * 256 + c : Nat) : Int) := by
 rw [show (n : Int) * 256 = ((256 * n : Nat) : Int) from by omega, Aaw _ _ (by omega) (by omega)];have := Nat.two_pow_add_eq_or_of_lt (i := 8) (b := c) (by omega) n;rw [show (2 : Nat) ^ 8 = 256 from rfl] at this;rw [← this]; omega
theorem Ka (l : List UInt8) : ∀ c ∈ Ad l, c.all PV.flat = true := by
 intro c hc;obtain ⟨x, _, rfl⟩ := List.mem_map.1 hc;rfl
theorem Pg (l : List UInt8) (n : Nat) : (Ad l).take n = Ad (l.take n) := by simp [Ad]
theorem Fk (l : List UInt8) (n : Nat) : (Ad l).drop n = Ad (l.drop n) := by simp [Ad]
theorem T2 (a b : List UInt8) : Ad a ++ Ad b = Ad (a ++ b) := by simp [Ad]
theorem Apq (n k : Nat) (hk : k ≤ 7) : ((n : Nat) : Int).fdiv (2 ^ min (8 * k) 64) = ((n / 256 ^ k : Nat) : Int) := by
 rw [show min (8 * k) 64 = 8 * k from by omega];rw [Int.fdiv_eq_ediv_of_nonneg _ (by exact Int.le_of_lt (Int.pow_pos (by omega)))];rw [show (256 : Nat) ^ k = 2 ^ (8 * k) from by rw [Nat.pow_mul]];rw [Int.natCast_ediv, Int.natCast_pow]; rfl
def Yt (n j : Nat) : FS := mk [(4, .pv (.i .i64 (8 * (j : Int) - 8))), (3, .os 25), (0, .pv (.i .u64 n))] [(25, some (.row 1 (Ad (Bc (n / 256 ^ j)))))]
set_option maxHeartbeats 2000000 in
theorem S5 (n : Nat) (hn : n < 18446744073709551616) {h d} : FunOk Tryz.prog 42 [.pv (.i .u64 n)] h d (.os d) [.new d (.row 1 (Ad (Bc n)))] := by
 refine O1 Ao fn42 (by simp) rfl (.inl rfl) fun F => ?_;simp (disch := omega) only [ir42, go_sem];refine A2 Ao (Yt n) (fun j => j ≤ 8) (fun j => j) 8 (by omega) (Dt 6 25 (by decide) rfl (Au ?_ ?_)) fun j hj => ?_
 · simp (disch := omega) only [go_sem]
 · have e : Bc (n / 256 ^ 8) = [] := by rw [Nat.div_eq_of_lt (by omega), Gm]
   simp (disch := omega) only [e, go_sem];rfl
 by_cases hlt : 1 ≤ j
 · obtain ⟨k, rfl⟩ : ∃ k, j = k + 1 := ⟨j - 1, by omega⟩
   have es : (8 * ((k + 1 : Nat) : Int) - 8) = ((8 * k : Nat) : Int) := by omega
   have ed := Apq n k (by omega);have em : (n / 256 ^ (k + 1)) = n / 256 ^ k / 256 := by rw [Nat.pow_succ, Nat.div_div_eq_div_mul]
   obtain ⟨q, hq⟩ : ∃ q, q = n / 256 ^ k := ⟨_, rfl⟩
   rw [← hq] at ed em;have hc : IntKind.u8.wrap (q : Int) = ((UInt8.ofNat (q % 256)).toNat : Int) := by
    rw [Nt, UInt8.toNat_ofNat', show q % 256 % 2 ^ 8 = q % 256 from Nat.mod_eq_of_lt (by omega)]
   have hct : (UInt8.ofNat (q % 256)).toNat = q % 256 := by rw [UInt8.toNat_ofNat']; exact Nat.mod_eq_of_lt (by omega)
   have hlen := Wy (n := q / 256);have hl8 := C5 8 (q / 256) (by
    have h1 : q ≤ n := by rw [hq]; exact Nat.div_le_self _ _
    omega)
   by_cases hq0 : q = 0
   · have e0 : (Bc (q / 256)) = [] := by rw [hq0]; exact Gm
     have e1 : IntKind.u8.wrap (q : Int) = 0 := by rw [hq0]; rfl
     simp (disch := omega) only [Yt, es, ed, em, e0, e1, List.length_nil, Aw, go_sem];refine Az k _ _ rfl (by omega) (by omega) ?_ ?_
     · simp (disch := omega) only [go_sem]
     · simp (disch := omega) only [go_sem];rw [← hq, hq0, Gm]; try rfl
   · have hnb : Bc q = Bc (q / 256) ++ [UInt8.ofNat (q % 256)] := Hb hq0;by_cases hc0 : q % 256 = 0
     · have h256 : q / 256 ≠ 0 := by omega
       have hlp := hlen.2 h256;have hz : IntKind.u8.wrap (q : Int) = 0 := by rw [Nt, hc0]; rfl
       simp (disch := omega) only [Yt, es, ed, em, hz, Aw, go_sem];refine Az k _ _ rfl (by omega) (by omega) ?_ ?_
       · simp (disch := omega) only [go_sem]
       · simp (disch := omega) only [go_sem];rw [← hq, hnb, hc0]; simp [Ad]
     · simp (disch := omega) only [Yt, es, ed, em, hc, hct, Aw, go_sem];refine Az k _ _ rfl (by omega) (by omega) ?_ ?_
       · simp (disch := omega) only [go_sem]
       · simp (disch := omega) only [go_sem];rw [← hq, hnb]; simp [Ad, hct]
 · obtain rfl : j = 0 := by omega
   simp (disch := omega) only [Yt, Nat.pow_zero, Nat.div_one, go_sem]
theorem Afo (l : List UInt8) (i : Nat) (h : i < l.length) : Fd (l.take (i + 1)) = Fd (l.take i) * 256 + (l.getD i 0).toNat := by
 rw [List.take_add_one, List.getElem?_eq_getElem h, Option.toList_some, Lp, List.getD_eq_getElem?_getD, List.getElem?_eq_getElem h]; rfl
theorem V2 (l : List UInt8) (i : Nat) (h : i < 8) : Fd (l.take i) < 72057594037927936 := by
 have h1 := Ad0 (l.take i);have h2 : 256 ^ (l.take i).length ≤ 256 ^ 7 := Nat.pow_le_pow_right (by omega) (by simp; omega);omega
theorem Ag7 {l : List UInt8} (h : 0 < l.length) : (l.getD 0 0).toNat = 0 ↔ l.head? = some 0 := by
 cases l with
 | nil => simp at h
 | cons c l =>
   simp only [List.getD_cons_zero, List.head?_cons, Option.some.injEq];exact ⟨fun e => UInt8.toNat_inj.1 (by simpa using e), fun e => by rw [e]; rfl⟩
def N1 (full : Bool) (z : Nat) (l : List UInt8) (i : Nat) : FS := mk [(23, .pv (.i .i64 i)), (22, .pv (.i .i64 l.length)), (21, .pv (.sl full z (Ad l))), (4, .pv (.i .u64 (Fd (l.take i))))] []
set_option maxHeartbeats 1000000 in
theorem Rq {a : SV} {l : List UInt8} {full : Bool} {z : Nat} (hl : l.length < 4611686018427387904) {h} {d} (ha : Be [a] = true) (he : Hd h a = .pv (.sl full z (Ad l))) (hz : l = [] ∨ z = 1) :
 FunOk Tryz.prog 84 [a] h d (.tup [.pv (.i .u64 (Co l).1), .pv (.i .i64 (Co l).2)]) [] := by
 refine Dn Ao fn84 (by simp) ha rfl fun F => ?_;by_cases h8 : 8 < l.length
 · have e : Co l = (0, 4) := by unfold Co; rw [if_pos h8]
   simp (disch := omega) only [ir84, he, e, go_sem]
 by_cases h0 : l.length = 0
 · obtain rfl : l = [] := List.eq_nil_of_length_eq_zero h0;have e : Co [] = (0, 0) := rfl;simp (disch := omega) only [ir84, he, e, List.length_nil, go_sem];refine A2 Ao (N1 full z []) (fun j => j ≤ 0) (fun j => 0 - j) 0 (by omega) (Au ?_ ?_) fun j hj => ?_
   · simp (disch := omega) only [List.take_nil, Fd, List.foldl_nil, List.length_nil, go_sem]
   · simp (disch := omega) only [go_sem]
   obtain rfl : j = 0 := by omega
   simp (disch := omega) only [N1, List.take_nil, Fd, List.foldl_nil, List.length_nil, go_sem]
 have hz1 : z = 1 := hz.resolve_left (fun e => by subst e; simp at h0);subst hz1;have hd := Ag7 (l := l) (by omega);by_cases hh : l.head? = some 0
 · have e : Co l = (0, 7) := by unfold Co; rw [if_neg h8, if_pos hh]
   have e1 := hd.2 hh;simp (disch := omega) only [ir84, he, e, Bf, e1, go_sem]
 · have e : Co l = (Fd l, 0) := by unfold Co; rw [if_neg h8, if_neg hh]
   have e1 : ¬ (((l.getD 0 0).toNat : Nat) : Int) = 0 := fun e => hh (hd.1 (by omega));simp (disch := omega) only [ir84, he, e, Bf, e1, go_sem];refine A2 Ao (N1 full 1 l) (fun j => j ≤ l.length) (fun j => l.length - j) 0 (by omega) (Au ?_ ?_) fun j hj => ?_
   · simp (disch := omega) only [List.take_zero, Fd, List.foldl_nil, go_sem]
   · simp (disch := omega) only [go_sem]
   by_cases hlt : j < l.length
   · have e2 := Afo l j hlt;have e3 := V2 l j (by omega);have e4 := (l.getD j 0).toNat_lt;have e5 := Apr _ _ e3 (by omega : (l.getD j 0).toNat < 256);have e6 : ((2 : Int) ^ min (Int.toNat 8) 64) = 256 := rfl;have e7 : IntKind.u64.wrap (((l.getD j 0).toNat : Nat) : Int) = ((l.getD j 0).toNat : Int) := G0 (by omega);rw [← e2] at e5;simp (disch := omega) only [N1, Bf, e6, e7, e5, go_sem];refine Az (j + 1) _ _ rfl (by omega) (by omega) ?_ ?_
     · simp (disch := omega) only [go_sem]
     · simp (disch := omega) only [go_sem]
   · obtain rfl : j = l.length := by omega
     simp (disch := omega) only [N1, List.take_length, go_sem]
set_option maxHeartbeats 1000000 in
theorem K2 (n : Nat) (hn : n < 18446744073709551616) {h d} : FunOk Tryz.prog 64 [.pv (.i .u64 n)] h d (.pv (.s (Bc n))) [] := by
 induction n using Nat.strongRecOn generalizing h d with
 | _ n ih =>
   refine Aq Ao fn64 (by simp) rfl rfl fun F => ?_;by_cases h0 : n = 0
   · subst h0;simp (disch := omega) only [ir64, Gm, go_sem]
   · have e1 : IntKind.u64.wrap ((n : Int).tdiv 256) = ((n / 256 : Nat) : Int) := by
      rw [Int.tdiv_eq_ediv_of_nonneg (by omega), G0 (by omega)]; omega
     have e2 : (n : Int).tmod 256 = ((n % 256 : Nat) : Int) := by rw [Int.tmod_eq_emod_of_nonneg (by omega)]; omega
     have e3 : IntKind.u8.wrap ((n % 256 : Nat) : Int) = ((UInt8.ofNat (n % 256)).toNat : Int) := Bw _;have e4 : [[PV.i .u8 ((UInt8.ofNat (n % 256)).toNat : Int)]] = Ad [UInt8.ofNat (n % 256)] := rfl;have e5 := C5 8 (n / 256) (by omega);simp (disch := omega) only [ir64, e1, go_sem];refine Aa (ih (n / 256) (by omega) (by omega)) ?_;simp (disch := omega) only [e1, e2, e3, e4, go_sem];rw [← Hb h0]
theorem Zp (n : Nat) (hn : n < 4294967296) {h d} : FunOk Tryz.prog 41 [.pv (.i .u32 n)] h d (.os d) [.new d (.row 1 (Ad (Cq n)))] := by
 refine O1 Ao fn41 (by simp) rfl (.inl rfl) fun F => ?_;have e5 := C5 8 n (by omega);have e6 : IntKind.u8.wrap (((Bc n).length : Nat) : Int) = ((UInt8.ofNat (Bc n).length).toNat : Int) := Bw _;have e7 : [[PV.i .u8 ((UInt8.ofNat (Bc n).length).toNat : Int)]] ++ Ad (Bc n) = Ad (Cq n) := rfl;simp (disch := omega) only [ir41, go_sem];refine Aa (S5 n (by omega)) ?_;simp (disch := omega) only [Aw, e6, go_sem];rfl
def A34 (es : List (List PV)) (L : List (List UInt8)) : Prop := es.length = L.length ∧ ∀ k, k < L.length → ∃ f z, es[k]? = some [.sl f z (Ad (L.getD k []))] ∧ (L.getD k [] = [] ∨ z = 1)
def bE (b : List UInt8) : List PV := [.sl false 1 (Ad b)]
theorem T3 (L : List (List UInt8)) : A34 (L.map bE) L := ⟨by simp, fun k hk => ⟨false, 1, by simp [bE, hk], .inr rfl⟩⟩
theorem Ti {f z es} (K : KK) : LoadK (some [.sl f z es]) 0 1 false K = K (.pv (.sl f z es)) [] := by
 simp only [LoadK, Jq, eq_iff_iff];exact ⟨fun h => h.2.2, fun h => ⟨by simp, .inr trivial, h⟩⟩
theorem Atp {b : List UInt8} {z : Nat} (h : b = [] ∨ z = 1) : (Ad b = [] ∨ z = 1) = True := eq_true (h.imp (fun e => by rw [e]; rfl) id)
theorem Acb {L : List (List UInt8)} {k : Nat} (h : k < L.length) : Cv (L.take (k + 1)) = Cv (L.take k) ++ Dg (L.getD k []) := by
 rw [List.take_add_one, List.getElem?_eq_getElem h, Option.toList_some, Lu, List.getD_eq_getElem?_getD, List.getElem?_eq_getElem h];simp [Cv]
theorem Ajf (n c : Nat) (hn : n < 65536) (hc : c < 256) : bits .or .i64 ((n : Int) * 256) (c : Int) = ((n * 256 + c : Nat) : Int) := by
 have h : n * 256 ||| c < 2 ^ 32 := Nat.or_lt_two_pow (by omega) (by omega);rw [show (n : Int) * 256 = ((256 * n : Nat) : Int) from by omega];show IntKind.i64.wrap ((BitVec.ofInt 64 ((256 * n : Nat) : Int) ||| BitVec.ofInt 64 (c : Int)).toNat : Int) = _;rw [BitVec.toNat_or, Rs _ (by omega), Rs c (by omega)];have := Nat.two_pow_add_eq_or_of_lt (i := 8) (b := c) (by omega) n;rw [show (2 : Nat) ^ 8 = 256 from rfl] at this;rw [← this, Da (by omega)]; omega
theorem Aqh {x : SV} {f : Bool} {l : List UInt8} {h d} (hx : Di h [x] = [.pv (.sl f 1 (Ad l))]) (hl : Be [x] = true) (hne : l ≠ []) (hn : l.length ≤ 400000) :
 FunOk Tryz.prog 83 [x] h d (.tup [.pv (.i .i64 (Bx l).1), .pv (.i .i64 (Bx l).2.1), .pv (.i .i64 (Bx l).2.2)]) [] := by
 refine Dn Ao fn83 (by simp) hl rfl fun F => ?_;rw [hx];have hpos : 0 < l.length := List.length_pos_iff.2 hne;by_cases h1 : (l.getD 0 0).toNat < 255
 · have e : Bx l = ((l.getD 0 0).toNat, 1, 0) := by unfold Bx; rw [if_pos h1]
   have h1' : (((l.getD 0 0).toNat : Nat) : Int) < 255 := by omega
   have e2 : IntKind.i64.wrap (((l.getD 0 0).toNat : Nat) : Int) = ((l.getD 0 0).toNat : Int) := Da (by omega);simp (disch := omega) only [ir83, Bf, h1', e, e2, go_sem];rfl
 · have h1' : ¬ (((l.getD 0 0).toNat : Nat) : Int) < 255 := by omega
   by_cases h2 : l.length < 3
   · have e : Bx l = (0, 0, 8) := by unfold Bx; rw [if_neg h1, if_pos h2]
     simp (disch := omega) only [ir83, Bf, h1', e, go_sem]
   · have t1 : Int.toNat 1 = 1 := rfl;have t2 : Int.toNat 2 = 2 := rfl;have b1 := (l.getD 1 0).toNat_lt;have b2 := (l.getD 2 0).toNat_lt;have w1 : IntKind.i64.wrap (((l.getD 1 0).toNat : Nat) : Int) = ((l.getD 1 0).toNat : Int) := Da (by omega);have w2 : IntKind.i64.wrap (((l.getD 2 0).toNat : Nat) : Int) = ((l.getD 2 0).toNat : Int) := Da (by omega);have e6 : ((2 : Int) ^ min (Int.toNat 8) 64) = 256 := rfl;have w3 : IntKind.i64.wrap (((l.getD 1 0).toNat : Int) * 256) = ((l.getD 1 0).toNat : Int) * 256 := Da (by omega);have hor : bits .or .i64 (((l.getD 1 0).toNat : Int) * 256) ((l.getD 2 0).toNat : Int) = (((l.getD 1 0).toNat * 256 + (l.getD 2 0).toNat : Nat) : Int) := Ajf _ _ (by omega) (by omega);by_cases h3 : (l.getD 1 0).toNat * 256 + (l.getD 2 0).toNat < 255
     · have e : Bx l = (0, 0, 7) := by unfold Bx; rw [if_neg h1, if_neg h2, if_pos h3]
       have h3' : (((l.getD 1 0).toNat * 256 + (l.getD 2 0).toNat : Nat) : Int) < 255 := by omega
       simp (disch := omega) only [ir83, Bf, h1', e, t1, t2, w1, w2, e6, w3, hor, h3', go_sem]
     · have e : Bx l = ((l.getD 1 0).toNat * 256 + (l.getD 2 0).toNat, 3, 0) := by unfold Bx; rw [if_neg h1, if_neg h2, if_neg h3]
       have h3' : ¬ (((l.getD 1 0).toNat * 256 + (l.getD 2 0).toNat : Nat) : Int) < 255 := by omega
       simp (disch := omega) only [ir83, Bf, h1', e, t1, t2, w1, w2, e6, w3, hor, h3', go_sem];rfl
theorem Akl {f : Bool} {z : Nat} {l : List UInt8} {h d} (hz : l = [] ∨ z = 1) (hn : l.length ≤ 400000) :
 FunOk Tryz.prog 58 [.pv (.sl f z (Ad l))] h d (.fn (.func 82) [.pi 1 [[.sl false 1 (Ad l)]] 0 0]) [] := by
 refine I1 Ao fn58 (by simp) rfl rfl fun F => ?_;have hz' := Atp hz;simp (disch := omega) only [ir58, hz', Aw, go_sem];refine ⟨_, Sb 6 rfl (Aos 3 (x := .pv (.sl false 1 (Ad l))) (cs := [.sl false 1 (Ad l)]) rfl rfl (.same _)), ?_⟩
 (try simp only [Ek, Ej, Ei, Eh, Eg, Ef, Ee, Ed]); simp (disch := omega) only [go_sem]
def Auq (l : Nat) (most : Int) (r : List UInt8) (o : List (List UInt8)) : FS := mk [(3, .pv (.sl false 1 (Ad r))), (0, .fn (.yield l) []), (1000000, .pv (.i .i64 0)), (1000004, .p 3 0), (1000005, .p 4 0), (1000006, .p 5 0), (1000007, .p 6 0)]
 [(3, some (.var (.pv (.i .i64 most)))), (4, some (.var (.pv (.sl true 0 [])))), (5, some (.var (.pv (.i .i64 0)))), (6, some (.var (.os 50))), (50, some (.row 1 (o.map bE)))]
theorem Alx (l : List UInt8) : (Bx l).1 < 65536 ∧ (Bx l).2.1 ≤ 3 ∧ 0 ≤ (Bx l).2.2 ∧ (Bx l).2.2 ≤ 8 := by
 have b0 := (l.getD 0 0).toNat_lt;have b1 := (l.getD 1 0).toNat_lt;have b2 := (l.getD 2 0).toNat_lt;unfold Bx;split
 · simp only; omega
 · split
   · simp
   · split
     · simp
     · simp only; omega
theorem Ab8 : ∀ p ∈ [11, 12], p < Ds := by
 intro p hp;have : Ds = 1000000 := rfl;simp at hp; omega
set_option maxHeartbeats 4000000 in
theorem Sz {f : Bool} {z : Nat} {b : List UInt8} {most : Int} {h d} (hz : b = [] ∨ z = 1) (hn : b.length ≤ 300000) :
 FunOk Tryz.prog 26 [.pv (.sl f z (Ad b)), .pv (.i .i64 most)] h d (.tup [.os d, .pv (.i .i64 (Cj b [] most).2)]) [.new d (.row 1 ((Cj b [] most).1.map bE))] := by
 refine Ahi Ao fn26 (by simp) rfl (.inl rfl) rfl fun F => ?_;simp (disch := omega) only [ir26, go_sem];refine Aa (Akl hz (by omega)) ?_;simp (disch := omega) only [go_sem];refine Ajs Ao fn82 (by simp) fun l XI hc => ?_;rw [Aaj _ _ _ (by show 2 ≤ 1000000; omega)];simp (disch := omega) only [ir82, Ti, List.getElem?_cons_zero, go_sem];refine A2 Ao (fun x : List UInt8 × List (List UInt8) => Auq l most x.1 x.2) (fun x => Cj b [] most = Cj x.1 x.2 most ∧ x.2.length + x.1.length ≤ 300000) (fun x => x.1.length) (b, []) ⟨rfl, by simpa using hn⟩ (Aor 6 50 1 rfl (by decide) (by decide) (Au ?_ ?_)) fun x hx => ?_
 · (try simp only [Ek, Ej, Ei, Eh, Eg, Ef, Ee, Ed]); simp (disch := omega) only [go_sem]
 · (try simp only [Ek, Ej, Ei, Eh, Eg, Ef, Ee, Ed]); simp (disch := omega) only [go_sem]
   rfl
 obtain ⟨r, o⟩ := x;obtain ⟨hu, hlen⟩ := hx;dsimp only at hu hlen ⊢;rw [hu];by_cases hr : r = []
 · subst hr;rw [Qm]
   (try simp only [Ek, Ej, Ei, Eh, Eg, Ef, Ee, Ed]); simp (disch := omega) only [Auq, Aw, List.length_nil, go_sem]
 have hrp : 0 < r.length := List.length_pos_iff.2 hr;have hle := Alx r;have her : O9 r = if (Bx r).2.2 = 0 then if r.length < (Bx r).2.1 + (Bx r).1 then 8 else 0 else (Bx r).2.2 := rfl
 have hfl : Aad r = (r.drop (Bx r).2.1).take (Bx r).1 := rfl;have hrs : Y8 r = r.drop ((Bx r).2.1 + (Bx r).1) := rfl;simp (disch := omega) only [Auq, Aw, go_sem];refine Aa (Aqh (f := false) (l := r) rfl rfl hr (by omega)) ?_;have hlt := fun h => Ad9 hr h;rcases hh : Bx r with ⟨n, fr, e⟩
 rw [hh] at hle her hfl hrs;simp only at hle her hfl hrs;have bad : O9 r ≠ 0 → Cj r o most = ([], O9 r) := fun h => Ym hr h;by_cases he0 : e = 0
 · subst he0;rw [if_pos rfl] at her;by_cases hcut : r.length < fr + n
   · rw [if_pos hcut] at her;rw [bad (by rw [her]; decide), her]
     (try simp only [Ek, Ej, Ei, Eh, Eg, Ef, Ee, Ed]); simp (disch := omega) only [Aw, go_sem]
     refine Vz Ao hc ?_ rfl fun XA XB => ?_
     · simp (disch := omega) only [go_sem]
     rw [N9 _ _ _ _ Ab8];simp (disch := omega) only [go_sem];exact .inr ⟨0, rfl, rfl, by decide⟩
   · rw [if_neg hcut] at her;have hgo := hlt her;have hfe : (r.take (fr + n)).drop fr = Aad r := by rw [hfl, List.drop_take]; congr 1; omega
     have e3 : ((fr : Int) + (n : Int)).toNat = fr + n := by omega
     have hfll : (Aad r).length ≤ 70000 := by rw [hfl, List.length_take]; omega
     (try simp only [Ek, Ej, Ei, Eh, Eg, Ef, Ee, Ed]); simp (disch := omega) only [Aw, e3, hfe, go_sem]
     refine Vz Ao hc ?_ rfl fun XA XB => ?_
     · simp (disch := omega) only [go_sem]
     rw [N9 _ _ _ _ Ab8];by_cases hfull : most ≤ o.length
     · rw [V3 hr her hfull]
       (try simp only [Ek, Ej, Ei, Eh, Eg, Ef, Ee, Ed]); simp (maxSteps := 10000000) (disch := omega) only [List.length_map, go_sem]
       exact .inr ⟨0, rfl, rfl, by decide⟩
     · rw [Se hr her hfull];simp (disch := omega) only [List.length_map, go_sem];refine ⟨(Y8 r, o ++ [Aad r]), ⟨rfl, by simp only [List.length_append, List.length_singleton]; omega⟩, hgo, Dt 23 50 (by decide) rfl (Au ?_ ?_)⟩
       · (try simp only [Ek, Ej, Ei, Eh, Eg, Ef, Ee, Ed]); simp (disch := omega) only [e3, ← hrs, go_sem]
       · (try simp only [Ek, Ej, Ei, Eh, Eg, Ef, Ee, Ed]); simp (disch := omega) only [List.map_append, List.map_cons, List.map_nil, bE, go_sem]
 · rw [if_neg he0] at her;rw [bad (by rw [her]; exact he0), her]
   (try simp only [Ek, Ej, Ei, Eh, Eg, Ef, Ee, Ed]); simp (disch := omega) only [Aw, go_sem]
   refine Vz Ao hc ?_ rfl fun XA XB => ?_
   · simp (disch := omega) only [go_sem]
   rw [N9 _ _ _ _ Ab8];simp (disch := omega) only [go_sem];exact .inr ⟨0, rfl, rfl, by decide⟩
theorem Yl (n : Nat) : IntKind.u8.wrap (((n / 256 : Nat) : Int)) = (((UInt8.ofNat (n / 256)).toNat : Nat) : Int) := Bw _
def V9 (f : Bool) (z : Nat) (es : List (List PV)) (L : List (List UInt8)) (k : Nat) : FS := mk [(11, .pv (.i .i64 k)), (10, .pv (.i .i64 L.length)), (9, .pv (.sl f z es)), (4, .os 50)] [(50, some (.row 1 (Ad (Cv (L.take k)))))]
def Bn : List (List UInt8) → Nat
 | [] => 0
 | f :: l => f.length + 3 + Bn l
theorem Ft : ∀ L : List (List UInt8), (Cv L).length ≤ Bn L
 | [] => Nat.le_refl _
 | f :: l => by
   have := Ft l;simp only [Cv, Bn, List.length_append, J4];split <;> omega
theorem Jm : ∀ (L : List (List UInt8)) (k : Nat), Bn (L.take k) ≤ Bn L
 | [], k => by simp [Bn]
 | f :: l, 0 => by simp [Bn]
 | f :: l, k + 1 => by
   have := Jm l k;simp only [List.take_succ_cons, Bn]; omega
theorem Kx : ∀ {L : List (List UInt8)} {k : Nat}, k < L.length → (L.getD k []).length + 3 ≤ Bn L
 | f :: l, 0, _ => by simp only [Bn, List.getD_cons_zero]; omega
 | f :: l, k + 1, h => by
   have := Kx (L := l) (k := k) (by simpa using h);simp only [Bn, List.getD_cons_succ]; omega
 | [], k, h => by simp at h
set_option maxHeartbeats 4000000 in
theorem Acd {x : SV} {f : Bool} {z : Nat} {es : List (List PV)} {L : List (List UInt8)} {h d} (hx : Di h [x] = [.pv (.sl f z es)]) (hl : Be [x] = true) (he : A34 es L) (hz : L = [] ∨ z = 1) (hb : Bn L ≤ 300000) (hall : ∀ b ∈ L, b.length ≤ 65535) :
 FunOk Tryz.prog 20 [x] h d (.tup [.os d, .pv (.i .i64 0)]) [.new d (.row 1 (Ad (Cv L)))] := by
 refine Tq Ao fn20 (by simp) hl (.inr (Ka _)) rfl fun F => ?_;rw [hx];have hel := he.1;have hLn : L.length ≤ 300000 := by
  have : ∀ L : List (List UInt8), L.length ≤ Bn L := fun L => by
   induction L with
   | nil => simp
   | cons f l ih => simp only [Bn, List.length_cons]; omega
  exact Nat.le_trans (this L) hb
 simp (disch := omega) only [ir20, hel, go_sem];refine A2 Ao (V9 f z es L) (fun k => k ≤ L.length) (fun k => L.length - k) 0 (by simp) (Dt 8 50 (by decide) rfl (Au ?_ ?_)) fun k hk => ?_
 · simp (disch := omega) only [go_sem]
 · simp (disch := omega) only [go_sem];rfl
 by_cases hlt : k < L.length
 · have hz1 : z = 1 := hz.resolve_left fun e => by subst e; simp at hlt
   subst hz1;obtain ⟨f', z', hek, hz'⟩ := he.2 k hlt;have hpt := Acb hlt;have hbk : (L.getD k []).length ≤ 65535 := by
    rw [List.getD_eq_getElem?_getD, List.getElem?_eq_getElem hlt];exact hall _ (List.getElem_mem hlt)
   have hpl := Kx hlt;have hpk := Nat.le_trans (Ft (L.take k)) (Jm L k);generalize L.getD k [] = b at *;have hzz := Atp hz';have hwn : IntKind.u8.wrap (b.length : Int) = (((UInt8.ofNat b.length).toNat : Nat) : Int) := Bw _;by_cases hs : b.length < 255
   · rw [O7 hs] at hpt;simp (disch := omega) only [V9, hel, hek, Ti, Aw, hzz, hwn, List.length_append, go_sem];refine ⟨k + 1, by omega, by omega, Dt 38 50 (by decide) rfl (Au ?_ ?_)⟩
     · simp (disch := omega) only [go_sem]
     · simp (disch := omega) only [hpt, Ad, List.map_append, List.map_cons, List.map_nil, go_sem];simp
   · rw [Q2 hs] at hpt;have e8 : ((2 : Int) ^ min (Int.toNat 8) 64) = 256 := rfl;have hsh : ((b.length : Int).fdiv 256) = ((b.length / 256 : Nat) : Int) := by
      rw [Int.fdiv_eq_ediv_of_nonneg _ (by omega)]; omega
     have hwh := Yl b.length;simp (disch := omega) only [V9, hel, hek, Ti, Aw, hzz, e8, hsh, hwn, hwh, List.length_append, go_sem];refine ⟨k + 1, by omega, by omega, Dt 38 50 (by decide) rfl (Au ?_ ?_)⟩
     · simp (disch := omega) only [go_sem]
     · simp (disch := omega) only [hpt, Ad, List.map_append, List.map_cons, List.map_nil, go_sem];simp
 · obtain rfl : k = L.length := by omega
   have e := List.take_length (l := L);simp (disch := omega) only [V9, e, go_sem]
theorem Rr (a : Nat) (h : a < 256) : (BitVec.ofInt 8 (a : Int)).toNat = a := by
 rw [BitVec.ofInt_natCast, BitVec.toNat_ofNat]; exact Nat.mod_eq_of_lt (by omega)
theorem Adg (a b : Nat) (ha : a < 256) (hb : b < 256) : bits .or .u8 a b = ((a ||| b : Nat) : Int) := by
 have h : a ||| b < 2 ^ 8 := Nat.or_lt_two_pow ha hb;show IntKind.u8.wrap ((BitVec.ofInt 8 (a : Int) ||| BitVec.ofInt 8 (b : Int)).toNat : Int) = _;rw [BitVec.toNat_or, Rr a ha, Rr b hb];exact Nu ⟨by omega, by omega⟩
theorem Q9 (a b : Nat) (ha : a < 256) (hb : b < 256) : bits .and .u8 a b = ((a &&& b : Nat) : Int) := by
 have h : a &&& b < 2 ^ 8 := Nat.and_lt_two_pow a hb;show IntKind.u8.wrap ((BitVec.ofInt 8 (a : Int) &&& BitVec.ofInt 8 (b : Int)).toNat : Int) = _;rw [BitVec.toNat_and, Rr a ha, Rr b hb];exact Nu ⟨by omega, by omega⟩
theorem Avt {k : Nat} (hk : k < 8) : (1 : Int) * 2 ^ min k 8 = ((2 ^ k : Nat) : Int) := by
 rw [Nat.min_eq_left (by omega), Int.one_mul, Int.natCast_pow]; rfl
theorem Wq {k : Nat} (hk : k < 8) : 2 ^ k < 256 := by
 have : 2 ^ (k + 1) ≤ 2 ^ 8 := Nat.pow_le_pow_right (by omega) (by omega);rw [Nat.pow_succ] at this; omega
theorem Aj8 {m k : Nat} (hk : k < 8) (hm : m < 2 ^ k) : bits .or .u8 (m : Int) (IntKind.u8.wrap (1 * 2 ^ min k 8)) = ((m + 2 ^ k : Nat) : Int) := by
 have h1 := Wq hk;rw [Avt hk, Nu (by omega), Adg _ _ (by omega) (by omega)];have := Nat.two_pow_add_eq_or_of_lt hm 1;rw [Nat.mul_one] at this;rw [Nat.or_comm, ← this, Nat.add_comm]
theorem Aax {m i : Nat} (hm : m < 256) (hi : i < 8) : bits .and .u8 (((m : Int)).fdiv (2 ^ min i 8)) 1 = ((m / 2 ^ i % 2 : Nat) : Int) := by
 rw [Nat.min_eq_left (by omega), Int.fdiv_eq_ediv_of_nonneg _ (by exact Int.le_of_lt (Int.pow_pos (by omega)))];have e : (m : Int) / 2 ^ i = ((m / 2 ^ i : Nat) : Int) := by rw [Int.natCast_ediv, Int.natCast_pow]; rfl
 have h2 : m / 2 ^ i < 256 := Nat.lt_of_le_of_lt (Nat.div_le_self _ _) hm;rw [e, show (1 : Int) = ((1 : Nat) : Int) from rfl, Q9 _ _ h2 (by omega), show (1 : Nat) = 2 ^ 1 - 1 from rfl, Nat.and_two_pow_sub_one_eq_mod]
theorem Am2 {x y : Nat} (hx : x < 4294967296) (hy : y < 4294967296) : (dA x y).length ≤ 5 := by
 unfold dA;split
 · exact H3 (by omega)
 · split
   · exact H3 (by omega)
   · simp
def Ks (v base : Vc) (k : Nat) : FS := mk [(11, .pv (.i .i64 k)), (10, .vec 8 (vE v)), (7, .os 32), (6, .pv (.i .u8 (A1 (Bg v base) k))), (5, .pv (.i .u8 (A1 (Bi v base) k))), (3, .p 3 0)] [(3, some (.var (.vec 8 (vE base)))), (32, some (.row 1 (Ad (Nl v base k))))]
set_option maxHeartbeats 4000000 in
theorem S3 (v base : Vc) (hv : ∀ i, i < 8 → v i < 4294967296) (hb : ∀ i, i < 8 → base i < 4294967296) {h d} : FunOk Tryz.prog 18 [.vec 8 (vE v), .vec 8 (vE base)] h d (.os d) [.new d (.row 1 (Ad (A6 v base)))] := by
 refine O1 Ao fn18 (by simp) rfl (.inl rfl) fun F => ?_;simp (disch := omega) only [ir18, go_sem];refine A2 Ao (Ks v base) (fun k => k ≤ 8) (fun k => 8 - k) 0 (by simp) (Abk 7 32 1 rfl (by omega) (Au ?_ ?_)) fun k hk => ?_
 · simp (disch := omega) only [A1, go_sem]
 · simp (disch := omega) only [Nl, go_sem];rfl
 have hl := I5 v base hv hb k hk;by_cases hlt : k < 8
 · have h1 := hv k hlt;have h2 := hb k hlt;have hd := Am2 h1 h2;have m1 := Dd (Bi v base) k;have m2 := Dd (Bg v base) k;have o1 := Aj8 hlt m1;have o2 := Aj8 hlt m2;have hby : Nl v base (k + 1) = Nl v base k ++ dA (v k) (base k) := rfl;have hm1 : A1 (Bi v base) (k + 1) = if Bi v base k = true then A1 (Bi v base) k + 2 ^ k else A1 (Bi v base) k := rfl
   have hm2 : A1 (Bg v base) (k + 1) = if Bg v base k = true then A1 (Bg v base) k + 2 ^ k else A1 (Bg v base) k := rfl
   rcases Nat.lt_trichotomy (v k) (base k) with hc | hc | hc
   · have p1 : Bi v base k = false := by simp [Bi]; omega
     have p2 : Bg v base k = true := by simp [Bg, hc]
     have p3 : dA (v k) (base k) = Cq (base k - v k) := by unfold dA; rw [if_neg (by omega), if_pos hc]
     have e : ((base k : Int) - (v k : Int)) = ((base k - v k : Nat) : Int) := by omega
     rw [p1] at hm1; rw [p2] at hm2; rw [p3] at hby hd;simp only [Bool.false_eq_true, if_false] at hm1;simp only [if_true] at hm2;simp (disch := omega) only [Ks, o2, e, go_sem];refine Aa (Zp _ (by omega)) ?_;simp (disch := omega) only [Aw, T2, go_sem];refine ⟨k + 1, by omega, by omega, Dt 50 32 (by decide) rfl (Au ?_ ?_)⟩
     · simp (disch := omega) only [hm1, hm2, go_sem]
     · simp (disch := omega) only [hby, go_sem]
   · have p1 : Bi v base k = false := by simp [Bi]; omega
     have p2 : Bg v base k = false := by simp [Bg]; omega
     have p3 : dA (v k) (base k) = [] := by unfold dA; rw [if_neg (by omega), if_neg (by omega)]
     rw [p1] at hm1; rw [p2] at hm2; rw [p3, List.append_nil] at hby;simp only [Bool.false_eq_true, if_false] at hm1 hm2;simp (disch := omega) only [Ks, go_sem];refine Az (k + 1) _ _ rfl (by omega) (by omega) ?_ ?_
     · simp (disch := omega) only [hm1, hm2, go_sem]
     · simp (disch := omega) only [hby, go_sem]
   · have p1 : Bi v base k = true := by simp [Bi, hc]
     have p2 : Bg v base k = false := by simp [Bg]; omega
     have p3 : dA (v k) (base k) = Cq (v k - base k) := by unfold dA; rw [if_pos hc]
     have e : ((v k : Int) - (base k : Int)) = ((v k - base k : Nat) : Int) := by omega
     rw [p1] at hm1; rw [p2] at hm2; rw [p3] at hby hd;simp only [Bool.false_eq_true, if_false] at hm2;simp only [if_true] at hm1;simp (disch := omega) only [Ks, o1, e, go_sem];refine Aa (Zp _ (by omega)) ?_;simp (disch := omega) only [Aw, T2, go_sem];refine Az (k + 1) _ _ rfl (by omega) (by omega) ?_ ?_
     · simp (disch := omega) only [hm1, hm2, go_sem]
     · simp (disch := omega) only [hby, go_sem]
 · obtain rfl : k = 8 := by omega
   simp (disch := omega) only [Ks, go_sem];rw [← Zu (Bi v base), ← Zu (Bg v base)];rfl
def Ai4 (i k : Nat) : FS := mk [(4, .pv (.i .i64 k)), (3, .pv (.i .u8 ((2 ^ k : Nat) : Int))), (0, .pv (.i .i64 i))] []
theorem Ato (i : Nat) (hi : i < 8) {h d} : FunOk Tryz.prog 63 [.pv (.i .i64 i)] h d (.pv (.i .u8 ((2 ^ i : Nat) : Int))) [] := by
 refine Aq Ao fn63 (by simp) rfl rfl fun F => ?_;simp (disch := omega) only [ir63, go_sem];refine A2 Ao (Ai4 i) (fun k => k ≤ i) (fun k => i - k) 0 (by omega) (Au ?_ ?_) fun k hk => ?_
 · have e : ((2 ^ 0 : Nat) : Int) = 1 := rfl;simp (disch := omega) only [e, go_sem]
 · simp (disch := omega) only [go_sem]
 by_cases hlt : k < i
 · have h1 := Wq (k := k + 1) (by omega);have e : ((2 ^ k : Nat) : Int) * 2 = ((2 ^ (k + 1) : Nat) : Int) := by rw [Nat.pow_succ]; omega
   have e' := Nu (n := ((2 ^ (k + 1) : Nat) : Int)) ⟨Int.natCast_nonneg _, Int.ofNat_lt.2 h1⟩;simp (disch := omega) only [Ai4, e, e', go_sem];refine Az (k + 1) _ _ rfl (by omega) (by omega) ?_ ?_
   · simp (disch := omega) only [go_sem]
   · simp (disch := omega) only [go_sem]
 · obtain rfl : k = i := by omega
   simp (disch := omega) only [Ai4, go_sem]
def Ik (v base : Vc) (k : Nat) : FS := mk [(8, .pv (.i .i64 k)), (7, .pv (.s (Nl v base k))), (6, .pv (.i .u8 (A1 (Bg v base) k))), (5, .pv (.i .u8 (A1 (Bi v base) k))), (3, .p 3 0), (2, .p 2 0)] [(2, some (.var (.vec 8 (vE v)))), (3, some (.var (.vec 8 (vE base))))]
set_option maxHeartbeats 4000000 in
theorem Pw (v base : Vc) (hv : ∀ i, i < 8 → v i < 4294967296) (hb : ∀ i, i < 8 → base i < 4294967296) {h d} : FunOk Tryz.prog 30 [.vec 8 (vE v), .vec 8 (vE base)] h d (.pv (.s (A6 v base))) [] := by
 refine Aq Ao fn30 (by simp) rfl rfl fun F => ?_;simp (disch := omega) only [ir30, go_sem];refine A2 Ao (Ik v base) (fun k => k ≤ 8) (fun k => 8 - k) 0 (by simp) (Au ?_ ?_) fun k hk => ?_
 · simp (disch := omega) only [A1, Nl, go_sem]
 · simp (disch := omega) only [go_sem]
 have hl := I5 v base hv hb k hk;by_cases hlt : k < 8
 · have h1 := hv k hlt;have h2 := hb k hlt;have hd := Am2 h1 h2;have m1 := Dd (Bi v base) k;have m2 := Dd (Bg v base) k;have m3 := Dd (Bi v base) 8;have h8 := Wq hlt;have q1 := Dd (Bi v base) (k + 1);have q2 := Dd (Bg v base) (k + 1);have hq : 2 ^ (k + 1) ≤ 2 ^ 8 := Nat.pow_le_pow_right (by omega) (by omega);rw [show (2 : Nat) ^ 8 = 256 from rfl] at hq;have hby : Nl v base (k + 1) = Nl v base k ++ dA (v k) (base k) := rfl;have hm1 : A1 (Bi v base) (k + 1) = if Bi v base k = true then A1 (Bi v base) k + 2 ^ k else A1 (Bi v base) k := rfl
   have hm2 : A1 (Bg v base) (k + 1) = if Bg v base k = true then A1 (Bg v base) k + 2 ^ k else A1 (Bg v base) k := rfl
   rcases Nat.lt_trichotomy (v k) (base k) with hc | hc | hc
   · have p1 : Bi v base k = false := by simp [Bi]; omega
     have p2 : Bg v base k = true := by simp [Bg, hc]
     have p3 : dA (v k) (base k) = Cq (base k - v k) := by unfold dA; rw [if_neg (by omega), if_pos hc]
     have e : (0 - ((v k : Int) - (base k : Int))) = ((base k - v k : Nat) : Int) := by omega
     have hne : ¬ ((base k - v k : Nat) : Int) = 0 := by omega
     rw [p1] at hm1; rw [p2] at hm2; rw [p3] at hby hd;simp only [Bool.false_eq_true, if_false] at hm1;simp only [if_true] at hm2;have e2 : ((A1 (Bg v base) k : Nat) : Int) + ((2 ^ k : Nat) : Int) = ((A1 (Bg v base) (k + 1) : Nat) : Int) := by omega
     have e6 : IntKind.u8.wrap (((Bc (base k - v k)).length : Nat) : Int) = ((UInt8.ofNat (Bc (base k - v k)).length).toNat : Int) := Bw _;have e7 : [[PV.i .u8 ((UInt8.ofNat (Bc (base k - v k)).length).toNat : Int)]] = Ad [UInt8.ofNat (Bc (base k - v k)).length] := rfl;have e8 : [UInt8.ofNat (Bc (base k - v k)).length] ++ Bc (base k - v k) = Cq (base k - v k) := rfl;have e9 := C5 4 (base k - v k) (by omega);simp (disch := omega) only [Ik, e2, go_sem];refine Aa (Ato k hlt) ?_;simp (disch := omega) only [e2, e, go_sem];refine Aa (K2 _ (by omega)) ?_;simp (disch := omega) only [e6, e7, e8, go_sem];refine Az (k + 1) _ _ rfl (by omega) (by omega) ?_ ?_
     · simp (disch := omega) only [hm1, hm2, hby, e8, go_sem]
     · simp (disch := omega) only [go_sem]
   · have p1 : Bi v base k = false := by simp [Bi]; omega
     have p2 : Bg v base k = false := by simp [Bg]; omega
     have p3 : dA (v k) (base k) = [] := by unfold dA; rw [if_neg (by omega), if_neg (by omega)]
     rw [p1] at hm1; rw [p2] at hm2; rw [p3, List.append_nil] at hby;simp only [Bool.false_eq_true, if_false] at hm1 hm2;simp (disch := omega) only [Ik, go_sem];refine Az (k + 1) _ _ rfl (by omega) (by omega) ?_ ?_
     · simp (disch := omega) only [hm1, hm2, hby, go_sem]
     · simp (disch := omega) only [go_sem]
   · have p1 : Bi v base k = true := by simp [Bi, hc]
     have p2 : Bg v base k = false := by simp [Bg]; omega
     have p3 : dA (v k) (base k) = Cq (v k - base k) := by unfold dA; rw [if_pos hc]
     have e : ((v k : Int) - (base k : Int)) = ((v k - base k : Nat) : Int) := by omega
     have hne : ¬ ((v k - base k : Nat) : Int) = 0 := by omega
     rw [p1] at hm1; rw [p2] at hm2; rw [p3] at hby hd;simp only [Bool.false_eq_true, if_false] at hm2;simp only [if_true] at hm1;have e2 : ((A1 (Bi v base) k : Nat) : Int) + ((2 ^ k : Nat) : Int) = ((A1 (Bi v base) (k + 1) : Nat) : Int) := by omega
     have e6 : IntKind.u8.wrap (((Bc (v k - base k)).length : Nat) : Int) = ((UInt8.ofNat (Bc (v k - base k)).length).toNat : Int) := Bw _;have e7 : [[PV.i .u8 ((UInt8.ofNat (Bc (v k - base k)).length).toNat : Int)]] = Ad [UInt8.ofNat (Bc (v k - base k)).length] := rfl;have e8 : [UInt8.ofNat (Bc (v k - base k)).length] ++ Bc (v k - base k) = Cq (v k - base k) := rfl;have e9 := C5 4 (v k - base k) (by omega);simp (disch := omega) only [Ik, e2, e, go_sem];refine Aa (Ato k hlt) ?_;simp (disch := omega) only [e2, e, go_sem];refine Aa (K2 _ (by omega)) ?_;simp (disch := omega) only [e6, e7, e8, go_sem];refine Az (k + 1) _ _ rfl (by omega) (by omega) ?_ ?_
     · simp (disch := omega) only [hm1, hm2, hby, e8, go_sem]
     · simp (disch := omega) only [go_sem]
 · obtain rfl : k = 8 := by omega
   have e7 : [[PV.i .u8 ((A1 (Bi v base) 8 : Nat) : Int)], [PV.i .u8 ((A1 (Bg v base) 8 : Nat) : Int)]] = Ad [UInt8.ofNat (A1 (Bi v base) 8), UInt8.ofNat (A1 (Bg v base) 8)] := by
    rw [← Zu (Bi v base), ← Zu (Bg v base)]; simp [Ad]
   simp (disch := omega) only [Ik, e7, go_sem];rfl
theorem Ajp (a : Nat → Int) (k : Nat) (x : Int) : Ul a k x = Md a k x := rfl
theorem Hl : (fun _ => 0 : Nat → Int) = Ui := rfl
theorem Ajz (m s n i : Nat) (t : Nat → Int) (rest : List UInt8) (h : n < 8) : D2 m s (8 - n) i t rest = match G7 m s i rest with
 | .skip => D2 m s (8 - (n + 1)) (i + 1) t rest
 | .err e => (Ui, e)
 | .val x rest' => D2 m s (8 - (n + 1)) (i + 1) (Ul t i x) rest' := by
 rw [show 8 - n = (8 - (n + 1)) + 1 from by omega]; rfl
def H7 (full : Bool) (m s : Nat) (x : Nat × (Nat → Int) × List UInt8) : FS := mk [(29, .pv (.i .i64 x.1)), (7, .pv (.sl full 1 (Ad x.2.2))), (6, .pv (.i .u8 s)), (5, .pv (.i .u8 m)), (4, .p 4 0), (2, .p 2 0)] [(4, some (.var (.vec 8 (iE x.2.1)))), (2, some (.var (.vec 8 (iE Ui))))]
set_option maxHeartbeats 8000000 in
theorem Akf {a : SV} {l : List UInt8} {full : Bool} {z : Nat} (hl : l.length < 4611686018427387904) {h} {d} (ha : Be [a] = true) (he : Hd h a = .pv (.sl full z (Ad l))) (hz : l = [] ∨ z = 1) :
 FunOk Tryz.prog 59 [a] h d (.tup [.vec 8 (iE (Ch l).1), .pv (.i .i64 (Ch l).2)]) [] := by
 refine Dn Ao fn59 (by simp) ha rfl fun F => ?_;by_cases h2 : l.length < 2
 · have e : Ch l = (Ui, 8) := by unfold Ch; rw [if_pos h2]
   simp (disch := omega) only [ir59, he, e, Hl, go_sem]
 have hz1 : z = 1 := hz.resolve_left (fun e => by subst e; simp at h2);subst hz1;obtain ⟨m, hm⟩ : ∃ m, m = (l.getD 0 0).toNat := ⟨_, rfl⟩
 obtain ⟨s, hs⟩ : ∃ s, s = (l.getD 1 0).toNat := ⟨_, rfl⟩
 have hmb : m < 256 := by rw [hm]; exact UInt8.toNat_lt _
 have hsb : s < 256 := by rw [hs]; exact UInt8.toNat_lt _
 have hand := Q9 m s hmb hsb;have h0 : (l.getD 0 0).toNat = m := hm.symm;have h1 : (l.getD 1 0).toNat = s := hs.symm;have t2 : (2 : Int).toNat = 2 := rfl;have t1 : (1 : Int).toNat = 1 := rfl;by_cases hms : m &&& s = 0
 · have e : Ch l = D2 m s (8 - 0) 0 Ui (l.drop 2) := by unfold Ch; rw [if_neg h2, h0, h1, if_neg (by simp [hms])]
   have ez : ((m &&& s : Nat) : Int) = 0 := by rw [hms]; rfl
   simp (disch := omega) only [ir59, he, go_sem];refine Yg ?_;simp (disch := omega) only [Bf, h0, h1, t1, t2, hand, ez, go_sem];refine A2 Ao (H7 full m s) (fun x => x.1 ≤ 8 ∧ Ch l = D2 m s (8 - x.1) x.1 x.2.1 x.2.2 ∧ x.2.2.length ≤ l.length) (fun x => 8 - x.1) (0, Ui, l.drop 2) ⟨by omega, e, by simp⟩ (Au ?_ ?_) fun x hx => ?_
   · (try simp only [Ek, Ej, Ei, Eh, Eg, Ef, Ee, Ed]); simp (disch := omega) only [Fk, go_sem]
   · (try simp only [Ek, Ej, Ei, Eh, Eg, Ef, Ee, Ed]); simp (disch := omega) only [Hl, go_sem]
   obtain ⟨i, t, rest⟩ := x;obtain ⟨hi, hr, hrl⟩ := hx;simp only at hi hr hrl;by_cases hlt : i < 8
   · rw [Ajz m s i i t rest hlt] at hr;have b1 := Aax hsb hlt;have b2 := Aax hmb hlt;by_cases k1 : s / 2 ^ i % 2 = 1
     · have k1' : ((s / 2 ^ i % 2 : Nat) : Int) = 1 := by omega
       have ho : G7 m s i rest = Gr (-1) rest := by unfold G7; rw [if_pos k1]
       rw [ho] at hr;obtain ⟨r0, hr0⟩ : ∃ r0, r0 = (rest.getD 0 0).toNat := ⟨_, rfl⟩
       have hr0b : r0 < 256 := by rw [hr0]; exact UInt8.toNat_lt _
       have hr0' : (rest.getD 0 0).toNat = r0 := hr0.symm;have w8 : IntKind.i64.wrap (r0 : Int) = (r0 : Int) := Da (by omega);by_cases c1 : rest.length = 0 ∨ rest.length - 1 < r0
       · have hn : Gr (-1) rest = .err 8 := by unfold Gr; rw [hr0', if_pos c1]
         rw [hn] at hr;by_cases c0 : rest.length = 0
         · simp (disch := omega) only [H7, b1, k1', hr, Hl, go_sem]
         · have c2 : (rest.length : Int) - 1 < (r0 : Int) := by omega
           simp (disch := omega) only [H7, b1, k1', Bf, hr0', w8, hr, Hl, go_sem]
       · have c0 : ¬ rest.length = 0 := fun h => c1 (.inl h);have c2 : ¬ (rest.length : Int) - 1 < (r0 : Int) := by omega
         have e1 : (1 + (r0 : Int)) = ((1 + r0 : Nat) : Int) := by omega
         have hlen3 : (((rest.take (1 + r0)).drop 1)).length < 4611686018427387904 := by simp; omega
         obtain ⟨q, hq⟩ : ∃ q, q = Co ((rest.take (1 + r0)).drop 1) := ⟨_, rfl⟩
         have hqlt : q.1 < 18446744073709551616 := by rw [hq]; exact Aay _
         have hn : Gr (-1) rest = if q.2 ≠ 0 ∨ q.1 = 0 ∨ 4294967295 < q.1 then .err 7 else .val ((-1) * (q.1 : Int)) (rest.drop (1 + r0)) := by unfold Gr; rw [hr0', if_neg c1, ← hq]
         rw [hn] at hr;simp (disch := omega) only [H7, b1, k1', Bf, hr0', w8, e1, t1, Pg, Fk, go_sem];refine Aa (Rq (l := (rest.take (1 + r0)).drop 1) (full := false) (z := 1) hlen3 rfl rfl (.inr rfl)) ?_;rw [← hq];by_cases d1 : q.2 = 0
         · by_cases d2 : q.1 = 0
           · rw [if_pos (.inr (.inl d2))] at hr;have d2' : ((q.1 : Nat) : Int) = 0 := by omega
             simp (disch := omega) only [d1, d2', hr, Hl, go_sem]
           · by_cases d3 : 4294967295 < q.1
             · rw [if_pos (.inr (.inr d3))] at hr;simp (disch := omega) only [d1, hr, Hl, go_sem]
             · rw [if_neg (by omega)] at hr;simp (disch := omega) only [d1, Bf, hr0', w8, e1, t1, Fk, go_sem];refine ⟨(i + 1, Ul t i ((-1) * (q.1 : Int)), rest.drop (1 + r0)), ⟨by simp; omega, hr, by simp; omega⟩, by simp; omega, Au ?_ ?_⟩
               · (try simp only [Ek, Ej, Ei, Eh, Eg, Ef, Ee, Ed]); simp (disch := omega) only [go_sem]
               · (try simp only [Ek, Ej, Ei, Eh, Eg, Ef, Ee, Ed]); simp (disch := omega) only [Ajp, go_sem]
         · rw [if_pos (.inl d1)] at hr;simp (disch := omega) only [d1, hr, Hl, go_sem]
     · have k1' : ¬ ((s / 2 ^ i % 2 : Nat) : Int) = 1 := by omega
       by_cases k2 : m / 2 ^ i % 2 = 0
       · have k2' : ((m / 2 ^ i % 2 : Nat) : Int) = 0 := by omega
         have ho : G7 m s i rest = .skip := by unfold G7; rw [if_neg k1, if_pos k2]
         rw [ho] at hr;simp (disch := omega) only [H7, b1, b2, k1', k2', go_sem];refine ⟨(i + 1, t, rest), ⟨by simp; omega, hr, hrl⟩, by simp; omega, Au ?_ ?_⟩
         · (try simp only [Ek, Ej, Ei, Eh, Eg, Ef, Ee, Ed]); simp (disch := omega) only [go_sem]
         · (try simp only [Ek, Ej, Ei, Eh, Eg, Ef, Ee, Ed]); simp (disch := omega) only [go_sem]
       · have k2' : ¬ ((m / 2 ^ i % 2 : Nat) : Int) = 0 := by omega
         have ho : G7 m s i rest = Gr 1 rest := by unfold G7; rw [if_neg k1, if_neg k2]
         rw [ho] at hr;obtain ⟨r0, hr0⟩ : ∃ r0, r0 = (rest.getD 0 0).toNat := ⟨_, rfl⟩
         have hr0b : r0 < 256 := by rw [hr0]; exact UInt8.toNat_lt _
         have hr0' : (rest.getD 0 0).toNat = r0 := hr0.symm;have w8 : IntKind.i64.wrap (r0 : Int) = (r0 : Int) := Da (by omega);by_cases c1 : rest.length = 0 ∨ rest.length - 1 < r0
         · have hn : Gr 1 rest = .err 8 := by unfold Gr; rw [hr0', if_pos c1]
           rw [hn] at hr;by_cases c0 : rest.length = 0
           · simp (disch := omega) only [H7, b1, b2, k1', k2', hr, Hl, go_sem]
           · have c2 : (rest.length : Int) - 1 < (r0 : Int) := by omega
             simp (disch := omega) only [H7, b1, b2, k1', k2', Bf, hr0', w8, hr, Hl, go_sem]
         · have c0 : ¬ rest.length = 0 := fun h => c1 (.inl h);have c2 : ¬ (rest.length : Int) - 1 < (r0 : Int) := by omega
           have e1 : (1 + (r0 : Int)) = ((1 + r0 : Nat) : Int) := by omega
           have hlen3 : (((rest.take (1 + r0)).drop 1)).length < 4611686018427387904 := by simp; omega
           obtain ⟨q, hq⟩ : ∃ q, q = Co ((rest.take (1 + r0)).drop 1) := ⟨_, rfl⟩
           have hqlt : q.1 < 18446744073709551616 := by rw [hq]; exact Aay _
           have hn : Gr 1 rest = if q.2 ≠ 0 ∨ q.1 = 0 ∨ 4294967295 < q.1 then .err 7 else .val (1 * (q.1 : Int)) (rest.drop (1 + r0)) := by unfold Gr; rw [hr0', if_neg c1, ← hq]
           rw [hn] at hr;simp (disch := omega) only [H7, b1, b2, k1', k2', Bf, hr0', w8, e1, t1, Pg, Fk, go_sem];refine Aa (Rq (l := (rest.take (1 + r0)).drop 1) (full := false) (z := 1) hlen3 rfl rfl (.inr rfl)) ?_;rw [← hq];by_cases d1 : q.2 = 0
           · by_cases d2 : q.1 = 0
             · rw [if_pos (.inr (.inl d2))] at hr;have d2' : ((q.1 : Nat) : Int) = 0 := by omega
               simp (disch := omega) only [d1, d2', hr, Hl, go_sem]
             · by_cases d3 : 4294967295 < q.1
               · rw [if_pos (.inr (.inr d3))] at hr;simp (disch := omega) only [d1, hr, Hl, go_sem]
               · rw [if_neg (by omega)] at hr;simp (disch := omega) only [d1, Bf, hr0', w8, e1, t1, Fk, go_sem];refine ⟨(i + 1, Ul t i (1 * (q.1 : Int)), rest.drop (1 + r0)), ⟨by simp; omega, hr, by simp; omega⟩, by simp; omega, Au ?_ ?_⟩
                 · (try simp only [Ek, Ej, Ei, Eh, Eg, Ef, Ee, Ed]); simp (disch := omega) only [go_sem]
                 · (try simp only [Ek, Ej, Ei, Eh, Eg, Ef, Ee, Ed]); simp (disch := omega) only [Ajp, go_sem]
           · rw [if_pos (.inl d1)] at hr;simp (disch := omega) only [d1, hr, Hl, go_sem]
   · obtain rfl : i = 8 := by omega
     have hr' : Ch l = if rest.length = 0 then (t, 0) else (Ui, 4) := hr
     by_cases c0 : rest.length = 0
     · rw [if_pos c0] at hr';simp (disch := omega) only [H7, hr', go_sem]
     · rw [if_neg c0] at hr';simp (disch := omega) only [H7, hr', Hl, go_sem]
 · have e : Ch l = (Ui, 7) := by unfold Ch; rw [if_neg h2, h0, h1, if_pos hms]
   have ez : ¬ ((m &&& s : Nat) : Int) = 0 := by omega
   simp (disch := omega) only [ir59, he, go_sem];refine Yg ?_;simp (disch := omega) only [Bf, h0, h1, t1, t2, hand, ez, e, Hl, go_sem]
def Ae3 (l : List UInt8) (base : Vc) : Vc := fun i => ((base i : Int) + (Ch l).1 i).toNat
theorem Al1 {l : List UInt8} {base : Vc} (h0 : (Ch l).2 = 0) (hok : Nd l base) : Gt l base = (Ae3 l base, 0) := by
 unfold Gt;rw [if_neg (by rw [h0]; simp), if_pos hok]; rfl
def Sl (l : List UInt8) (base : Vc) (k : Nat) : FS := mk [(22, .pv (.i .i64 k)), (21, .vec 8 (iE (Ch l).1)), (8, .p 8 0), (4, .p 4 0), (3, .p 3 0)] [(3, some (.var (.vec 8 (vE base)))), (8, some (.var (.vec 8 (vE fun i => if i < k then Ae3 l base i else 0)))), (4, some (.var (.vec 8 (vE fun _ => 0))))]
set_option maxHeartbeats 4000000 in
theorem Acg {a : SV} {l : List UInt8} {full : Bool} {z : Nat} (base : Vc) (hb : ∀ i, i < 8 → base i < 4294967296) (hl : l.length < 4611686018427387904) {h} {d} (ha : Be [a] = true) (he : Hd h a = .pv (.sl full z (Ad l))) (hz : l = [] ∨ z = 1) :
 FunOk Tryz.prog 27 [a, .vec 8 (vE base)] h d (.tup [.vec 8 (vE (Gt l base).1), .pv (.i .i64 (Gt l base).2)]) [] := by
 have ha2 : Be [a, .vec 8 (vE base)] = true := by
  cases a <;> simp only [Be, SV.closed, Bool.and_true, Bool.true_and, Bool.and_eq_true] at ha ⊢ <;> first | exact ha | trivial
 refine Dn Ao fn27 (by simp) ha2 rfl fun F => ?_;by_cases h0 : (Ch l).2 = 0
 · simp (disch := omega) only [ir27, he, go_sem];refine Aa (Akf hl rfl rfl hz) ?_;simp (disch := omega) only [h0, go_sem];refine A2 Ao (Sl l base) (fun k => k ≤ 8 ∧ ∀ i, i < k → 0 ≤ (base i : Int) + (Ch l).1 i ∧ (base i : Int) + (Ch l).1 i ≤ 4294967295) (fun k => 8 - k) 0 ⟨by omega, fun i hi => by omega⟩ (Au ?_ ?_) fun k hk => ?_
   · simp (disch := omega) only [go_sem]
   · simp (disch := omega) only [Aov, go_sem]
   obtain ⟨hk, hok⟩ := hk;by_cases hlt : k < 8
   · have b1 := hb k hlt;have b2 := Zb l k;have w1 : IntKind.i64.wrap ((base k : Nat) : Int) = (base k : Int) := Da (by omega);by_cases c1 : (base k : Int) + (Ch l).1 k < 0
     · have hn : ¬ Nd l base := fun h => by have := h k hlt; omega
       have e : Gt l base = (fun _ => 0, 7) := by unfold Gt; rw [if_neg (by rw [h0]; simp), if_neg hn]
       simp (disch := omega) only [Sl, w1, e, go_sem]
     · by_cases c2 : 4294967295 < (base k : Int) + (Ch l).1 k
       · have hn : ¬ Nd l base := fun h => by have := h k hlt; omega
         have e : Gt l base = (fun _ => 0, 7) := by unfold Gt; rw [if_neg (by rw [h0]; simp), if_neg hn]
         simp (disch := omega) only [Sl, w1, e, go_sem]
       · obtain ⟨x, hx⟩ : ∃ x : Nat, (base k : Int) + (Ch l).1 k = (x : Int) := ⟨((base k : Int) + (Ch l).1 k).toNat, by omega⟩
         rw [hx] at c1 c2;have w2 : IntKind.u32.wrap ((x : Nat) : Int) = (x : Int) := Nv (by omega);have w3 : IntKind.i64.wrap ((x : Nat) : Int) = (x : Int) := Da (by omega);have hxe : x = Ae3 l base k := by unfold Ae3; omega
         simp (disch := omega) only [Sl, w1, hx, w2, w3, go_sem];refine Az (k + 1) _ _ rfl ⟨by omega, fun i hi => ?_⟩ (by omega) ?_ ?_
         · by_cases e : i = k
           · subst e; omega
           · exact hok i (by omega)
         · simp (disch := omega) only [go_sem]
         · simp (disch := omega) only [Abl, hxe, go_sem]
   · have hall : Nd l base := fun i hi => hok i (by omega);have e := Al1 h0 hall;simp (disch := omega) only [Sl, At6, e, go_sem]
 · have e : Gt l base = (fun _ => 0, (Ch l).2) := by unfold Gt; rw [if_pos h0]
   simp (disch := omega) only [ir27, he, go_sem];refine Aa (Akf hl rfl rfl hz) ?_;simp (disch := omega) only [h0, e, go_sem]
def L5 (x : I7) : List UInt8 := if x.1 = 0 ∧ x.2 = 0 then [] else UInt8.ofNat x.1.toNat :: Bc x.2
def Jv (x : I7) : Prop := 0 ≤ x.1 ∧ x.1 ≤ 255 ∧ x.2 ≤ 1048576
theorem Gv (x : I7) (h : Jv x) : (L5 x).length ≤ 9 := by
 unfold L5;split
 · simp
 · have := C5 8 x.2 (by have := h.2.2; omega);simp; omega
theorem Pv (x : I7) (hx : Jv x) {h d} : FunOk Tryz.prog 43 [.vec 2 [.i .i64 x.1, .i .u32 x.2]] h d (.os d) [.new d (.row 1 (Ad (L5 x)))] := by
 refine Z8 Ao fn43 (by simp) rfl (.inl rfl) fun F => ?_;obtain ⟨h1, h2, h3⟩ := hx;by_cases hz : x.1 = 0 ∧ x.2 = 0
 · have e : L5 x = [] := if_pos hz;have ez : Bo x.1 x.2 = true := decide_eq_true hz;simp (disch := omega) only [ir43, Ag, Al, Ak, ez, e, go_sem];exact ⟨rfl, by omega⟩
 · have e : L5 x = UInt8.ofNat x.1.toNat :: Bc x.2 := if_neg hz;have ez : Bo x.1 x.2 = false := decide_eq_false hz;have ew : IntKind.u8.wrap x.1 = ((UInt8.ofNat x.1.toNat).toNat : Int) := by
    obtain ⟨n, hn⟩ : ∃ n : Nat, x.1 = n := ⟨x.1.toNat, by omega⟩
    rw [hn, Int.toNat_natCast]; exact Bw n
   have e5 := C5 8 x.2 (by omega);simp (disch := omega) only [ir43, Ag, Al, Ak, ez, Tk, Tj, ew, go_sem];refine Aa (S5 x.2 (by omega)) ?_;simp (disch := omega) only [Aw, go_sem];rw [e]; rfl
def Ju (l : List I7) : List UInt8 := Cv (l.map L5)
theorem Ky : ∀ {l : List I7}, (∀ x ∈ l, Jv x) → Bn (l.map L5) ≤ 12 * l.length
 | [], _ => by simp [Bn]
 | x :: l, h => by
   have h1 := Gv x (h x List.mem_cons_self);have h2 := Ky (l := l) fun y hy => h y (List.mem_cons_of_mem _ hy);simp only [List.map_cons, Bn, List.length_cons]; omega
theorem Ox {l : List I7} (h : ∀ x ∈ l, Jv x) : (Ju l).length ≤ 12 * l.length := Nat.le_trans (Ft _) (Ky h)
def Abp (f : Bool) (z : Nat) (l : List I7) (k : Nat) : FS := mk [(10, .pv (.i .i64 k)), (9, .pv (.i .i64 l.length)), (8, .pv (.sl f z (l.map Hj))), (3, .os 40)] [(40, some (.row 1 (((l.take k).map L5).map bE)))]
set_option maxHeartbeats 1000000 in
theorem M4 {x : SV} {f : Bool} {z : Nat} {l : List I7} {h d} (hx : Di h [x] = [.pv (.sl f z (l.map Hj))]) (hl : Be [x] = true) (hz : l = [] ∨ z = 2) (hn : l.length ≤ 1000) (hok : ∀ y ∈ l, Jv y) :
 FunOk Tryz.prog 44 [x] h d (.os d) [.new d (.row 1 (Ad (Ju l)))] := by
 refine O1 Ao fn44 (by simp) hl (.inr (Ka _)) fun F => ?_;rw [hx];simp (disch := omega) only [ir44, go_sem];refine A2 Ao (Abp f z l) (fun k => k ≤ l.length) (fun k => l.length - k) 0 (by simp) (Abk 3 40 1 rfl (by omega) (Au ?_ ?_)) fun k hk => ?_
 · simp (disch := omega) only [go_sem]
 · simp (disch := omega) only [go_sem];rfl
 by_cases hlt : k < l.length
 · have hz2 : z = 2 := hz.resolve_left fun e => by subst e; simp at hlt
   subst hz2;have he : (l.map Hj)[k]? = some (Hj l[k]) := by simp [hlt]
   have ht : l.take (k + 1) = l.take k ++ [l[k]] := by rw [List.take_add_one, List.getElem?_eq_getElem hlt]; rfl
   have hm := hok l[k] (List.getElem_mem hlt);generalize l[k] = y at *;have hyl : (Hj y).length = 2 := rfl;have hkl : (l.take k).length ≤ 1000 := by simp; omega
   simp (disch := omega) only [Abp, he, Er, hyl, go_sem];refine Aa (Pv y hm) ?_;simp (disch := omega) only [go_sem];refine ⟨k + 1, by omega, by omega, Dt 18 40 (by decide) rfl (Au ?_ ?_)⟩
   · simp (disch := omega) only [go_sem]
   · simp (disch := omega) only [ht, List.map_append, List.map_cons, List.map_nil, bE, go_sem]
 · obtain rfl : k = l.length := by omega
   have e := List.take_length (l := l);simp (disch := omega) only [Abp, e, go_sem];refine Aa (Acd (f := false) (z := 1) (L := l.map L5) rfl rfl (T3 _) (.inr rfl) (by have := Ky hok; omega) (fun b hb => by
    obtain ⟨y, hy, rfl⟩ := List.mem_map.1 hb;have := Gv y (hok y hy); omega)) ?_
   simp (disch := omega) only [Ju, go_sem]
def G5 (b : List UInt8) : Int := if (Co b).2 = 0 ∧ (Co b).1 ≤ 1073741824 then (Co b).1 else -1
theorem Oi {f : Bool} {z : Nat} {b : List UInt8} (hz : b = [] ∨ z = 1) (hb : b.length < 4611686018427387904) {h d} : FunOk Tryz.prog 60 [.pv (.sl f z (Ad b))] h d (.pv (.i .i64 (G5 b))) [] := by
 refine Aq Ao fn60 (by simp) rfl rfl fun F => ?_;simp (disch := omega) only [ir60, go_sem];refine Aa (Rq (l := b) hb rfl rfl hz) ?_;by_cases h1 : (Co b).2 = 0
 · by_cases h2 : 1073741824 < ((Co b).1 : Int)
   · have e : G5 b = -1 := if_neg (by omega);simp (disch := omega) only [h1, h2, e, go_sem]
   · have e : G5 b = (Co b).1 := if_pos ⟨h1, by omega⟩;simp (disch := omega) only [h1, h2, e, go_sem]
 · have e : G5 b = -1 := if_neg (fun h => h1 h.1);simp (disch := omega) only [h1, e, go_sem]
def St (b : List UInt8) : I7 := if b ≠ [] ∧ (Co (b.drop 1)).2 = 0 ∧ (Co (b.drop 1)).1 ≤ 1048576 then (((b.getD 0 0).toNat : Int), (Co (b.drop 1)).1) else (0, 0)
theorem S4 {f : Bool} {z : Nat} {b : List UInt8} (hz : b = [] ∨ z = 1) (hb : b.length < 400000) {h d} : FunOk Tryz.prog 61 [.pv (.sl f z (Ad b))] h d (.agg [.pv (.i .i64 (St b).1), .pv (.i .u32 (St b).2)]) [] := by
 refine Aq Ao fn61 (by simp) rfl rfl fun F => ?_;by_cases h0 : b = []
 · subst h0;have e : St [] = (0, 0) := by simp [St]
   have e0 : Ad [] = [] := rfl;simp (disch := omega) only [ir61, e, e0, List.length_nil, Int.natCast_zero, go_sem]
 · have hz1 : z = 1 := hz.resolve_left h0;subst hz1;have hpos := List.length_pos_iff.2 h0;have hn0 : ¬ (b.length : Int) = 0 := by omega
   have hdr : List.drop (Int.toNat 1) (List.take b.length (Ad b)) = Ad (b.drop 1) := by
    rw [List.take_of_length_le (by rw [Aw]; omega)]; simp [Ad]
   have h1' : Int.toNat 1 = 1 := rfl;simp (disch := omega) only [ir61, Aw, hn0, hdr, h1', go_sem];refine Aa (Rq (l := b.drop 1) (by simp; omega) rfl rfl (.inr rfl)) ?_;by_cases h1 : (Co (b.drop 1)).2 = 0
   · by_cases h2 : 1048576 < ((Co (b.drop 1)).1 : Int)
     · have e : St b = (0, 0) := if_neg (fun h => by have := h.2.2; omega);simp (disch := omega) only [h1, h2, e, Int.natCast_zero, go_sem]
     · have e : St b = (((b.getD 0 0).toNat : Int), (Co (b.drop 1)).1) := if_pos ⟨h0, h1, by omega⟩;have hb0 : (Ad b)[0]? = some [.i .u8 ((b.getD 0 0).toNat)] := by
        simp [Ad, List.getD_eq_getElem?_getD, List.getElem?_eq_getElem hpos]
       have hby := (b.getD 0 0).toNat_lt;have hw1 : IntKind.i64.wrap ((b.getD 0 0).toNat : Int) = ((b.getD 0 0).toNat : Int) := Da (by omega);have hw2 : IntKind.u32.wrap ((Co (b.drop 1)).1 : Int) = ((Co (b.drop 1)).1 : Int) := Nv (by omega);have h00 : Int.toNat 0 = 0 := rfl;generalize b.getD 0 0 = c at *;simp (disch := omega) only [h1, h2, e, Aw, hb0, C6, hw1, hw2, h00, go_sem]
   · have e : St b = (0, 0) := if_neg (fun h => h1 h.2.1);simp (disch := omega) only [h1, e, Int.natCast_zero, go_sem]
def Ad5 (f g : Bool) (y z : Nat) (a b : List UInt8) (k : Nat) : FS := mk [(13, .pv (.i .i64 k)), (12, .pv (.i .i64 a.length)), (0, .pv (.sl f y (Ad a))), (1, .pv (.sl g z (Ad b)))] []
theorem Aff {a : List UInt8} {k : Nat} (h : k < a.length) : (Ad a)[k]? = some [.i .u8 ((a.getD k 0).toNat)] := by
 simp [Ad, List.getD_eq_getElem?_getD, List.getElem?_eq_getElem h]
theorem Abm {a b : List UInt8} (hl : a.length = b.length) (h : ∀ j, j < a.length → a.getD j 0 = b.getD j 0) : a = b := by
 apply List.ext_getElem hl;intro j h1 h2;have := h j h1
 rwa [List.getD_eq_getElem?_getD, List.getD_eq_getElem?_getD, List.getElem?_eq_getElem h1, List.getElem?_eq_getElem h2] at this
set_option maxHeartbeats 1000000 in
theorem Aeo {p q : SV} {f g : Bool} {y z : Nat} {a b : List UInt8} {h d} (hx : Di h [p, q] = [.pv (.sl f y (Ad a)), .pv (.sl g z (Ad b))]) (hl : Be [p, q] = true) (hy : a = [] ∨ y = 1) (hz : b = [] ∨ z = 1) (hn : a.length ≤ 400000) (hn' : b.length ≤ 400000) :
 FunOk Tryz.prog 29 [p, q] h d (.pv (.b (decide (a = b)))) [] := by
 refine Dn Ao fn29 (by simp) hl rfl fun F => ?_;rw [hx];by_cases hlen : a.length = b.length
 · have hle : (a.length : Int) = (b.length : Int) := by omega
   simp (disch := omega) only [ir29, Aw, hle, go_sem];refine A2 Ao (Ad5 f g y z a b) (fun k => k ≤ a.length ∧ ∀ j, j < k → a.getD j 0 = b.getD j 0) (fun k => a.length - k) 0 (by simp) (Au ?_ ?_) fun k hk => ?_
   · simp (disch := omega) only [Aw, hle, go_sem]
   · simp (disch := omega) only [go_sem]
   obtain ⟨hk1, hk2⟩ := hk;by_cases hlt : k < a.length
   · have hy1 : y = 1 := hy.resolve_left fun e => by subst e; simp at hlt
     have hz1 : z = 1 := hz.resolve_left fun e => by subst e; rw [List.length_nil] at hlen; omega
     subst hy1; subst hz1;have h1 := Aff hlt;have h2 := Aff (a := b) (k := k) (by omega);have hb : k < b.length := by omega
     by_cases hd : a.getD k 0 = b.getD k 0
     · rw [← hd] at h2;simp (disch := omega) only [Ad5, Aw, hlen, h1, h2, C6, go_sem];refine Az (k + 1) _ _ rfl ⟨by omega, fun j hj => ?_⟩ (by omega) ?_ ?_
       · by_cases e : j = k
         · subst e; exact hd
         · exact hk2 j (by omega)
       · simp (disch := omega) only [go_sem]
       · simp (disch := omega) only [go_sem]
     · have hne : ¬ a = b := fun e => hd (by rw [e]);have hdn : ¬ (((a.getD k 0).toNat : Int) = ((b.getD k 0).toNat : Int)) := fun e => hd (UInt8.toNat_inj.1 (by omega));simp (disch := omega) only [Ad5, Aw, hlen, h1, h2, C6, hdn, hne, go_sem]
   · obtain rfl : k = a.length := by omega
     have he := Abm hlen hk2;subst he
     (try simp only [Ek, Ej, Ei, Eh, Eg, Ef, Ee, Ed]); simp (disch := omega) only [Ad5, Aw, go_sem]
 · have hle : ¬ (a.length : Int) = (b.length : Int) := by omega
   have hne : ¬ a = b := fun e => hlen (by rw [e]);simp (disch := omega) only [ir29, Aw, hle, hne, go_sem]
theorem Ag4 {a b : List I7} (hl : a.length = b.length) (h : ∀ j, j < a.length → a.getD j (0, 0) = b.getD j (0, 0)) : a = b := by
 apply List.ext_getElem hl;intro j h1 h2;have := h j h1
 rwa [List.getD_eq_getElem?_getD, List.getD_eq_getElem?_getD, List.getElem?_eq_getElem h1, List.getElem?_eq_getElem h2] at this
theorem Alv {a : List I7} {k : Nat} (h : k < a.length) : (a.map Hj)[k]? = some (Hj (a.getD k (0, 0))) := by
 simp [List.getD_eq_getElem?_getD, List.getElem?_eq_getElem h]
def Ad4 (f g : Bool) (y z : Nat) (a b : List I7) (k : Nat) : FS := mk [(5, .pv (.i .i64 k)), (0, .pv (.sl f y (a.map Hj))), (1, .pv (.sl g z (b.map Hj)))] []
set_option maxHeartbeats 1000000 in
theorem K0 {f g : Bool} {y z : Nat} {a b : List I7} {h d} (hy : a = [] ∨ y = 2) (hz : b = [] ∨ z = 2) (hn : a.length ≤ 1000) (hn' : b.length ≤ 1000) :
 FunOk Tryz.prog 85 [.pv (.sl f y (a.map Hj)), .pv (.sl g z (b.map Hj))] h d (.pv (.b (decide (a = b)))) [] := by
 refine Dn Ao fn85 (by simp) rfl rfl fun F => ?_;simp (disch := omega) only [go_sem];by_cases hlen : a.length = b.length
 · have hle : (a.length : Int) = (b.length : Int) := by omega
   simp (disch := omega) only [ir85, List.length_map, hle, go_sem];refine A2 Ao (Ad4 f g y z a b) (fun k => k ≤ a.length ∧ ∀ j, j < k → a.getD j (0, 0) = b.getD j (0, 0)) (fun k => a.length - k) 0 (by simp) (Au ?_ ?_) fun k hk => ?_
   · simp (disch := omega) only [List.length_map, hle, go_sem]
   · simp (disch := omega) only [go_sem]
   obtain ⟨hk1, hk2⟩ := hk;by_cases hlt : k < a.length
   · have hy1 : y = 2 := hy.resolve_left fun e => by subst e; simp at hlt
     have hz1 : z = 2 := hz.resolve_left fun e => by subst e; rw [List.length_nil] at hlen; omega
     subst hy1; subst hz1;have h1 := Alv hlt;have h2 := Alv (a := b) (k := k) (by omega);have hb : k < b.length := by omega
     by_cases hd : a.getD k (0, 0) = b.getD k (0, 0)
     · rw [← hd] at h2;have hd0 := hd;generalize a.getD k (0, 0) = u at h1 h2;have hp := Oc (r := u.1) (r' := u.1) (q := u.2) (q' := u.2) ⟨rfl, rfl⟩;simp (disch := omega) only [Ad4, List.length_map, hlen, h1, h2, Er, Ag, hp, go_sem];refine Az (k + 1) _ _ rfl ⟨by omega, fun j hj => ?_⟩ (by omega) ?_ ?_
       · by_cases e : j = k
         · subst e; exact hd
         · exact hk2 j (by omega)
       · simp (disch := omega) only [go_sem]
       · simp (disch := omega) only [go_sem]
     · have hne : ¬ a = b := fun e => hd (by rw [e]);generalize a.getD k (0, 0) = u at *;generalize b.getD k (0, 0) = v at *;have hp := Od (r := u.1) (r' := v.1) (q := u.2) (q' := v.2) fun e => hd (Prod.ext e.1 e.2);simp (disch := omega) only [Ad4, List.length_map, hlen, h1, h2, Er, Ag, hp, hne, go_sem]
   · obtain rfl : k = a.length := by omega
     have he := Ag4 hlen hk2;subst he
     (try simp only [Ek, Ej, Ei, Eh, Eg, Ef, Ee, Ed]); simp (disch := omega) only [Ad4, List.length_map, go_sem]
 · have hle : ¬ (a.length : Int) = (b.length : Int) := by omega
   have hne : ¬ a = b := fun e => hlen (by rw [e]);simp (disch := omega) only [ir85, List.length_map, hle, hne, go_sem]
def Cm (a b : Evt) : Bool := decide (a.rep = b.rep ∧ a.seq = b.seq) && (decide (vEq a.dep b.dep) && (decide (a.kind = b.kind) && (decide (a.orep = b.orep ∧ a.oseq = b.oseq) && (decide (a.drep = b.drep ∧ a.dseq = b.dseq) && (decide (a.name = b.name) && (decide (a.gone.l = b.gone.l) && (decide (a.base.l = b.base.l) && (decide (a.off = b.off) && (decide (a.data = b.data) && decide (a.ward = b.ward))))))))))
set_option maxHeartbeats 4000000 in
theorem Akb (a b : Evt) (ha : a.gone.ok ∧ a.base.ok ∧ a.gone.l.length ≤ 1000 ∧ a.base.l.length ≤ 1000) (hb : b.gone.ok ∧ b.base.ok ∧ b.gone.l.length ≤ 1000 ∧ b.base.l.length ≤ 1000) {h d} : FunOk Tryz.prog 68 [.vec 21 (B9 a), .vec 21 (B9 b)] h d (.pv (.b (Cm a b))) [] := by
 refine Aq Ao fn68 (by simp) rfl rfl fun F => ?_;obtain ⟨a1, a2, a3, a4⟩ := ha;obtain ⟨b1, b2, b3, b4⟩ := hb;by_cases c0 : a.rep = b.rep ∧ a.seq = b.seq;rotate_left
 · have c0f := eq_false c0;have c0p : Sy [PV.i .i64 a.rep, PV.i .u32 a.seq] [PV.i .i64 b.rep, PV.i .u32 b.seq] = false := Od c0;have eb : Cm a b = false := by simp only [Cm, c0f, decide_true, decide_false, Bool.true_and, Bool.false_and, Bool.and_true, Bool.and_false, Bool.and_self]
   simp (disch := omega) only [ir68, B0, Ag, Bj, Cf, c0p, eb, go_sem]
 have c0t := eq_true c0;have c0p : Sy [PV.i .i64 a.rep, PV.i .u32 a.seq] [PV.i .i64 b.rep, PV.i .u32 b.seq] = true := Oc c0;by_cases c1 : vEq a.dep b.dep;rotate_left
 · have c1f := eq_false c1;have eb : Cm a b = false := by simp only [Cm, c0t, c1f, decide_true, decide_false, Bool.true_and, Bool.false_and, Bool.and_true, Bool.and_false, Bool.and_self]
   simp (disch := omega) only [ir68, B0, Ag, Bj, Cf, c0p, c1f, eb, go_sem]
 have c1t := eq_true c1;by_cases c2 : a.kind = b.kind;rotate_left
 · have c2f := eq_false c2;have eb : Cm a b = false := by simp only [Cm, c0t, c1t, c2f, decide_true, decide_false, Bool.true_and, Bool.false_and, Bool.and_true, Bool.and_false, Bool.and_self]
   simp (disch := omega) only [ir68, B0, Ag, Bj, Cf, c0p, c1t, c2f, eb, go_sem]
 have c2t := eq_true c2;by_cases c3 : a.orep = b.orep ∧ a.oseq = b.oseq;rotate_left
 · have c3f := eq_false c3;have c3p : Sy [PV.i .i64 a.orep, PV.i .u32 a.oseq] [PV.i .i64 b.orep, PV.i .u32 b.oseq] = false := Od c3;have eb : Cm a b = false := by simp only [Cm, c0t, c1t, c2t, c3f, decide_true, decide_false, Bool.true_and, Bool.false_and, Bool.and_true, Bool.and_false, Bool.and_self]
   simp (disch := omega) only [ir68, B0, Ag, Bj, Cf, c0p, c1t, c2t, c3p, eb, go_sem]
 have c3t := eq_true c3;have c3p : Sy [PV.i .i64 a.orep, PV.i .u32 a.oseq] [PV.i .i64 b.orep, PV.i .u32 b.oseq] = true := Oc c3;by_cases c4 : a.drep = b.drep ∧ a.dseq = b.dseq;rotate_left
 · have c4f := eq_false c4;have c4p : Sy [PV.i .i64 a.drep, PV.i .u32 a.dseq] [PV.i .i64 b.drep, PV.i .u32 b.dseq] = false := Od c4;have eb : Cm a b = false := by simp only [Cm, c0t, c1t, c2t, c3t, c4f, decide_true, decide_false, Bool.true_and, Bool.false_and, Bool.and_true, Bool.and_false, Bool.and_self]
   simp (disch := omega) only [ir68, B0, Ag, Bj, Cf, c0p, c1t, c2t, c3p, c4p, eb, go_sem]
 have c4t := eq_true c4;have c4p : Sy [PV.i .i64 a.drep, PV.i .u32 a.dseq] [PV.i .i64 b.drep, PV.i .u32 b.dseq] = true := Oc c4;by_cases c5 : a.name = b.name;rotate_left
 · have c5f := eq_false c5;have eb : Cm a b = false := by simp only [Cm, c0t, c1t, c2t, c3t, c4t, c5f, decide_true, decide_false, Bool.true_and, Bool.false_and, Bool.and_true, Bool.and_false, Bool.and_self]
   simp (disch := omega) only [ir68, B0, Ag, Bj, Cf, c0p, c1t, c2t, c3p, c4p, c5f, eb, go_sem]
 have c5t := eq_true c5;by_cases c6 : a.gone.l = b.gone.l;rotate_left
 · have c6f := eq_false c6;have eb : Cm a b = false := by simp only [Cm, c0t, c1t, c2t, c3t, c4t, c5t, c6f, decide_true, decide_false, Bool.true_and, Bool.false_and, Bool.and_true, Bool.and_false, Bool.and_self]
   simp (disch := omega) only [ir68, B0, Ag, Bj, Cf, c0p, c1t, c2t, c3p, c4p, c5t, c6f, go_sem];refine Aa (K0 (a := a.gone.l) (b := b.gone.l) a1 b1 a3 b3) ?_;simp (disch := omega) only [B0, Ag, Bj, Cf, c0p, c1t, c2t, c3p, c4p, c5t, c6f, eb, go_sem]
 have c6t := eq_true c6;by_cases c7 : a.base.l = b.base.l;rotate_left
 · have c7f := eq_false c7;have eb : Cm a b = false := by simp only [Cm, c0t, c1t, c2t, c3t, c4t, c5t, c6t, c7f, decide_true, decide_false, Bool.true_and, Bool.false_and, Bool.and_true, Bool.and_false, Bool.and_self]
   simp (disch := omega) only [ir68, B0, Ag, Bj, Cf, c0p, c1t, c2t, c3p, c4p, c5t, c6t, c7f, go_sem];refine Aa (K0 (a := a.gone.l) (b := b.gone.l) a1 b1 a3 b3) ?_;simp (disch := omega) only [B0, Ag, Bj, Cf, c0p, c1t, c2t, c3p, c4p, c5t, c6t, c7f, go_sem];refine Aa (K0 (a := a.base.l) (b := b.base.l) a2 b2 a4 b4) ?_;simp (disch := omega) only [B0, Ag, Bj, Cf, c0p, c1t, c2t, c3p, c4p, c5t, c6t, c7f, eb, go_sem]
 have c7t := eq_true c7;by_cases c8 : a.off = b.off;rotate_left
 · have c8f := eq_false c8;have eb : Cm a b = false := by simp only [Cm, c0t, c1t, c2t, c3t, c4t, c5t, c6t, c7t, c8f, decide_true, decide_false, Bool.true_and, Bool.false_and, Bool.and_true, Bool.and_false, Bool.and_self]
   simp (disch := omega) only [ir68, B0, Ag, Bj, Cf, c0p, c1t, c2t, c3p, c4p, c5t, c6t, c7t, c8f, go_sem];refine Aa (K0 (a := a.gone.l) (b := b.gone.l) a1 b1 a3 b3) ?_;simp (disch := omega) only [B0, Ag, Bj, Cf, c0p, c1t, c2t, c3p, c4p, c5t, c6t, c7t, c8f, go_sem];refine Aa (K0 (a := a.base.l) (b := b.base.l) a2 b2 a4 b4) ?_;simp (disch := omega) only [B0, Ag, Bj, Cf, c0p, c1t, c2t, c3p, c4p, c5t, c6t, c7t, c8f, eb, go_sem]
 have c8t := eq_true c8;by_cases c9 : a.data = b.data;rotate_left
 · have c9f := eq_false c9;have eb : Cm a b = false := by simp only [Cm, c0t, c1t, c2t, c3t, c4t, c5t, c6t, c7t, c8t, c9f, decide_true, decide_false, Bool.true_and, Bool.false_and, Bool.and_true, Bool.and_false, Bool.and_self]
   simp (disch := omega) only [ir68, B0, Ag, Bj, Cf, c0p, c1t, c2t, c3p, c4p, c5t, c6t, c7t, c8t, c9f, go_sem];refine Aa (K0 (a := a.gone.l) (b := b.gone.l) a1 b1 a3 b3) ?_;simp (disch := omega) only [B0, Ag, Bj, Cf, c0p, c1t, c2t, c3p, c4p, c5t, c6t, c7t, c8t, c9f, go_sem];refine Aa (K0 (a := a.base.l) (b := b.base.l) a2 b2 a4 b4) ?_;simp (disch := omega) only [B0, Ag, Bj, Cf, c0p, c1t, c2t, c3p, c4p, c5t, c6t, c7t, c8t, c9f, eb, go_sem]
 have c9t := eq_true c9;by_cases c10 : a.ward = b.ward;rotate_left
 · have c10f := eq_false c10;have eb : Cm a b = false := by simp only [Cm, c0t, c1t, c2t, c3t, c4t, c5t, c6t, c7t, c8t, c9t, c10f, decide_true, decide_false, Bool.true_and, Bool.false_and, Bool.and_true, Bool.and_false, Bool.and_self]
   simp (disch := omega) only [ir68, B0, Ag, Bj, Cf, c0p, c1t, c2t, c3p, c4p, c5t, c6t, c7t, c8t, c9t, c10f, go_sem];refine Aa (K0 (a := a.gone.l) (b := b.gone.l) a1 b1 a3 b3) ?_;simp (disch := omega) only [B0, Ag, Bj, Cf, c0p, c1t, c2t, c3p, c4p, c5t, c6t, c7t, c8t, c9t, c10f, go_sem];refine Aa (K0 (a := a.base.l) (b := b.base.l) a2 b2 a4 b4) ?_;simp (disch := omega) only [B0, Ag, Bj, Cf, c0p, c1t, c2t, c3p, c4p, c5t, c6t, c7t, c8t, c9t, c10f, eb, go_sem]
 have c10t := eq_true c10;have eb : Cm a b = true := by simp only [Cm, c0t, c1t, c2t, c3t, c4t, c5t, c6t, c7t, c8t, c9t, c10t, decide_true, decide_false, Bool.true_and, Bool.false_and, Bool.and_true, Bool.and_false, Bool.and_self]
 simp (disch := omega) only [ir68, B0, Ag, Bj, Cf, c0p, c1t, c2t, c3p, c4p, c5t, c6t, c7t, c8t, c9t, c10t, go_sem];refine Aa (K0 (a := a.gone.l) (b := b.gone.l) a1 b1 a3 b3) ?_;simp (disch := omega) only [B0, Ag, Bj, Cf, c0p, c1t, c2t, c3p, c4p, c5t, c6t, c7t, c8t, c9t, c10t, go_sem];refine Aa (K0 (a := a.base.l) (b := b.base.l) a2 b2 a4 b4) ?_;simp (disch := omega) only [B0, Ag, Bj, Cf, c0p, c1t, c2t, c3p, c4p, c5t, c6t, c7t, c8t, c9t, c10t, eb, go_sem]
def Ah (e : Evt) (o d g b f t w : Bool) : Bool := (o || Bo e.orep e.oseq) && ((d || (Bo e.drep e.dseq && decide (e.name = []))) && ((g || decide ((e.gone.l.length : Int) = 0)) && ((b || decide ((e.base.l.length : Int) = 0)) && ((f || decide (e.off = 0)) && ((t || decide (e.data = [])) && (w || decide (e.ward = 0)))))))
set_option maxHeartbeats 4000000 in
theorem Aem (e : Evt) {h d} : FunOk Tryz.prog 57 [.vec 21 (B9 e), .pv (.b false), .pv (.b true), .pv (.b false), .pv (.b false), .pv (.b false), .pv (.b false), .pv (.b false)] h d (.pv (.b (Ah e false true false false false false false))) [] := by
 refine Aq Ao fn57 (by simp) rfl rfl fun F => ?_;have hl := Ac e;by_cases hz1' : Bo e.orep e.oseq = false
 · have hz1 := hz1';have eb : Ah e false true false false false false false = false := by simp only [Ah, hz1, go_sem, Bool.true_or]
   simp (disch := omega) only [ir57, Ac, hz1, eb, go_sem];refine Aa (Ap _ _) ?_;simp (disch := omega) only [Ac, hz1, eb, go_sem]
 have hz1 : Bo e.orep e.oseq = true := by simpa using hz1'
 by_cases hgo : (e.gone.l.length : Int) = 0;rotate_left
 · have eb : Ah e false true false false false false false = false := by simp only [Ah, hz1, hgo, go_sem, Bool.true_or]
   simp (disch := omega) only [ir57, Ac, hz1, hgo, eb, go_sem];refine Aa (Ap _ _) ?_;simp (disch := omega) only [Ac, hz1, hgo, eb, go_sem]
 by_cases hba : (e.base.l.length : Int) = 0;rotate_left
 · have eb : Ah e false true false false false false false = false := by simp only [Ah, hz1, hgo, hba, go_sem, Bool.true_or]
   simp (disch := omega) only [ir57, Ac, hz1, hgo, hba, eb, go_sem];refine Aa (Ap _ _) ?_;simp (disch := omega) only [Ac, hz1, hgo, hba, eb, go_sem]
 by_cases hof : e.off = 0;rotate_left
 · have eb : Ah e false true false false false false false = false := by simp only [Ah, hz1, hgo, hba, hof, go_sem, Bool.true_or]
   simp (disch := omega) only [ir57, Ac, hz1, hgo, hba, hof, eb, go_sem];refine Aa (Ap _ _) ?_;simp (disch := omega) only [Ac, hz1, hgo, hba, hof, eb, go_sem]
 by_cases hda : e.data = [];rotate_left
 · have eb : Ah e false true false false false false false = false := by simp only [Ah, hz1, hgo, hba, hof, hda, go_sem, Bool.true_or]
   simp (disch := omega) only [ir57, Ac, hz1, hgo, hba, hof, hda, eb, go_sem];refine Aa (Ap _ _) ?_;simp (disch := omega) only [Ac, hz1, hgo, hba, hof, hda, eb, go_sem]
 by_cases hwa : e.ward = 0;rotate_left
 · have eb : Ah e false true false false false false false = false := by simp only [Ah, hz1, hgo, hba, hof, hda, hwa, go_sem, Bool.true_or]
   simp (disch := omega) only [ir57, Ac, hz1, hgo, hba, hof, hda, hwa, eb, go_sem];refine Aa (Ap _ _) ?_;simp (disch := omega) only [Ac, hz1, hgo, hba, hof, hda, hwa, eb, go_sem]
 have eb : Ah e false true false false false false false = true := by simp only [Ah, hz1, hgo, hba, hof, hda, hwa, go_sem, Bool.true_or]
 simp (disch := omega) only [ir57, Ac, hz1, hgo, hba, hof, hda, hwa, eb, go_sem];refine Aa (Ap _ _) ?_;simp (disch := omega) only [Ac, hz1, hgo, hba, hof, hda, hwa, eb, go_sem]
set_option maxHeartbeats 4000000 in
theorem Acf (e : Evt) {h d} : FunOk Tryz.prog 57 [.vec 21 (B9 e), .pv (.b true), .pv (.b false), .pv (.b false), .pv (.b true), .pv (.b true), .pv (.b true), .pv (.b false)] h d (.pv (.b (Ah e true false false true true true false))) [] := by
 refine Aq Ao fn57 (by simp) rfl rfl fun F => ?_;have hl := Ac e;by_cases hz2' : Bo e.drep e.dseq = false
 · have hz2 := hz2';have eb : Ah e true false false true true true false = false := by simp only [Ah, hz2, go_sem, Bool.true_or]
   simp (disch := omega) only [ir57, Ac, hz2, eb, go_sem];refine Aa (Ap _ _) ?_;simp (disch := omega) only [Ac, hz2, eb, go_sem]
 have hz2 : Bo e.drep e.dseq = true := by simpa using hz2'
 by_cases hnm : e.name = [];rotate_left
 · have eb : Ah e true false false true true true false = false := by simp only [Ah, hz2, hnm, go_sem, Bool.true_or]
   simp (disch := omega) only [ir57, Ac, hz2, hnm, eb, go_sem];refine Aa (Ap _ _) ?_;simp (disch := omega) only [Ac, hz2, hnm, eb, go_sem]
 by_cases hgo : (e.gone.l.length : Int) = 0;rotate_left
 · have eb : Ah e true false false true true true false = false := by simp only [Ah, hz2, hnm, hgo, go_sem, Bool.true_or]
   simp (disch := omega) only [ir57, Ac, hz2, hnm, hgo, eb, go_sem];refine Aa (Ap _ _) ?_;simp (disch := omega) only [Ac, hz2, hnm, hgo, eb, go_sem]
 by_cases hwa : e.ward = 0;rotate_left
 · have eb : Ah e true false false true true true false = false := by simp only [Ah, hz2, hnm, hgo, hwa, go_sem, Bool.true_or]
   simp (disch := omega) only [ir57, Ac, hz2, hnm, hgo, hwa, eb, go_sem];refine Aa (Ap _ _) ?_;simp (disch := omega) only [Ac, hz2, hnm, hgo, hwa, eb, go_sem]
 have eb : Ah e true false false true true true false = true := by simp only [Ah, hz2, hnm, hgo, hwa, go_sem, Bool.true_or]
 simp (disch := omega) only [ir57, Ac, hz2, hnm, hgo, hwa, eb, go_sem];refine Aa (Ap _ _) ?_;simp (disch := omega) only [Ac, hz2, hnm, hgo, hwa, eb, go_sem]
set_option maxHeartbeats 4000000 in
theorem Agg (e : Evt) {h d} : FunOk Tryz.prog 57 [.vec 21 (B9 e), .pv (.b true), .pv (.b false), .pv (.b false), .pv (.b true), .pv (.b true), .pv (.b false), .pv (.b false)] h d (.pv (.b (Ah e true false false true true false false))) [] := by
 refine Aq Ao fn57 (by simp) rfl rfl fun F => ?_;have hl := Ac e;by_cases hz2' : Bo e.drep e.dseq = false
 · have hz2 := hz2';have eb : Ah e true false false true true false false = false := by simp only [Ah, hz2, go_sem, Bool.true_or]
   simp (disch := omega) only [ir57, Ac, hz2, eb, go_sem];refine Aa (Ap _ _) ?_;simp (disch := omega) only [Ac, hz2, eb, go_sem]
 have hz2 : Bo e.drep e.dseq = true := by simpa using hz2'
 by_cases hnm : e.name = [];rotate_left
 · have eb : Ah e true false false true true false false = false := by simp only [Ah, hz2, hnm, go_sem, Bool.true_or]
   simp (disch := omega) only [ir57, Ac, hz2, hnm, eb, go_sem];refine Aa (Ap _ _) ?_;simp (disch := omega) only [Ac, hz2, hnm, eb, go_sem]
 by_cases hgo : (e.gone.l.length : Int) = 0;rotate_left
 · have eb : Ah e true false false true true false false = false := by simp only [Ah, hz2, hnm, hgo, go_sem, Bool.true_or]
   simp (disch := omega) only [ir57, Ac, hz2, hnm, hgo, eb, go_sem];refine Aa (Ap _ _) ?_;simp (disch := omega) only [Ac, hz2, hnm, hgo, eb, go_sem]
 by_cases hda : e.data = [];rotate_left
 · have eb : Ah e true false false true true false false = false := by simp only [Ah, hz2, hnm, hgo, hda, go_sem, Bool.true_or]
   simp (disch := omega) only [ir57, Ac, hz2, hnm, hgo, hda, eb, go_sem];refine Aa (Ap _ _) ?_;simp (disch := omega) only [Ac, hz2, hnm, hgo, hda, eb, go_sem]
 by_cases hwa : e.ward = 0;rotate_left
 · have eb : Ah e true false false true true false false = false := by simp only [Ah, hz2, hnm, hgo, hda, hwa, go_sem, Bool.true_or]
   simp (disch := omega) only [ir57, Ac, hz2, hnm, hgo, hda, hwa, eb, go_sem];refine Aa (Ap _ _) ?_;simp (disch := omega) only [Ac, hz2, hnm, hgo, hda, hwa, eb, go_sem]
 have eb : Ah e true false false true true false false = true := by simp only [Ah, hz2, hnm, hgo, hda, hwa, go_sem, Bool.true_or]
 simp (disch := omega) only [ir57, Ac, hz2, hnm, hgo, hda, hwa, eb, go_sem];refine Aa (Ap _ _) ?_;simp (disch := omega) only [Ac, hz2, hnm, hgo, hda, hwa, eb, go_sem]
set_option maxHeartbeats 4000000 in
theorem Agh (e : Evt) {h d} : FunOk Tryz.prog 57 [.vec 21 (B9 e), .pv (.b true), .pv (.b false), .pv (.b false), .pv (.b true), .pv (.b false), .pv (.b true), .pv (.b false)] h d (.pv (.b (Ah e true false false true false true false))) [] := by
 refine Aq Ao fn57 (by simp) rfl rfl fun F => ?_;have hl := Ac e;by_cases hz2' : Bo e.drep e.dseq = false
 · have hz2 := hz2';have eb : Ah e true false false true false true false = false := by simp only [Ah, hz2, go_sem, Bool.true_or]
   simp (disch := omega) only [ir57, Ac, hz2, eb, go_sem];refine Aa (Ap _ _) ?_;simp (disch := omega) only [Ac, hz2, eb, go_sem]
 have hz2 : Bo e.drep e.dseq = true := by simpa using hz2'
 by_cases hnm : e.name = [];rotate_left
 · have eb : Ah e true false false true false true false = false := by simp only [Ah, hz2, hnm, go_sem, Bool.true_or]
   simp (disch := omega) only [ir57, Ac, hz2, hnm, eb, go_sem];refine Aa (Ap _ _) ?_;simp (disch := omega) only [Ac, hz2, hnm, eb, go_sem]
 by_cases hgo : (e.gone.l.length : Int) = 0;rotate_left
 · have eb : Ah e true false false true false true false = false := by simp only [Ah, hz2, hnm, hgo, go_sem, Bool.true_or]
   simp (disch := omega) only [ir57, Ac, hz2, hnm, hgo, eb, go_sem];refine Aa (Ap _ _) ?_;simp (disch := omega) only [Ac, hz2, hnm, hgo, eb, go_sem]
 by_cases hof : e.off = 0;rotate_left
 · have eb : Ah e true false false true false true false = false := by simp only [Ah, hz2, hnm, hgo, hof, go_sem, Bool.true_or]
   simp (disch := omega) only [ir57, Ac, hz2, hnm, hgo, hof, eb, go_sem];refine Aa (Ap _ _) ?_;simp (disch := omega) only [Ac, hz2, hnm, hgo, hof, eb, go_sem]
 by_cases hwa : e.ward = 0;rotate_left
 · have eb : Ah e true false false true false true false = false := by simp only [Ah, hz2, hnm, hgo, hof, hwa, go_sem, Bool.true_or]
   simp (disch := omega) only [ir57, Ac, hz2, hnm, hgo, hof, hwa, eb, go_sem];refine Aa (Ap _ _) ?_;simp (disch := omega) only [Ac, hz2, hnm, hgo, hof, hwa, eb, go_sem]
 have eb : Ah e true false false true false true false = true := by simp only [Ah, hz2, hnm, hgo, hof, hwa, go_sem, Bool.true_or]
 simp (disch := omega) only [ir57, Ac, hz2, hnm, hgo, hof, hwa, eb, go_sem];refine Aa (Ap _ _) ?_;simp (disch := omega) only [Ac, hz2, hnm, hgo, hof, hwa, eb, go_sem]
set_option maxHeartbeats 4000000 in
theorem Akg (e : Evt) {h d} : FunOk Tryz.prog 57 [.vec 21 (B9 e), .pv (.b true), .pv (.b false), .pv (.b true), .pv (.b false), .pv (.b false), .pv (.b false), .pv (.b false)] h d (.pv (.b (Ah e true false true false false false false))) [] := by
 refine Aq Ao fn57 (by simp) rfl rfl fun F => ?_;have hl := Ac e;by_cases hz2' : Bo e.drep e.dseq = false
 · have hz2 := hz2';have eb : Ah e true false true false false false false = false := by simp only [Ah, hz2, go_sem, Bool.true_or]
   simp (disch := omega) only [ir57, Ac, hz2, eb, go_sem];refine Aa (Ap _ _) ?_;simp (disch := omega) only [Ac, hz2, eb, go_sem]
 have hz2 : Bo e.drep e.dseq = true := by simpa using hz2'
 by_cases hnm : e.name = [];rotate_left
 · have eb : Ah e true false true false false false false = false := by simp only [Ah, hz2, hnm, go_sem, Bool.true_or]
   simp (disch := omega) only [ir57, Ac, hz2, hnm, eb, go_sem];refine Aa (Ap _ _) ?_;simp (disch := omega) only [Ac, hz2, hnm, eb, go_sem]
 by_cases hba : (e.base.l.length : Int) = 0;rotate_left
 · have eb : Ah e true false true false false false false = false := by simp only [Ah, hz2, hnm, hba, go_sem, Bool.true_or]
   simp (disch := omega) only [ir57, Ac, hz2, hnm, hba, eb, go_sem];refine Aa (Ap _ _) ?_;simp (disch := omega) only [Ac, hz2, hnm, hba, eb, go_sem]
 by_cases hof : e.off = 0;rotate_left
 · have eb : Ah e true false true false false false false = false := by simp only [Ah, hz2, hnm, hba, hof, go_sem, Bool.true_or]
   simp (disch := omega) only [ir57, Ac, hz2, hnm, hba, hof, eb, go_sem];refine Aa (Ap _ _) ?_;simp (disch := omega) only [Ac, hz2, hnm, hba, hof, eb, go_sem]
 by_cases hda : e.data = [];rotate_left
 · have eb : Ah e true false true false false false false = false := by simp only [Ah, hz2, hnm, hba, hof, hda, go_sem, Bool.true_or]
   simp (disch := omega) only [ir57, Ac, hz2, hnm, hba, hof, hda, eb, go_sem];refine Aa (Ap _ _) ?_;simp (disch := omega) only [Ac, hz2, hnm, hba, hof, hda, eb, go_sem]
 by_cases hwa : e.ward = 0;rotate_left
 · have eb : Ah e true false true false false false false = false := by simp only [Ah, hz2, hnm, hba, hof, hda, hwa, go_sem, Bool.true_or]
   simp (disch := omega) only [ir57, Ac, hz2, hnm, hba, hof, hda, hwa, eb, go_sem];refine Aa (Ap _ _) ?_;simp (disch := omega) only [Ac, hz2, hnm, hba, hof, hda, hwa, eb, go_sem]
 have eb : Ah e true false true false false false false = true := by simp only [Ah, hz2, hnm, hba, hof, hda, hwa, go_sem, Bool.true_or]
 simp (disch := omega) only [ir57, Ac, hz2, hnm, hba, hof, hda, hwa, eb, go_sem];refine Aa (Ap _ _) ?_;simp (disch := omega) only [Ac, hz2, hnm, hba, hof, hda, hwa, eb, go_sem]
set_option maxHeartbeats 4000000 in
theorem Agf (e : Evt) {h d} : FunOk Tryz.prog 57 [.vec 21 (B9 e), .pv (.b true), .pv (.b true), .pv (.b true), .pv (.b false), .pv (.b false), .pv (.b false), .pv (.b false)] h d (.pv (.b (Ah e true true true false false false false))) [] := by
 refine Aq Ao fn57 (by simp) rfl rfl fun F => ?_;have hl := Ac e;by_cases hba : (e.base.l.length : Int) = 0;rotate_left
 · have eb : Ah e true true true false false false false = false := by simp only [Ah, hba, go_sem, Bool.true_or]
   simp (disch := omega) only [ir57, Ac, hba, eb, go_sem]
 by_cases hof : e.off = 0;rotate_left
 · have eb : Ah e true true true false false false false = false := by simp only [Ah, hba, hof, go_sem, Bool.true_or]
   simp (disch := omega) only [ir57, Ac, hba, hof, eb, go_sem]
 by_cases hda : e.data = [];rotate_left
 · have eb : Ah e true true true false false false false = false := by simp only [Ah, hba, hof, hda, go_sem, Bool.true_or]
   simp (disch := omega) only [ir57, Ac, hba, hof, hda, eb, go_sem]
 by_cases hwa : e.ward = 0;rotate_left
 · have eb : Ah e true true true false false false false = false := by simp only [Ah, hba, hof, hda, hwa, go_sem, Bool.true_or]
   simp (disch := omega) only [ir57, Ac, hba, hof, hda, hwa, eb, go_sem]
 have eb : Ah e true true true false false false false = true := by simp only [Ah, hba, hof, hda, hwa, go_sem, Bool.true_or]
 simp (disch := omega) only [ir57, Ac, hba, hof, hda, hwa, eb, go_sem]
set_option maxHeartbeats 4000000 in
theorem Aqd (e : Evt) {h d} : FunOk Tryz.prog 57 [.vec 21 (B9 e), .pv (.b false), .pv (.b false), .pv (.b false), .pv (.b false), .pv (.b false), .pv (.b false), .pv (.b true)] h d (.pv (.b (Ah e false false false false false false true))) [] := by
 refine Aq Ao fn57 (by simp) rfl rfl fun F => ?_;have hl := Ac e;by_cases hz1' : Bo e.orep e.oseq = false
 · have hz1 := hz1';have eb : Ah e false false false false false false true = false := by simp only [Ah, hz1, go_sem, Bool.true_or]
   simp (disch := omega) only [ir57, Ac, hz1, eb, go_sem];refine Aa (Ap _ _) ?_;simp (disch := omega) only [Ac, hz1, eb, go_sem]
 have hz1 : Bo e.orep e.oseq = true := by simpa using hz1'
 by_cases hz2' : Bo e.drep e.dseq = false
 · have hz2 := hz2';have eb : Ah e false false false false false false true = false := by simp only [Ah, hz1, hz2, go_sem, Bool.true_or]
   simp (disch := omega) only [ir57, Ac, hz1, hz2, eb, go_sem];refine Aa (Ap _ _) ?_;simp (disch := omega) only [Ac, hz1, hz2, eb, go_sem];refine Aa (Ap _ _) ?_;simp (disch := omega) only [Ac, hz1, hz2, eb, go_sem]
 have hz2 : Bo e.drep e.dseq = true := by simpa using hz2'
 by_cases hnm : e.name = [];rotate_left
 · have eb : Ah e false false false false false false true = false := by simp only [Ah, hz1, hz2, hnm, go_sem, Bool.true_or]
   simp (disch := omega) only [ir57, Ac, hz1, hz2, hnm, eb, go_sem];refine Aa (Ap _ _) ?_;simp (disch := omega) only [Ac, hz1, hz2, hnm, eb, go_sem];refine Aa (Ap _ _) ?_;simp (disch := omega) only [Ac, hz1, hz2, hnm, eb, go_sem]
 by_cases hgo : (e.gone.l.length : Int) = 0;rotate_left
 · have eb : Ah e false false false false false false true = false := by simp only [Ah, hz1, hz2, hnm, hgo, go_sem, Bool.true_or]
   simp (disch := omega) only [ir57, Ac, hz1, hz2, hnm, hgo, eb, go_sem];refine Aa (Ap _ _) ?_;simp (disch := omega) only [Ac, hz1, hz2, hnm, hgo, eb, go_sem];refine Aa (Ap _ _) ?_;simp (disch := omega) only [Ac, hz1, hz2, hnm, hgo, eb, go_sem]
 by_cases hba : (e.base.l.length : Int) = 0;rotate_left
 · have eb : Ah e false false false false false false true = false := by simp only [Ah, hz1, hz2, hnm, hgo, hba, go_sem, Bool.true_or]
   simp (disch := omega) only [ir57, Ac, hz1, hz2, hnm, hgo, hba, eb, go_sem];refine Aa (Ap _ _) ?_;simp (disch := omega) only [Ac, hz1, hz2, hnm, hgo, hba, eb, go_sem];refine Aa (Ap _ _) ?_;simp (disch := omega) only [Ac, hz1, hz2, hnm, hgo, hba, eb, go_sem]
 by_cases hof : e.off = 0;rotate_left
 · have eb : Ah e false false false false false false true = false := by simp only [Ah, hz1, hz2, hnm, hgo, hba, hof, go_sem, Bool.true_or]
   simp (disch := omega) only [ir57, Ac, hz1, hz2, hnm, hgo, hba, hof, eb, go_sem];refine Aa (Ap _ _) ?_;simp (disch := omega) only [Ac, hz1, hz2, hnm, hgo, hba, hof, eb, go_sem];refine Aa (Ap _ _) ?_;simp (disch := omega) only [Ac, hz1, hz2, hnm, hgo, hba, hof, eb, go_sem]
 by_cases hda : e.data = [];rotate_left
 · have eb : Ah e false false false false false false true = false := by simp only [Ah, hz1, hz2, hnm, hgo, hba, hof, hda, go_sem, Bool.true_or]
   simp (disch := omega) only [ir57, Ac, hz1, hz2, hnm, hgo, hba, hof, hda, eb, go_sem];refine Aa (Ap _ _) ?_;simp (disch := omega) only [Ac, hz1, hz2, hnm, hgo, hba, hof, hda, eb, go_sem];refine Aa (Ap _ _) ?_;simp (disch := omega) only [Ac, hz1, hz2, hnm, hgo, hba, hof, hda, eb, go_sem]
 have eb : Ah e false false false false false false true = true := by simp only [Ah, hz1, hz2, hnm, hgo, hba, hof, hda, go_sem, Bool.true_or]
 simp (disch := omega) only [ir57, Ac, hz1, hz2, hnm, hgo, hba, hof, hda, eb, go_sem];refine Aa (Ap _ _) ?_;simp (disch := omega) only [Ac, hz1, hz2, hnm, hgo, hba, hof, hda, eb, go_sem];refine Aa (Ap _ _) ?_;simp (disch := omega) only [Ac, hz1, hz2, hnm, hgo, hba, hof, hda, eb, go_sem]
set_option maxHeartbeats 4000000 in
theorem Aqe (e : Evt) {h d} : FunOk Tryz.prog 57 [.vec 21 (B9 e), .pv (.b false), .pv (.b false), .pv (.b false), .pv (.b false), .pv (.b false), .pv (.b false), .pv (.b false)] h d (.pv (.b (Ah e false false false false false false false))) [] := by
 refine Aq Ao fn57 (by simp) rfl rfl fun F => ?_;have hl := Ac e;by_cases hz1' : Bo e.orep e.oseq = false
 · have hz1 := hz1';have eb : Ah e false false false false false false false = false := by simp only [Ah, hz1, go_sem, Bool.true_or]
   simp (disch := omega) only [ir57, Ac, hz1, eb, go_sem];refine Aa (Ap _ _) ?_;simp (disch := omega) only [Ac, hz1, eb, go_sem]
 have hz1 : Bo e.orep e.oseq = true := by simpa using hz1'
 by_cases hz2' : Bo e.drep e.dseq = false
 · have hz2 := hz2';have eb : Ah e false false false false false false false = false := by simp only [Ah, hz1, hz2, go_sem, Bool.true_or]
   simp (disch := omega) only [ir57, Ac, hz1, hz2, eb, go_sem];refine Aa (Ap _ _) ?_;simp (disch := omega) only [Ac, hz1, hz2, eb, go_sem];refine Aa (Ap _ _) ?_;simp (disch := omega) only [Ac, hz1, hz2, eb, go_sem]
 have hz2 : Bo e.drep e.dseq = true := by simpa using hz2'
 by_cases hnm : e.name = [];rotate_left
 · have eb : Ah e false false false false false false false = false := by simp only [Ah, hz1, hz2, hnm, go_sem, Bool.true_or]
   simp (disch := omega) only [ir57, Ac, hz1, hz2, hnm, eb, go_sem];refine Aa (Ap _ _) ?_;simp (disch := omega) only [Ac, hz1, hz2, hnm, eb, go_sem];refine Aa (Ap _ _) ?_;simp (disch := omega) only [Ac, hz1, hz2, hnm, eb, go_sem]
 by_cases hgo : (e.gone.l.length : Int) = 0;rotate_left
 · have eb : Ah e false false false false false false false = false := by simp only [Ah, hz1, hz2, hnm, hgo, go_sem, Bool.true_or]
   simp (disch := omega) only [ir57, Ac, hz1, hz2, hnm, hgo, eb, go_sem];refine Aa (Ap _ _) ?_;simp (disch := omega) only [Ac, hz1, hz2, hnm, hgo, eb, go_sem];refine Aa (Ap _ _) ?_;simp (disch := omega) only [Ac, hz1, hz2, hnm, hgo, eb, go_sem]
 by_cases hba : (e.base.l.length : Int) = 0;rotate_left
 · have eb : Ah e false false false false false false false = false := by simp only [Ah, hz1, hz2, hnm, hgo, hba, go_sem, Bool.true_or]
   simp (disch := omega) only [ir57, Ac, hz1, hz2, hnm, hgo, hba, eb, go_sem];refine Aa (Ap _ _) ?_;simp (disch := omega) only [Ac, hz1, hz2, hnm, hgo, hba, eb, go_sem];refine Aa (Ap _ _) ?_;simp (disch := omega) only [Ac, hz1, hz2, hnm, hgo, hba, eb, go_sem]
 by_cases hof : e.off = 0;rotate_left
 · have eb : Ah e false false false false false false false = false := by simp only [Ah, hz1, hz2, hnm, hgo, hba, hof, go_sem, Bool.true_or]
   simp (disch := omega) only [ir57, Ac, hz1, hz2, hnm, hgo, hba, hof, eb, go_sem];refine Aa (Ap _ _) ?_;simp (disch := omega) only [Ac, hz1, hz2, hnm, hgo, hba, hof, eb, go_sem];refine Aa (Ap _ _) ?_;simp (disch := omega) only [Ac, hz1, hz2, hnm, hgo, hba, hof, eb, go_sem]
 by_cases hda : e.data = [];rotate_left
 · have eb : Ah e false false false false false false false = false := by simp only [Ah, hz1, hz2, hnm, hgo, hba, hof, hda, go_sem, Bool.true_or]
   simp (disch := omega) only [ir57, Ac, hz1, hz2, hnm, hgo, hba, hof, hda, eb, go_sem];refine Aa (Ap _ _) ?_;simp (disch := omega) only [Ac, hz1, hz2, hnm, hgo, hba, hof, hda, eb, go_sem];refine Aa (Ap _ _) ?_;simp (disch := omega) only [Ac, hz1, hz2, hnm, hgo, hba, hof, hda, eb, go_sem]
 by_cases hwa : e.ward = 0;rotate_left
 · have eb : Ah e false false false false false false false = false := by simp only [Ah, hz1, hz2, hnm, hgo, hba, hof, hda, hwa, go_sem, Bool.true_or]
   simp (disch := omega) only [ir57, Ac, hz1, hz2, hnm, hgo, hba, hof, hda, hwa, eb, go_sem];refine Aa (Ap _ _) ?_;simp (disch := omega) only [Ac, hz1, hz2, hnm, hgo, hba, hof, hda, hwa, eb, go_sem];refine Aa (Ap _ _) ?_;simp (disch := omega) only [Ac, hz1, hz2, hnm, hgo, hba, hof, hda, hwa, eb, go_sem]
 have eb : Ah e false false false false false false false = true := by simp only [Ah, hz1, hz2, hnm, hgo, hba, hof, hda, hwa, go_sem, Bool.true_or]
 simp (disch := omega) only [ir57, Ac, hz1, hz2, hnm, hgo, hba, hof, hda, hwa, eb, go_sem];refine Aa (Ap _ _) ?_;simp (disch := omega) only [Ac, hz1, hz2, hnm, hgo, hba, hof, hda, hwa, eb, go_sem];refine Aa (Ap _ _) ?_;simp (disch := omega) only [Ac, hz1, hz2, hnm, hgo, hba, hof, hda, hwa, eb, go_sem]
theorem Atf (l p l' p') : Ain (.it l p) (.it l' p') = (l = l' ∧ p = p') := (rfl)
attribute [go_sem] Atf
def Kf (b : UInt8) : Bool := decide ((97 ≤ b.toNat ∧ b.toNat ≤ 122) ∨ (65 ≤ b.toNat ∧ b.toNat ≤ 90) ∨ (48 ≤ b.toNat ∧ b.toNat ≤ 57) ∨ b.toNat = 46 ∨ b.toNat = 95 ∨ b.toNat = 45)
def Cc (s : List UInt8) : Bool := decide (1 ≤ s.length ∧ s.length ≤ 12 ∧ s ≠ [46] ∧ s ≠ [46, 46]) && s.all Kf
theorem Ahz {s : List UInt8} {pos : Nat} (h : pos < s.length) (ha : (s.getD pos 0).toNat < 128) : Mi s pos = ((s.getD pos 0).toNat, 1) := by
 have hs : pos < (⟨s.toArray⟩ : ByteArray).size := by simpa [ByteArray.size] using h
 have e : (⟨s.toArray⟩ : ByteArray)[pos]'hs = s.getD pos 0 := by
  rw [List.getD_eq_getElem?_getD, List.getElem?_eq_getElem h]; rfl
 have := decode_ascii ⟨s.toArray⟩ pos hs (by rw [e]; exact ha);unfold Mi;rw [this, e]
theorem Asj {s : List UInt8} {pos : Nat} (h : pos < s.length) (ha : ¬ (s.getD pos 0).toNat < 128) : 128 ≤ (Mi s pos).1 ∧ (Mi s pos).1 < 2147483648 := by
 have hs : pos < (⟨s.toArray⟩ : ByteArray).size := by simpa [ByteArray.size] using h
 have e : (⟨s.toArray⟩ : ByteArray).get! (pos + 0) = s.getD pos 0 := by
  show (⟨s.toArray⟩ : ByteArray).get! pos = _;have : (⟨s.toArray⟩ : ByteArray)[pos]'hs = s.getD pos 0 := by
   rw [List.getD_eq_getElem?_getD, List.getElem?_eq_getElem h]; rfl
  rw [← this];show (s.toArray)[pos]! = (s.toArray)[pos];rw [getElem!_pos]
 unfold Mi Utf8.decode;simp only [e, ha, if_false];unfold Utf8.runeError;split
 · split
   · simp only; omega
   · simp
 · split
   · split
     · rename_i hc; simp only [Bool.and_eq_true, decide_eq_true_eq] at hc ⊢; omega
     · simp
   · split
     · split
       · rename_i hc; simp only [Bool.and_eq_true, decide_eq_true_eq] at hc ⊢; omega
       · simp
     · simp
theorem Am0 (n : Nat) (h : 128 ≤ n) : (Ri n).length ≤ 4 ∧ 2 ≤ (Ri n).length ∧ 128 ≤ ((Ri n).getD ((Ri n).length - 1) 0).toNat := by
 have key : ∀ c : Nat, 128 ≤ c → ∀ l : List UInt8, l = (if c < 0x80 then [UInt8.ofNat c] else if c < 0x800 then [UInt8.ofNat (0xC0 + c / 64), UInt8.ofNat (0x80 + c % 64)] else if c < 0x10000 then [UInt8.ofNat (0xE0 + c / 4096), UInt8.ofNat (0x80 + c / 64 % 64), UInt8.ofNat (0x80 + c % 64)] else [UInt8.ofNat (0xF0 + c / 262144), UInt8.ofNat (0x80 + c / 4096 % 64), UInt8.ofNat (0x80 + c / 64 % 64), UInt8.ofNat (0x80 + c % 64)]) → l.length ≤ 4 ∧ 2 ≤ l.length ∧ 128 ≤ (l.getD (l.length - 1) 0).toNat := by
  intro c hc l hl;have hb : 128 ≤ (UInt8.ofNat (0x80 + c % 64)).toNat := by rw [UInt8.toNat_ofNat']; omega
  rw [if_neg (by omega)] at hl;split at hl
  · subst hl; exact ⟨by simp, by simp, hb⟩
  · split at hl
    · subst hl; exact ⟨by simp, by simp, hb⟩
    · subst hl; exact ⟨by simp, by simp, hb⟩
 refine key (if Utf8.valid (n : Int) then n else 0xFFFD) (by split <;> omega) _ ?_;unfold Ri Utf8.encode Utf8.runeError;simp only [Int.toNat_natCast];generalize (if Utf8.valid (n : Int) = true then n else 0xFFFD) = c;split
 · rfl
 · split
   · rfl
   · split <;> rfl
theorem A0q (s : List UInt8) (c : UInt8) {h} : Aom Tryz.prog 124 [.pv (.s s), .pv (.i .u8 c.toNat)] h (.pv (.i .i64 (Lib.indexByte s c))) := by
 intro F N ρ st a w hR hh vs hc;simp only [ConcL] at hc;obtain ⟨v, us, rfl, hv, u, us', rfl, hu, rfl⟩ := hc;have hv := K9 hv;have hu := Dv hu;subst hv; subst hu;refine ⟨_, ?_, Cs⟩;rw [run_callFunc_extern (fn := (Tryz.prog.funcs[124]?).getD default) (by kernel_rfl) (by kernel_rfl) (by kernel_rfl) (by kernel_rfl) (e := Extern.BytealgIndexByte.indexByte) (by kernel_rfl)];rw [Lib.run_indexByteString];simp
theorem A0r (s : List UInt8) (c : UInt8) {h d} : FunOk Tryz.prog 120 [.pv (.s s), .pv (.i .u8 c.toNat)] h d (.pv (.i .i64 (Lib.indexByte s c))) [] := by
 refine Aq Ao fn120 (by simp) rfl rfl fun F => ?_;simp (disch := omega) only [ir120, go_sem];refine Am8 (A0q s c) ?_;simp (disch := omega) only [go_sem]
theorem Av1 (s : List UInt8) (c : UInt8) {h d} : FunOk Tryz.prog 107 [.pv (.s s), .pv (.i .u8 c.toNat)] h d (.pv (.i .i64 (Lib.indexByte s c))) [] := by
 refine Aq Ao fn107 (by simp) rfl rfl fun F => ?_;simp (disch := omega) only [ir107, go_sem];refine Aa (A0r s c) ?_;simp (disch := omega) only [go_sem]
def Pn (n : Nat) : Bool := decide (n < 55296 ∨ 57343 < n ∧ n ≤ 1114111)
theorem Ap8 (n : Nat) {h d} : FunOk Tryz.prog 108 [.pv (.i .i32 n)] h d (.pv (.b (Pn n))) [] := by
 refine Aq Ao fn108 (by simp) rfl rfl fun F => ?_;have h0 : (0 : Int) ≤ n := by omega
 by_cases h1 : (n : Int) < 55296
 · have e : Pn n = true := decide_eq_true (by omega);simp (disch := omega) only [ir108, h0, h1, e, go_sem]
 by_cases h2 : (57343 : Int) < n
 · by_cases h3 : (n : Int) ≤ 1114111
   · have e : Pn n = true := decide_eq_true (by omega);simp (disch := omega) only [ir108, h0, h1, h2, h3, e, go_sem]
   · have e : Pn n = false := decide_eq_false (by omega);simp (disch := omega) only [ir108, h0, h1, h2, h3, e, go_sem]
 · have e : Pn n = false := decide_eq_false (by omega);simp (disch := omega) only [ir108, h0, h1, h2, e, go_sem]
def ixD (n : Nat) : Int := if n < 128 then Lib.indexByte [46, 95, 45] (UInt8.ofNat n) else -1
def Abt (k : Nat) : FS := mk [(175, .p 175 0), (0, .pv (.s [46, 95, 45]))] [(175, some (.it [46, 95, 45] k))]
def Uy (rs : List UInt8) (i : Int) (_ : Unit) : FS := mk [(9, .pv (.i .i64 i)), (8, .pv (.i .i64 i)), (7, .pv (.s rs)), (10, .pv (.i .i64 0)), (0, .pv (.s [46, 95, 45]))] []
theorem Ahw (n : Nat) (h : 128 ≤ n) : (∃ a b, Ri n = [a, b] ∧ 128 ≤ b.toNat) ∨ (∃ a b c, Ri n = [a, b, c] ∧ 128 ≤ c.toNat) ∨ (∃ a b c d, Ri n = [a, b, c, d] ∧ 128 ≤ d.toNat) := by
 obtain ⟨h1, h2, h3⟩ := Am0 n h;generalize Ri n = l at *
 match l, h1, h2, h3 with
 | [a, b], _, _, h3 => exact .inl ⟨a, b, rfl, h3⟩
 | [a, b, c], _, _, h3 => exact .inr (.inl ⟨a, b, c, rfl, h3⟩)
 | [a, b, c, d], _, _, h3 => exact .inr (.inr ⟨a, b, c, d, rfl, h3⟩)
 | [], _, h2, _ => simp at h2
 | [a], _, h2, _ => simp at h2
 | a :: b :: c :: d :: e :: r, h1, _, _ => simp at h1
theorem Ae0 {s : List UInt8} {b : UInt8} (h : s = [95, 45] ∨ s = [45] ∨ s = []) (hb : 128 ≤ b.toNat) : Lib.indexByte s b = -1 := by
 have ne : ∀ c : UInt8, c.toNat < 128 → (c == b) = false := fun c hc => by
  rw [beq_eq_false_iff_ne]; intro e; subst e; omega
 rcases h with rfl | rfl | rfl <;> simp [Lib.indexByte, ne 95 (by decide), ne 45 (by decide)]
set_option maxHeartbeats 4000000 in
theorem Zm (n : Nat) (hn : n < 2147483648) {h d} : FunOk Tryz.prog 93 [.pv (.s [46, 95, 45]), .pv (.i .i32 n)] h d (.pv (.i .i64 (ixD n))) [] := by
 refine Aq Ao fn93 (by simp) rfl rfl fun F => ?_;have h0 : (0 : Int) ≤ n := by omega
 by_cases h1 : (n : Int) < 128
 · have e : ixD n = Lib.indexByte [46, 95, 45] (UInt8.ofNat n) := by unfold ixD; rw [if_pos (by omega)]
   have ew : IntKind.u8.wrap (n : Int) = ((UInt8.ofNat n).toNat : Int) := Bw _;simp (disch := omega) only [ir93, h0, h1, ew, go_sem];refine Aa (Av1 _ _) ?_;simp (disch := omega) only [e, go_sem]
 have e : ixD n = -1 := by unfold ixD; rw [if_neg (by omega)]
 by_cases h2 : (n : Int) = 65533
 · simp (disch := omega) only [ir93, h0, h1, h2, go_sem];have hl3 : (([46, 95, 45] : List UInt8).length) = 3 := rfl;have d0 : Mi [46, 95, 45] 0 = (46, 1) := by decide
   have d1 : Mi [46, 95, 45] 1 = (95, 1) := by decide
   have d2 : Mi [46, 95, 45] 2 = (45, 1) := by decide
   refine A2 Ao Abt (fun k => k ≤ 3) (fun k => 3 - k) 0 (by omega) (Au ?_ ?_) fun k hk => ?_
   · simp (disch := omega) only [go_sem]
   · simp (disch := omega) only [go_sem]
   by_cases hlt : k < 3
   · have : k = 0 ∨ k = 1 ∨ k = 2 := by omega
     rcases this with rfl | rfl | rfl
     all_goals simp (disch := omega) only [Abt, hl3, d0, d1, d2, go_sem]
     · refine Az (x := (0 : Nat)) (1 : Nat) _ _ rfl (by omega) (by omega) ?_ ?_
       · simp (disch := omega) only [go_sem]
       · simp (disch := omega) only [go_sem]
     · refine Az (x := (1 : Nat)) (2 : Nat) _ _ rfl (by omega) (by omega) ?_ ?_
       · simp (disch := omega) only [go_sem]
       · simp (disch := omega) only [go_sem]
     · refine Az (x := (2 : Nat)) (3 : Nat) _ _ rfl (by omega) (by omega) ?_ ?_
       · simp (disch := omega) only [go_sem]
       · simp (disch := omega) only [go_sem]
   · obtain rfl : k = 3 := by omega
     simp (disch := omega) only [Abt, hl3, e, go_sem]
 · simp (disch := omega) only [ir93, h0, h1, h2, go_sem];refine Aa (Ap8 n) ?_;cases hv : Pn n with
   | false => simp (disch := omega) only [hv, e, go_sem]
   | true =>
     have hl3 : (([46, 95, 45] : List UInt8).length : Int) = 3 := rfl;rcases Ahw n (by omega) with ⟨a, b, he, hb⟩ | ⟨a, b, c, he, hb⟩ | ⟨a, b, c, d, he, hb⟩
     ·
      have hlen : (([a, b] : List UInt8).length : Int) = 2 := rfl;have hg : ((([46, 95, 45] : List UInt8).getD (Int.toNat 1) 0).toNat : Int) = 95 := rfl;have hg' : ([a, b] : List UInt8).getD (Int.toNat 1) 0 = b := rfl;have hne : ¬ (95 : Int) = (b.toNat : Int) := by omega
      have hdr : List.drop ((1 : Int) + 1).toNat (List.take 3 ([46, 95, 45] : List UInt8)) = [45] := rfl;have hib : Lib.indexByte [45] b = -1 := Ae0 (by simp) hb;simp (disch := omega) only [hv, he, hlen, go_sem];refine A2 Ao (Uy [a, b] 1) (fun _ => True) (fun _ => 0) () trivial (Au ?_ ?_) fun _ _ => ?_
      · simp (disch := omega) only [go_sem]
      · simp (disch := omega) only [go_sem]
      simp (disch := omega) only [Uy, hl3, hlen, hg, hg', hne, hdr, go_sem];refine Aa (Av1 [45] b) ?_;simp (disch := omega) only [hib, e, go_sem]
     ·
      have hlen : (([a, b, c] : List UInt8).length : Int) = 3 := rfl;have hg : ((([46, 95, 45] : List UInt8).getD (Int.toNat 2) 0).toNat : Int) = 45 := rfl;have hg' : ([a, b, c] : List UInt8).getD (Int.toNat 2) 0 = c := rfl;have hne : ¬ (45 : Int) = (c.toNat : Int) := by omega
      have hdr : List.drop ((2 : Int) + 1).toNat (List.take 3 ([46, 95, 45] : List UInt8)) = [] := rfl;have hib : Lib.indexByte [] c = -1 := Ae0 (by simp) hb;simp (disch := omega) only [hv, he, hlen, go_sem];refine A2 Ao (Uy [a, b, c] 2) (fun _ => True) (fun _ => 0) () trivial (Au ?_ ?_) fun _ _ => ?_
      · simp (disch := omega) only [go_sem]
      · simp (disch := omega) only [go_sem]
      simp (disch := omega) only [Uy, hl3, hlen, hg, hg', hne, hdr, go_sem];refine Aa (Av1 [] c) ?_;simp (disch := omega) only [hib, e, go_sem]
     · have hlen : (([a, b, c, d] : List UInt8).length : Int) = 4 := rfl;simp (disch := omega) only [hv, he, hlen, go_sem];refine A2 Ao (Uy [a, b, c, d] 3) (fun _ => True) (fun _ => 0) () trivial (Au ?_ ?_) fun _ _ => ?_
       · simp (disch := omega) only [go_sem]
       · simp (disch := omega) only [go_sem]
       simp (disch := omega) only [Uy, hl3, hlen, e, go_sem]
def Ahx (n : Nat) : Bool := decide (n = 46 ∨ n = 95 ∨ n = 45)
theorem Aq6 (n : Nat) : decide (0 ≤ ixD n) = Ahx n := by
 by_cases h : n < 128
 · have : ∀ m, m < 128 → decide (0 ≤ ixD m) = Ahx m := by decide
   exact this n h
 · have e : ixD n = -1 := by unfold ixD; rw [if_neg h]
   rw [e];have : ¬ (n = 46 ∨ n = 95 ∨ n = 45) := by omega
   simp [Ahx]; omega
theorem Ha (n : Nat) (hn : n < 2147483648) {h d} : FunOk Tryz.prog 78 [.pv (.s [46, 95, 45]), .pv (.i .i32 n)] h d (.pv (.b (Ahx n))) [] := by
 refine Aq Ao fn78 (by simp) rfl rfl fun F => ?_;have e := Aq6 n;simp (disch := omega) only [ir78, go_sem];refine Aa (Zm n hn) ?_;simp (disch := omega) only [e, go_sem]
def Zz (n : Nat) : Bool := decide ((97 ≤ n ∧ n ≤ 122) ∨ (65 ≤ n ∧ n ≤ 90))
theorem Zl (n : Nat) {h d} : FunOk Tryz.prog 77 [.pv (.i .i32 n)] h d (.pv (.b (Zz n))) [] := by
 refine Aq Ao fn77 (by simp) rfl rfl fun F => ?_;have : n < 65 ∨ (65 ≤ n ∧ n ≤ 90) ∨ (91 ≤ n ∧ n ≤ 96) ∨ (97 ≤ n ∧ n ≤ 122) ∨ 123 ≤ n := by omega
 rcases this with h1 | h1 | h1 | h1 | h1
 · have e : Zz n = false := decide_eq_false (by omega);simp (disch := omega) only [ir77, e, go_sem]
 · have e : Zz n = true := decide_eq_true (by omega);simp (disch := omega) only [ir77, e, go_sem]
 · have e : Zz n = false := decide_eq_false (by omega);simp (disch := omega) only [ir77, e, go_sem]
 · have e : Zz n = true := decide_eq_true (by omega);simp (disch := omega) only [ir77, e, go_sem]
 · have e : Zz n = false := decide_eq_false (by omega);simp (disch := omega) only [ir77, e, go_sem]
theorem Ta {s : List UInt8} {k : Nat} (hk : k < s.length) (h : Kf (s.getD k 0) = false) : Cc s = false := by
 have hm : s.getD k 0 ∈ s := by rw [List.getD_eq_getElem?_getD, List.getElem?_eq_getElem hk]; exact List.getElem_mem hk
 unfold Cc;rw [show s.all Kf = false from by rw [List.all_eq_false]; exact ⟨_, hm, by rw [h]; decide⟩, Bool.and_false]
theorem U6 {s : List UInt8} (h1 : 1 ≤ s.length) (h2 : s.length ≤ 12) (h3 : s ≠ [46]) (h4 : s ≠ [46, 46]) (h : ∀ k, k < s.length → Kf (s.getD k 0) = true) : Cc s = true := by
 unfold Cc;rw [decide_eq_true ⟨h1, h2, h3, h4⟩, Bool.true_and, List.all_eq_true];intro b hb;obtain ⟨k, hk, rfl⟩ := List.getElem_of_mem hb;have := h k hk
 rwa [List.getD_eq_getElem?_getD, List.getElem?_eq_getElem hk] at this
theorem K5 {s : List UInt8} (h : ¬ (1 ≤ s.length ∧ s.length ≤ 12 ∧ s ≠ [46] ∧ s ≠ [46, 46])) : Cc s = false := by
 unfold Cc; rw [decide_eq_false h, Bool.false_and]
def Wa (s : List UInt8) (k : Nat) : FS := mk [(22, .p 22 0), (0, .pv (.s s))] [(22, some (.it s k))]
set_option maxHeartbeats 4000000 in
theorem Ace (s : List UInt8) {h d} : FunOk Tryz.prog 49 [.pv (.s s)] h d (.pv (.b (Cc s))) [] := by
 refine Aq Ao fn49 (by simp) rfl rfl fun F => ?_;by_cases h1 : s = []
 · subst h1;have e : Cc [] = false := K5 (by simp);have hl0 : (([] : List UInt8).length : Int) = 0 := rfl;simp (disch := omega) only [ir49, hl0, e, go_sem]
 have h1' : 1 ≤ s.length := List.length_pos_iff.2 h1;by_cases h2 : 12 < (s.length : Int)
 · have e : Cc s = false := K5 (by omega);simp (disch := omega) only [ir49, h1, h2, e, go_sem]
 by_cases h3 : s = [46]
 · subst h3;have e : Cc [46] = false := K5 (fun h => h.2.2.1 rfl);have hl0 : (([46] : List UInt8).length : Int) = 1 := rfl;simp (disch := omega) only [ir49, h1, hl0, e, go_sem]
 by_cases h4 : s = [46, 46]
 · subst h4;have e : Cc [46, 46] = false := K5 (fun h => h.2.2.2 rfl);have hl0 : (([46, 46] : List UInt8).length : Int) = 2 := rfl;simp (disch := omega) only [ir49, h1, h3, hl0, e, go_sem]
 simp (disch := omega) only [ir49, h1, h2, h3, h4, go_sem];refine A2 Ao (Wa s) (fun k => k ≤ s.length ∧ ∀ j, j < k → Kf (s.getD j 0) = true) (fun k => s.length - k) 0 (by simp) (Au ?_ ?_) fun k hk => ?_
 · simp (disch := omega) only [go_sem]
 · simp (disch := omega) only [go_sem]
 obtain ⟨hk1, hk2⟩ := hk;by_cases hlt : k < s.length
 · by_cases ha : (s.getD k 0).toNat < 128
   · have hd := Ahz hlt ha;have hgo : Kf (s.getD k 0) = true → (k + 1 ≤ s.length ∧ ∀ j, j < k + 1 → Kf (s.getD j 0) = true) := fun h => ⟨hlt, fun j hj => by
      by_cases e : j = k
      · subst e; exact h
      · exact hk2 j (by omega)⟩
     have hbad := fun h => Ta (s := s) hlt h;generalize hb : s.getD k 0 = b at *;simp (disch := omega) only [Wa, hd, go_sem];refine Aa (Zl _) ?_;cases hL : Zz b.toNat with
     | true =>
       have hL' : (97 ≤ b.toNat ∧ b.toNat ≤ 122) ∨ (65 ≤ b.toNat ∧ b.toNat ≤ 90) := of_decide_eq_true hL;simp (disch := omega) only [hL, go_sem];refine Az (k + 1) _ _ rfl (hgo (decide_eq_true (by omega))) (by omega) ?_ ?_
       · simp (disch := omega) only [go_sem]
       · simp (disch := omega) only [go_sem]
     | false =>
       have hL' : ¬ ((97 ≤ b.toNat ∧ b.toNat ≤ 122) ∨ (65 ≤ b.toNat ∧ b.toNat ≤ 90)) := of_decide_eq_false hL;by_cases hdg : 48 ≤ b.toNat ∧ b.toNat ≤ 57
       · simp (disch := omega) only [hL, go_sem];refine Az (k + 1) _ _ rfl (hgo (decide_eq_true (by omega))) (by omega) ?_ ?_
         · simp (disch := omega) only [go_sem]
         · simp (disch := omega) only [go_sem]
       · have ht : b.toNat < 48 ∨ (48 ≤ b.toNat ∧ 57 < b.toNat) := by omega
         cases hdt : Ahx b.toNat with
         | true =>
           have hdt' : b.toNat = 46 ∨ b.toNat = 95 ∨ b.toNat = 45 := of_decide_eq_true hdt;have hg := hgo (decide_eq_true (by omega));rcases ht with ht | ht
           all_goals simp (disch := omega) only [hL, go_sem]
           all_goals refine Aa (Ha b.toNat (by omega)) ?_
           all_goals simp (disch := omega) only [hdt, go_sem]
           all_goals refine Az (k + 1) _ _ rfl hg (by omega) ?_ ?_
           all_goals simp (disch := omega) only [go_sem]
         | false =>
           have hdt' : ¬ (b.toNat = 46 ∨ b.toNat = 95 ∨ b.toNat = 45) := of_decide_eq_false hdt;have hg := hbad (decide_eq_false (by omega));rcases ht with ht | ht
           all_goals simp (disch := omega) only [hL, go_sem]
           all_goals refine Aa (Ha b.toNat (by omega)) ?_
           all_goals simp (disch := omega) only [hdt, hg, go_sem]
   · obtain ⟨hd1, hd2⟩ := Asj hlt ha;have hg := Ta (s := s) hlt (decide_eq_false (by omega));generalize hc : (Mi s k).1 = c at *;have hL : Zz c = false := decide_eq_false (by omega);have hdt : Ahx c = false := decide_eq_false (by omega);simp (disch := omega) only [Wa, hc, go_sem];refine Aa (Zl _) ?_;simp (disch := omega) only [hL, go_sem];refine Aa (Ha c hd2) ?_;simp (disch := omega) only [hdt, hg, go_sem]
 · obtain rfl : k = s.length := by omega
   have e := U6 h1' (by omega) h3 h4 hk2;simp (disch := omega) only [Wa, e, go_sem]
def Rm (s : List UInt8) (k : Nat) : FS := mk [(3, .pv (.i .i64 k)), (0, .pv (.s s))] []
set_option maxHeartbeats 4000000 in
theorem Wx (s : List UInt8) {h d} : FunOk Tryz.prog 56 [.pv (.s s)] h d (.pv (.b (Cc s))) [] := by
 refine Aq Ao fn56 (by simp) rfl rfl fun F => ?_;by_cases h1 : s = []
 · subst h1;have e : Cc [] = false := K5 (by simp);have hl0 : (([] : List UInt8).length : Int) = 0 := rfl;simp (disch := omega) only [ir56, hl0, e, go_sem]
 have h1' : 1 ≤ s.length := List.length_pos_iff.2 h1;by_cases h2 : 12 < (s.length : Int)
 · have e : Cc s = false := K5 (by omega);simp (disch := omega) only [ir56, h1, h2, e, go_sem]
 by_cases h3 : s = [46]
 · subst h3;have e : Cc [46] = false := K5 (fun h => h.2.2.1 rfl);have hl0 : (([46] : List UInt8).length : Int) = 1 := rfl;simp (disch := omega) only [ir56, h1, hl0, e, go_sem]
 by_cases h4 : s = [46, 46]
 · subst h4;have e : Cc [46, 46] = false := K5 (fun h => h.2.2.2 rfl);have hl0 : (([46, 46] : List UInt8).length : Int) = 2 := rfl;simp (disch := omega) only [ir56, h1, h3, hl0, e, go_sem]
 simp (disch := omega) only [ir56, h1, h2, h3, h4, go_sem];refine A2 Ao (Rm s) (fun k => k ≤ s.length ∧ ∀ j, j < k → Kf (s.getD j 0) = true) (fun k => s.length - k) 0 (by simp) (Au ?_ ?_) fun k hk => ?_
 · simp (disch := omega) only [go_sem]
 · simp (disch := omega) only [go_sem]
 obtain ⟨hk1, hk2⟩ := hk;by_cases hlt : k < s.length
 · have hgo : Kf (s.getD k 0) = true → (k + 1 ≤ s.length ∧ ∀ j, j < k + 1 → Kf (s.getD j 0) = true) := fun h => ⟨hlt, fun j hj => by
    by_cases e : j = k
    · subst e; exact h
    · exact hk2 j (by omega)⟩
   have hbad := fun h => Ta (s := s) hlt h;generalize hb : s.getD k 0 = b at *;by_cases hok : Kf b = true
   · have hok' := of_decide_eq_true hok;have hg := hgo hok;have : (97 ≤ b.toNat ∧ b.toNat ≤ 122) ∨ (65 ≤ b.toNat ∧ b.toNat ≤ 90) ∨ (48 ≤ b.toNat ∧ b.toNat ≤ 57) ∨ b.toNat = 46 ∨ b.toNat = 95 ∨ b.toNat = 45 := by omega
     rcases this with hc | hc | hc | hc | hc | hc
     all_goals simp (disch := omega) only [Rm, hb, hc, go_sem]
     all_goals refine Az (k + 1) _ _ rfl hg (by omega) ?_ ?_
     all_goals simp (disch := omega) only [go_sem]
   · have hok0 : Kf b = false := by simpa using hok
     have hok' := of_decide_eq_false hok0;have hg := hbad hok0;have : b.toNat < 45 ∨ b.toNat = 47 ∨ (58 ≤ b.toNat ∧ b.toNat ≤ 64) ∨ (91 ≤ b.toNat ∧ b.toNat ≤ 94) ∨ b.toNat = 96 ∨ 123 ≤ b.toNat := by omega
     rcases this with hc | hc | hc | hc | hc | hc
     all_goals simp (disch := omega) only [Rm, hb, hc, hg, go_sem]
 · obtain rfl : k = s.length := by omega
   have e := U6 h1' (by omega) h3 h4 hk2;simp (disch := omega) only [Rm, e, go_sem]
end Go.Proofs.YtpgnmmmcomhdcaaGreat.Fw
namespace Go.Proofs.YtpgnmmmcomhdcaaGreat.Fw
open Go.RowKit Go.Proofs
def Fm (e : Evt) : Prop := 1 ≤ e.rep ∧ e.rep ≤ 8 ∧ 1 ≤ e.seq ∧ e.seq ≤ 1048576 ∧ e.dep (e.rep - 1).toNat + 1 = e.seq ∧ 1 ≤ e.kind ∧ e.kind ≤ 9
def Kb (e : Evt) : Prop := ∀ i, i < 8 → e.dep i ≤ 1048576
def Bu (b : Evt) : Bool := Bo b.orep b.oseq && (Bo b.drep b.dseq && (decide (b.name = []) && (decide ((b.gone.l.length : Int) = 0) && (decide ((b.base.l.length : Int) = 0) && (decide (b.off = 0) && (decide (b.data = []) && decide (b.ward = 0)))))))
noncomputable def Ew (e : Evt) : Bool :=
 if e.kind = 1 ∨ e.kind = 2 then (Bv e && (Cc e.name))
 else if e.kind = 3 then (Cg e.dep e.orep e.oseq && (Dm e.base.l 1 e.dep && (Cb (e.off) && (decide ((1 : Int) ≤ (e.data.length : Int)) && (Cb ((e.data.length : Int)) && (Cb (e.off + (e.data.length : Int))))))))
 else if e.kind = 4 then (Cg e.dep e.orep e.oseq && (Dm e.base.l 1 e.dep && (Cb (e.off))))
 else if e.kind = 5 then (Cg e.dep e.orep e.oseq && (Dm e.base.l 8 e.dep && (decide ((2 : Int) ≤ (e.base.l.length : Int)) && (Cb ((e.data.length : Int))))))
 else if e.kind = 6 then (Cg e.dep e.orep e.oseq && (Dm e.gone.l 8 e.dep))
 else if e.kind = 7 then (Cg e.dep e.orep e.oseq && (Dm e.gone.l 8 e.dep && (Bv e && (Cc e.name))))
 else if e.kind = 8 then (decide (1 ≤ e.ward) && (decide (e.ward ≤ 4)))
 else true
open Classical in
noncomputable def A4 (e : Evt) : Bool := decide (Fm e) && (decide (Kb e) && (Bu (Br e) && Ew e))
theorem C8 {e : Evt} (h : ¬ Fm e) : A4 e = false := by simp [A4, h]
theorem Pe {e : Evt} (h : ¬ Kb e) : A4 e = false := by simp [A4, h]
theorem Aso {e : Evt} (h : Bu (Br e) = false) : A4 e = false := by simp [A4, h]
theorem Asp {e : Evt} (h1 : Fm e) (h2 : Kb e) (h3 : Bu (Br e) = true) : A4 e = Ew e := by simp [A4, h1, h2, h3]
def ev (e : Evt) : Prop := e.gone.ok ∧ e.base.ok ∧ e.gone.l.length ≤ 1000 ∧ e.base.l.length ≤ 1000 ∧ e.data.length ≤ 100000
theorem Xg {e : Evt} (h : e.kind = 1) : Ew e = (Bv e && (Cc e.name)) := by simp [Ew, h]
theorem Xf {e : Evt} (h : e.kind = 2) : Ew e = (Bv e && (Cc e.name)) := by simp [Ew, h]
theorem Xe {e : Evt} (h : e.kind = 3) : Ew e = (Cg e.dep e.orep e.oseq && (Dm e.base.l 1 e.dep && (Cb (e.off) && (decide ((1 : Int) ≤ (e.data.length : Int)) && (Cb ((e.data.length : Int)) && (Cb (e.off + (e.data.length : Int)))))))) := by simp [Ew, h]
theorem Xd {e : Evt} (h : e.kind = 4) : Ew e = (Cg e.dep e.orep e.oseq && (Dm e.base.l 1 e.dep && (Cb (e.off)))) := by simp [Ew, h]
theorem Xc {e : Evt} (h : e.kind = 5) : Ew e = (Cg e.dep e.orep e.oseq && (Dm e.base.l 8 e.dep && (decide ((2 : Int) ≤ (e.base.l.length : Int)) && (Cb ((e.data.length : Int)))))) := by simp [Ew, h]
theorem Xb {e : Evt} (h : e.kind = 6) : Ew e = (Cg e.dep e.orep e.oseq && (Dm e.gone.l 8 e.dep)) := by simp [Ew, h]
theorem Xa {e : Evt} (h : e.kind = 7) : Ew e = (Cg e.dep e.orep e.oseq && (Dm e.gone.l 8 e.dep && (Bv e && (Cc e.name)))) := by simp [Ew, h]
theorem W9 {e : Evt} (h : e.kind = 8) : Ew e = (decide (1 ≤ e.ward) && (decide (e.ward ≤ 4))) := by simp [Ew, h]
theorem W8 {e : Evt} (h : e.kind = 9) : Ew e = (true) := by simp [Ew, h]
def Ad6 (e : Evt) (k : Nat) : FS := mk [(55, .pv (.i .i64 k)), (54, .vec 8 (vE e.dep)), (1, .p 1 0)] [(1, some (.var (.vec 21 (B9 e))))]
set_option maxHeartbeats 16000000 in
theorem Aeq (e : Evt) (he : ev e) {h d} : FunOk Tryz.prog 24 [.vec 21 (B9 e)] h d (.pv (.b (A4 e))) [] := by
 refine Aq Ao fn24 (by simp) rfl rfl fun F => ?_;have hl := Ac e;obtain ⟨hg, hb, hgn, hbn, hdl⟩ := he;by_cases r1 : e.rep < 1
 · have eb := C8 (e := e) fun h => by have := h.1; omega
   simp (disch := omega) only [ir24, E2, r1, eb, go_sem]
 by_cases r2 : 8 < e.rep
 · have eb := C8 (e := e) fun h => by have := h.2.1; omega
   simp (disch := omega) only [ir24, E2, r1, r2, eb, go_sem]
 by_cases r3 : (e.seq : Int) < 1
 · have eb := C8 (e := e) fun h => by have := h.2.2.1; omega
   simp (disch := omega) only [ir24, E2, Fv, r1, r2, r3, eb, go_sem]
 by_cases r4 : 1048576 < (e.seq : Int)
 · have eb := C8 (e := e) fun h => by have := h.2.2.2.1; omega
   simp (disch := omega) only [ir24, E2, Fv, r1, r2, r3, r4, eb, go_sem]
 obtain ⟨k, hk⟩ : ∃ k : Nat, e.rep = (k : Int) + 1 := ⟨(e.rep - 1).toNat, by omega⟩
 have hk8 : k < 8 := by omega
 have ek : ((k : Int) + 1 - 1) = (k : Int) := by omega
 have ekn : (e.rep - 1).toNat = k := by omega
 by_cases r5 : (e.dep k : Int) = (e.seq : Int) - 1;rotate_left
 · have eb := C8 (e := e) fun h => by have := h.2.2.2.2.1; rw [ekn] at this; omega
   simp (disch := omega) only [ir24, E2, Fv, Fu, hk, ek, r3, r4, r5, eb, go_sem]
 by_cases r6 : e.kind < 1
 · have eb := C8 (e := e) fun h => by have := h.2.2.2.2.2.1; omega
   simp (disch := omega) only [ir24, E2, Fv, Eo, Fu, hk, ek, r3, r4, r5, r6, eb, go_sem]
 by_cases r7 : 9 < e.kind
 · have eb := C8 (e := e) fun h => by have := h.2.2.2.2.2.2; omega
   simp (disch := omega) only [ir24, E2, Fv, Eo, Fu, hk, ek, r3, r4, r5, r6, r7, eb, go_sem]
 have hB : Fm e := ⟨by omega, by omega, by omega, by omega, by rw [ekn]; omega, by omega, by omega⟩
 simp (disch := omega) only [ir24, E2, Fv, Eo, K8, Fu, hk, ek, r3, r4, r5, r6, r7, go_sem];refine A2 Ao (Ad6 e) (fun k => k ≤ 8 ∧ ∀ i, i < k → e.dep i ≤ 1048576) (fun k => 8 - k) 0 (by simp) (Au ?_ ?_) fun j hj => ?_
 · simp (disch := omega) only [go_sem]
 · simp (disch := omega) only [go_sem]
 obtain ⟨hj1, hj2⟩ := hj;by_cases hlt : j < 8
 · by_cases hd : 1048576 < (e.dep j : Int)
   · have eb := Pe (e := e) fun h => by have := h j hlt; omega
     simp (disch := omega) only [Ad6, hd, eb, go_sem]
   · simp (disch := omega) only [Ad6, hd, go_sem];refine Az (j + 1) _ _ rfl ⟨by omega, fun i hi => ?_⟩ (by omega) ?_ ?_
     · by_cases e : i = j
       · subst e; omega
       · exact hj2 i (by omega)
     · simp (disch := omega) only [go_sem]
     · simp (disch := omega) only [go_sem]
 obtain rfl : j = 8 := by omega
 have hD : Kb e := hj2;simp (disch := omega) only [Ad6, Ev, go_sem];refine Aa (Av5 e) ?_;have cz := Aso (e := e);have ck := fun h3 => Asp (e := e) hB hD h3;have hbl := Ac (Br e);generalize Br e = b at *

 by_cases z1' : Bo b.orep b.oseq = false
 · have eb := cz (by simp only [Bu, z1', decide_true, decide_false, Bool.true_and, Bool.false_and, Bool.and_true, Bool.and_false, Bool.and_self]);simp (disch := omega) only [Ag, Al, Ak, Dk, hl, hbl, z1', eb, go_sem]
 have z1 : Bo b.orep b.oseq = true := by simpa using z1'
 by_cases z2' : Bo b.drep b.dseq = false
 · have eb := cz (by simp only [Bu, z1, z2', decide_true, decide_false, Bool.true_and, Bool.false_and, Bool.and_true, Bool.and_false, Bool.and_self]);simp (disch := omega) only [Ag, Al, Ak, Dk, hl, hbl, z1, z2', eb, go_sem]
 have z2 : Bo b.drep b.dseq = true := by simpa using z2'
 by_cases z3 : b.name = [];rotate_left
 · have eb := cz (by simp only [Bu, z1, z2, z3, decide_true, decide_false, Bool.true_and, Bool.false_and, Bool.and_true, Bool.and_false, Bool.and_self]);simp (disch := omega) only [Ag, Al, Ak, Dk, hl, hbl, z1, z2, z3, eb, go_sem]
 by_cases z4 : (b.gone.l.length : Int) = 0;rotate_left
 · have eb := cz (by simp only [Bu, z1, z2, z3, z4, decide_true, decide_false, Bool.true_and, Bool.false_and, Bool.and_true, Bool.and_false, Bool.and_self]);simp (disch := omega) only [Ag, Al, Ak, Dk, hl, hbl, z1, z2, z3, z4, eb, go_sem]
 by_cases z5 : (b.base.l.length : Int) = 0;rotate_left
 · have eb := cz (by simp only [Bu, z1, z2, z3, z4, z5, decide_true, decide_false, Bool.true_and, Bool.false_and, Bool.and_true, Bool.and_false, Bool.and_self]);simp (disch := omega) only [Ag, Al, Ak, Dk, hl, hbl, z1, z2, z3, z4, z5, eb, go_sem]
 by_cases z6 : b.off = 0;rotate_left
 · have eb := cz (by simp only [Bu, z1, z2, z3, z4, z5, z6, decide_true, decide_false, Bool.true_and, Bool.false_and, Bool.and_true, Bool.and_false, Bool.and_self]);simp (disch := omega) only [Ag, Al, Ak, Dk, hl, hbl, z1, z2, z3, z4, z5, z6, eb, go_sem]
 by_cases z7 : b.data = [];rotate_left
 · have eb := cz (by simp only [Bu, z1, z2, z3, z4, z5, z6, z7, decide_true, decide_false, Bool.true_and, Bool.false_and, Bool.and_true, Bool.and_false, Bool.and_self]);simp (disch := omega) only [Ag, Al, Ak, Dk, hl, hbl, z1, z2, z3, z4, z5, z6, z7, eb, go_sem]
 by_cases z8 : b.ward = 0;rotate_left
 · have eb := cz (by simp only [Bu, z1, z2, z3, z4, z5, z6, z7, z8, decide_true, decide_false, Bool.true_and, Bool.false_and, Bool.and_true, Bool.and_false, Bool.and_self]);simp (disch := omega) only [Ag, Al, Ak, Dk, hl, hbl, z1, z2, z3, z4, z5, z6, z7, z8, eb, go_sem]
 have ez := ck (by simp only [Bu, z1, z2, z3, z4, z5, z6, z7, z8, decide_true, decide_false, Bool.true_and, Bool.false_and, Bool.and_true, Bool.and_false, Bool.and_self]);have hkk : e.kind = 1 ∨ e.kind = 2 ∨ e.kind = 3 ∨ e.kind = 4 ∨ e.kind = 5 ∨ e.kind = 6 ∨ e.kind = 7 ∨ e.kind = 8 ∨ e.kind = 9 := by omega
 rcases hkk with hki | hki | hki | hki | hki | hki | hki | hki | hki
 · rw [Xg hki] at ez;simp (disch := omega) only [Ag, Al, Ak, Dk, hl, hbl, z1, z2, z3, z4, z5, z6, z7, z8, hki, go_sem];refine Aa (Ww e) ?_;by_cases s0' : Bv e = false
   · simp only [s0', decide_true, decide_false, Bool.true_and, Bool.false_and, Bool.and_true, Bool.and_false, Bool.and_self] at ez;simp (disch := omega) only [Ag, Al, Ak, s0', ez, go_sem]
   have s0 : Bv e = true := by simpa using s0'
   simp (disch := omega) only [Ag, Al, Ak, s0, go_sem];refine Aa (Ace _) ?_;by_cases s1' : Cc e.name = false
   · simp only [s0, s1', decide_true, decide_false, Bool.true_and, Bool.false_and, Bool.and_true, Bool.and_false, Bool.and_self] at ez;simp (disch := omega) only [Ag, Al, Ak, s0, s1', ez, go_sem]
   have s1 : Cc e.name = true := by simpa using s1'
   simp only [s0, s1, decide_true, decide_false, Bool.true_and, Bool.false_and, Bool.and_true, Bool.and_false, Bool.and_self] at ez;simp (disch := omega) only [Ag, Al, Ak, s0, s1, ez, go_sem]
 · rw [Xf hki] at ez;simp (disch := omega) only [Ag, Al, Ak, Dk, hl, hbl, z1, z2, z3, z4, z5, z6, z7, z8, hki, go_sem];refine Aa (Ww e) ?_;by_cases s0' : Bv e = false
   · simp only [s0', decide_true, decide_false, Bool.true_and, Bool.false_and, Bool.and_true, Bool.and_false, Bool.and_self] at ez;simp (disch := omega) only [Ag, Al, Ak, s0', ez, go_sem]
   have s0 : Bv e = true := by simpa using s0'
   simp (disch := omega) only [Ag, Al, Ak, s0, go_sem];refine Aa (Ace _) ?_;by_cases s1' : Cc e.name = false
   · simp only [s0, s1', decide_true, decide_false, Bool.true_and, Bool.false_and, Bool.and_true, Bool.and_false, Bool.and_self] at ez;simp (disch := omega) only [Ag, Al, Ak, s0, s1', ez, go_sem]
   have s1 : Cc e.name = true := by simpa using s1'
   simp only [s0, s1, decide_true, decide_false, Bool.true_and, Bool.false_and, Bool.and_true, Bool.and_false, Bool.and_self] at ez;simp (disch := omega) only [Ag, Al, Ak, s0, s1, ez, go_sem]
 · rw [Xe hki] at ez;simp (disch := omega) only [Ag, Al, Ak, Dk, hl, hbl, z1, z2, z3, z4, z5, z6, z7, z8, hki, go_sem];refine Aa (Ia _ _ _) ?_;by_cases s0' : Cg e.dep e.orep e.oseq = false
   · simp only [s0', decide_true, decide_false, Bool.true_and, Bool.false_and, Bool.and_true, Bool.and_false, Bool.and_self] at ez;simp (disch := omega) only [Ag, Al, Ak, s0', ez, go_sem]
   have s0 : Cg e.dep e.orep e.oseq = true := by simpa using s0'
   simp (disch := omega) only [Ag, Al, Ak, s0, go_sem];refine Aa (Zn (l := e.base.l) (most := 1) hb hbn) ?_;by_cases s1' : Dm e.base.l 1 e.dep = false
   · simp only [s0, s1', decide_true, decide_false, Bool.true_and, Bool.false_and, Bool.and_true, Bool.and_false, Bool.and_self] at ez;simp (disch := omega) only [Ag, Al, Ak, s0, s1', ez, go_sem]
   have s1 : Dm e.base.l 1 e.dep = true := by simpa using s1'
   simp (disch := omega) only [Ag, Al, Ak, s0, s1, go_sem];refine Aa (S2 (e.off)) ?_;by_cases s2' : Cb (e.off) = false
   · simp only [s0, s1, s2', decide_true, decide_false, Bool.true_and, Bool.false_and, Bool.and_true, Bool.and_false, Bool.and_self] at ez;simp (disch := omega) only [Ag, Al, Ak, s0, s1, s2', ez, go_sem]
   have s2 : Cb (e.off) = true := by simpa using s2'
   have s2b := of_decide_eq_true s2;by_cases s3 : (1 : Int) ≤ (e.data.length : Int);rotate_left
   · simp only [s0, s1, s2, s3, decide_true, decide_false, Bool.true_and, Bool.false_and, Bool.and_true, Bool.and_false, Bool.and_self] at ez;simp (disch := omega) only [Ag, Al, Ak, s0, s1, s2, s3, ez, go_sem]
   simp (disch := omega) only [Ag, Al, Ak, s0, s1, s2, s3, go_sem];refine Aa (S2 ((e.data.length : Int))) ?_;by_cases s4' : Cb ((e.data.length : Int)) = false
   · simp only [s0, s1, s2, s3, s4', decide_true, decide_false, Bool.true_and, Bool.false_and, Bool.and_true, Bool.and_false, Bool.and_self] at ez;simp (disch := omega) only [Ag, Al, Ak, s0, s1, s2, s3, s4', ez, go_sem]
   have s4 : Cb ((e.data.length : Int)) = true := by simpa using s4'
   have s4b := of_decide_eq_true s4;simp (disch := omega) only [Ag, Al, Ak, s0, s1, s2, s3, s4, go_sem];refine Aa (S2 (e.off + (e.data.length : Int))) ?_;by_cases s5' : Cb (e.off + (e.data.length : Int)) = false
   · simp only [s0, s1, s2, s3, s4, s5', decide_true, decide_false, Bool.true_and, Bool.false_and, Bool.and_true, Bool.and_false, Bool.and_self] at ez;simp (disch := omega) only [Ag, Al, Ak, s0, s1, s2, s3, s4, s5', ez, go_sem]
   have s5 : Cb (e.off + (e.data.length : Int)) = true := by simpa using s5'
   have s5b := of_decide_eq_true s5;simp only [s0, s1, s2, s3, s4, s5, decide_true, decide_false, Bool.true_and, Bool.false_and, Bool.and_true, Bool.and_false, Bool.and_self] at ez;simp (disch := omega) only [Ag, Al, Ak, s0, s1, s2, s3, s4, s5, ez, go_sem]
 · rw [Xd hki] at ez;simp (disch := omega) only [Ag, Al, Ak, Dk, hl, hbl, z1, z2, z3, z4, z5, z6, z7, z8, hki, go_sem];refine Aa (Ia _ _ _) ?_;by_cases s0' : Cg e.dep e.orep e.oseq = false
   · simp only [s0', decide_true, decide_false, Bool.true_and, Bool.false_and, Bool.and_true, Bool.and_false, Bool.and_self] at ez;simp (disch := omega) only [Ag, Al, Ak, s0', ez, go_sem]
   have s0 : Cg e.dep e.orep e.oseq = true := by simpa using s0'
   simp (disch := omega) only [Ag, Al, Ak, s0, go_sem];refine Aa (Zn (l := e.base.l) (most := 1) hb hbn) ?_;by_cases s1' : Dm e.base.l 1 e.dep = false
   · simp only [s0, s1', decide_true, decide_false, Bool.true_and, Bool.false_and, Bool.and_true, Bool.and_false, Bool.and_self] at ez;simp (disch := omega) only [Ag, Al, Ak, s0, s1', ez, go_sem]
   have s1 : Dm e.base.l 1 e.dep = true := by simpa using s1'
   simp (disch := omega) only [Ag, Al, Ak, s0, s1, go_sem];refine Aa (S2 (e.off)) ?_;by_cases s2' : Cb (e.off) = false
   · simp only [s0, s1, s2', decide_true, decide_false, Bool.true_and, Bool.false_and, Bool.and_true, Bool.and_false, Bool.and_self] at ez;simp (disch := omega) only [Ag, Al, Ak, s0, s1, s2', ez, go_sem]
   have s2 : Cb (e.off) = true := by simpa using s2'
   have s2b := of_decide_eq_true s2;simp only [s0, s1, s2, decide_true, decide_false, Bool.true_and, Bool.false_and, Bool.and_true, Bool.and_false, Bool.and_self] at ez;simp (disch := omega) only [Ag, Al, Ak, s0, s1, s2, ez, go_sem]
 · rw [Xc hki] at ez;simp (disch := omega) only [Ag, Al, Ak, Dk, hl, hbl, z1, z2, z3, z4, z5, z6, z7, z8, hki, go_sem];refine Aa (Ia _ _ _) ?_;by_cases s0' : Cg e.dep e.orep e.oseq = false
   · simp only [s0', decide_true, decide_false, Bool.true_and, Bool.false_and, Bool.and_true, Bool.and_false, Bool.and_self] at ez;simp (disch := omega) only [Ag, Al, Ak, s0', ez, go_sem]
   have s0 : Cg e.dep e.orep e.oseq = true := by simpa using s0'
   simp (disch := omega) only [Ag, Al, Ak, s0, go_sem];refine Aa (Zn (l := e.base.l) (most := 8) hb hbn) ?_;by_cases s1' : Dm e.base.l 8 e.dep = false
   · simp only [s0, s1', decide_true, decide_false, Bool.true_and, Bool.false_and, Bool.and_true, Bool.and_false, Bool.and_self] at ez;simp (disch := omega) only [Ag, Al, Ak, s0, s1', ez, go_sem]
   have s1 : Dm e.base.l 8 e.dep = true := by simpa using s1'
   by_cases s2 : (2 : Int) ≤ (e.base.l.length : Int);rotate_left
   · simp only [s0, s1, s2, decide_true, decide_false, Bool.true_and, Bool.false_and, Bool.and_true, Bool.and_false, Bool.and_self] at ez;simp (disch := omega) only [Ag, Al, Ak, s0, s1, s2, ez, go_sem]
   simp (disch := omega) only [Ag, Al, Ak, s0, s1, s2, go_sem];refine Aa (S2 ((e.data.length : Int))) ?_;by_cases s3' : Cb ((e.data.length : Int)) = false
   · simp only [s0, s1, s2, s3', decide_true, decide_false, Bool.true_and, Bool.false_and, Bool.and_true, Bool.and_false, Bool.and_self] at ez;simp (disch := omega) only [Ag, Al, Ak, s0, s1, s2, s3', ez, go_sem]
   have s3 : Cb ((e.data.length : Int)) = true := by simpa using s3'
   have s3b := of_decide_eq_true s3;simp only [s0, s1, s2, s3, decide_true, decide_false, Bool.true_and, Bool.false_and, Bool.and_true, Bool.and_false, Bool.and_self] at ez;simp (disch := omega) only [Ag, Al, Ak, s0, s1, s2, s3, ez, go_sem]
 · rw [Xb hki] at ez;simp (disch := omega) only [Ag, Al, Ak, Dk, hl, hbl, z1, z2, z3, z4, z5, z6, z7, z8, hki, go_sem];refine Aa (Ia _ _ _) ?_;by_cases s0' : Cg e.dep e.orep e.oseq = false
   · simp only [s0', decide_true, decide_false, Bool.true_and, Bool.false_and, Bool.and_true, Bool.and_false, Bool.and_self] at ez;simp (disch := omega) only [Ag, Al, Ak, s0', ez, go_sem]
   have s0 : Cg e.dep e.orep e.oseq = true := by simpa using s0'
   simp (disch := omega) only [Ag, Al, Ak, s0, go_sem];refine Aa (Zn (l := e.gone.l) (most := 8) hg hgn) ?_;by_cases s1' : Dm e.gone.l 8 e.dep = false
   · simp only [s0, s1', decide_true, decide_false, Bool.true_and, Bool.false_and, Bool.and_true, Bool.and_false, Bool.and_self] at ez;simp (disch := omega) only [Ag, Al, Ak, s0, s1', ez, go_sem]
   have s1 : Dm e.gone.l 8 e.dep = true := by simpa using s1'
   simp only [s0, s1, decide_true, decide_false, Bool.true_and, Bool.false_and, Bool.and_true, Bool.and_false, Bool.and_self] at ez;simp (disch := omega) only [Ag, Al, Ak, s0, s1, ez, go_sem]
 · rw [Xa hki] at ez;simp (disch := omega) only [Ag, Al, Ak, Dk, hl, hbl, z1, z2, z3, z4, z5, z6, z7, z8, hki, go_sem];refine Aa (Ia _ _ _) ?_;by_cases s0' : Cg e.dep e.orep e.oseq = false
   · simp only [s0', decide_true, decide_false, Bool.true_and, Bool.false_and, Bool.and_true, Bool.and_false, Bool.and_self] at ez;simp (disch := omega) only [Ag, Al, Ak, s0', ez, go_sem]
   have s0 : Cg e.dep e.orep e.oseq = true := by simpa using s0'
   simp (disch := omega) only [Ag, Al, Ak, s0, go_sem];refine Aa (Zn (l := e.gone.l) (most := 8) hg hgn) ?_;by_cases s1' : Dm e.gone.l 8 e.dep = false
   · simp only [s0, s1', decide_true, decide_false, Bool.true_and, Bool.false_and, Bool.and_true, Bool.and_false, Bool.and_self] at ez;simp (disch := omega) only [Ag, Al, Ak, s0, s1', ez, go_sem]
   have s1 : Dm e.gone.l 8 e.dep = true := by simpa using s1'
   simp (disch := omega) only [Ag, Al, Ak, s0, s1, go_sem];refine Aa (Ww e) ?_;by_cases s2' : Bv e = false
   · simp only [s0, s1, s2', decide_true, decide_false, Bool.true_and, Bool.false_and, Bool.and_true, Bool.and_false, Bool.and_self] at ez;simp (disch := omega) only [Ag, Al, Ak, s0, s1, s2', ez, go_sem]
   have s2 : Bv e = true := by simpa using s2'
   simp (disch := omega) only [Ag, Al, Ak, s0, s1, s2, go_sem];refine Aa (Ace _) ?_;by_cases s3' : Cc e.name = false
   · simp only [s0, s1, s2, s3', decide_true, decide_false, Bool.true_and, Bool.false_and, Bool.and_true, Bool.and_false, Bool.and_self] at ez;simp (disch := omega) only [Ag, Al, Ak, s0, s1, s2, s3', ez, go_sem]
   have s3 : Cc e.name = true := by simpa using s3'
   simp only [s0, s1, s2, s3, decide_true, decide_false, Bool.true_and, Bool.false_and, Bool.and_true, Bool.and_false, Bool.and_self] at ez;simp (disch := omega) only [Ag, Al, Ak, s0, s1, s2, s3, ez, go_sem]
 · rw [W9 hki] at ez;by_cases s0 : 1 ≤ e.ward;rotate_left
   · simp only [s0, decide_true, decide_false, Bool.true_and, Bool.false_and, Bool.and_true, Bool.and_false, Bool.and_self] at ez;simp (disch := omega) only [Ag, Al, Ak, Dk, hl, hbl, z1, z2, z3, z4, z5, z6, z7, z8, hki, s0, ez, go_sem]
   by_cases s1 : e.ward ≤ 4;rotate_left
   · simp only [s0, s1, decide_true, decide_false, Bool.true_and, Bool.false_and, Bool.and_true, Bool.and_false, Bool.and_self] at ez;simp (disch := omega) only [Ag, Al, Ak, Dk, hl, hbl, z1, z2, z3, z4, z5, z6, z7, z8, hki, s0, s1, ez, go_sem]
   simp only [s0, s1, decide_true, decide_false, Bool.true_and, Bool.false_and, Bool.and_true, Bool.and_false, Bool.and_self] at ez;simp (disch := omega) only [Ag, Al, Ak, Dk, hl, hbl, z1, z2, z3, z4, z5, z6, z7, z8, hki, s0, s1, ez, go_sem]
 · rw [W8 hki] at ez;simp (disch := omega) only [Ag, Al, Ak, Dk, hl, hbl, z1, z2, z3, z4, z5, z6, z7, z8, hki, ez, go_sem]
theorem Ez {e : Evt} (h1 : Fm e) (h2 : Kb e) : A4 e = (Bu (Br e) && Ew e) := by simp [A4, h1, h2]
theorem I8 : Bo 0 0 = true := rfl
theorem Alu (l : List I7) (n : Int) (a : Vc) : Dm l n a = (E8 a l && decide ((l.length : Int) ≤ n)) := by unfold Dm; rw [Bool.and_comm]
theorem Atr (f : Int) (s : List UInt8) : (Cb f && (decide ((1 : Int) ≤ (s.length : Int)) && (Cb (s.length : Int) && Cb (f + (s.length : Int))))) = (Cb f && (!decide (s = []) && decide ((s.length : Int) ≤ 200 - f))) := by
 have e1 : decide ((1 : Int) ≤ (s.length : Int)) = !decide (s = []) := by
  cases s with
  | nil => rfl
  | cons a s => simp; omega
 rw [e1];unfold Cb;by_cases h1 : 0 ≤ f ∧ f ≤ 200
 · rw [decide_eq_true h1, Bool.true_and, Bool.true_and];congr 1;rw [← Bool.decide_and];exact decide_eq_decide.2 (by omega)
 · rw [decide_eq_false h1, Bool.false_and, Bool.false_and]
theorem Aje (s : List UInt8) : Cb (s.length : Int) = decide ((s.length : Int) ≤ 200) := decide_eq_decide.2 (by omega)
theorem Azx {e : Evt} (h : e.kind = 1) : Bu (Br e) = Ah e false true false false false false false := by simp [Bu, Br, Ah, h, I8, SlI.nil, Bool.and_assoc]
theorem Yb {e : Evt} (h1 : Fm e) (h2 : Kb e) (h : e.kind = 1) : A4 e = (Ah e false true false false false false false && (Bv e && (Cc e.name))) := by rw [Ez h1 h2, Azx h, Xg h]
theorem Azw {e : Evt} (h : e.kind = 2) : Bu (Br e) = Ah e false true false false false false false := by simp [Bu, Br, Ah, h, I8, SlI.nil, Bool.and_assoc]
theorem Ya {e : Evt} (h1 : Fm e) (h2 : Kb e) (h : e.kind = 2) : A4 e = (Ah e false true false false false false false && (Bv e && (Cc e.name))) := by rw [Ez h1 h2, Azw h, Xf h]
theorem Azv {e : Evt} (h : e.kind = 3) : Bu (Br e) = Ah e true false false true true true false := by simp [Bu, Br, Ah, h, I8, SlI.nil, Bool.and_assoc]
theorem X9 {e : Evt} (h1 : Fm e) (h2 : Kb e) (h : e.kind = 3) : A4 e = (Ah e true false false true true true false && (Cg e.dep e.orep e.oseq && (E8 e.dep e.base.l && (decide ((e.base.l.length : Int) ≤ 1) && (Cb e.off && (!decide (e.data = []) && (decide ((e.data.length : Int) ≤ 200 - e.off)))))))) := by rw [Ez h1 h2, Azv h, Xe h]; simp only [Alu, Atr, Bool.and_assoc]
theorem Azu {e : Evt} (h : e.kind = 4) : Bu (Br e) = Ah e true false false true true false false := by simp [Bu, Br, Ah, h, I8, SlI.nil, Bool.and_assoc]
theorem X8 {e : Evt} (h1 : Fm e) (h2 : Kb e) (h : e.kind = 4) : A4 e = (Ah e true false false true true false false && (Cg e.dep e.orep e.oseq && (E8 e.dep e.base.l && (decide ((e.base.l.length : Int) ≤ 1) && (Cb e.off))))) := by rw [Ez h1 h2, Azu h, Xd h]; simp only [Alu, Atr, Bool.and_assoc]
theorem Azt {e : Evt} (h : e.kind = 5) : Bu (Br e) = Ah e true false false true false true false := by simp [Bu, Br, Ah, h, I8, SlI.nil, Bool.and_assoc]
theorem X7 {e : Evt} (h1 : Fm e) (h2 : Kb e) (h : e.kind = 5) : A4 e = (Ah e true false false true false true false && (Cg e.dep e.orep e.oseq && (E8 e.dep e.base.l && (decide ((2 : Int) ≤ (e.base.l.length : Int)) && (decide ((e.base.l.length : Int) ≤ 8) && (decide ((e.data.length : Int) ≤ 200))))))) := by rw [Ez h1 h2, Azt h, Xc h]; simp only [Alu, Aje, Bool.and_assoc]; congr 3; cases decide ((e.base.l.length : Int) ≤ 8) <;> cases decide ((2 : Int) ≤ (e.base.l.length : Int)) <;> rfl
theorem Azs {e : Evt} (h : e.kind = 6) : Bu (Br e) = Ah e true false true false false false false := by simp [Bu, Br, Ah, h, I8, SlI.nil, Bool.and_assoc]
theorem X6 {e : Evt} (h1 : Fm e) (h2 : Kb e) (h : e.kind = 6) : A4 e = (Ah e true false true false false false false && (Cg e.dep e.orep e.oseq && (Dm e.gone.l 8 e.dep))) := by rw [Ez h1 h2, Azs h, Xb h]
theorem Azr {e : Evt} (h : e.kind = 7) : Bu (Br e) = Ah e true true true false false false false := by simp [Bu, Br, Ah, h, I8, SlI.nil, Bool.and_assoc]
theorem X5 {e : Evt} (h1 : Fm e) (h2 : Kb e) (h : e.kind = 7) : A4 e = (Ah e true true true false false false false && (Cg e.dep e.orep e.oseq && (Dm e.gone.l 8 e.dep && (Bv e && (Cc e.name))))) := by rw [Ez h1 h2, Azr h, Xa h]
theorem Azq {e : Evt} (h : e.kind = 8) : Bu (Br e) = Ah e false false false false false false true := by simp [Bu, Br, Ah, h, I8, SlI.nil, Bool.and_assoc]
theorem X4 {e : Evt} (h1 : Fm e) (h2 : Kb e) (h : e.kind = 8) : A4 e = (Ah e false false false false false false true && (decide (1 ≤ e.ward) && (decide (e.ward ≤ 4)))) := by rw [Ez h1 h2, Azq h, W9 h]
theorem Azp {e : Evt} (h : e.kind = 9) : Bu (Br e) = Ah e false false false false false false false := by simp [Bu, Br, Ah, h, I8, SlI.nil, Bool.and_assoc]
theorem X3 {e : Evt} (h1 : Fm e) (h2 : Kb e) (h : e.kind = 9) : A4 e = (Ah e false false false false false false false && (true)) := by rw [Ez h1 h2, Azp h, W8 h]
structure Good (e : Evt) : Prop where
 base : Fm e
 dep : Kb e
 obj : Jv (e.orep, e.oseq)
 dir : Jv (e.drep, e.dseq)
 gone : (∀ x ∈ e.gone.l, Jv x) ∧ e.gone.l.length ≤ 8
 basel : (∀ x ∈ e.base.l, Jv x) ∧ e.base.l.length ≤ 8
 name : e.name.length ≤ 12
 off : 0 ≤ e.off ∧ e.off ≤ 200
 data : e.data.length ≤ 200
 ward : 0 ≤ e.ward ∧ e.ward ≤ 4
theorem Nc {a : Vc} {r : Int} {q : Nat} (hd : ∀ i, i < 8 → a i ≤ 1048576) (h : Cg a r q = true) : Jv (r, q) := by
 have h := of_decide_eq_true h;unfold Kl at h;split at h
 · rename_i hr;have := hd (r - 1).toNat (by omega);exact ⟨by simp only; omega, by simp only; omega, by simp only; omega⟩
 · omega
theorem Fc {r : Int} {q : Nat} (h : Bo r q = true) : Jv (r, q) := by
 obtain ⟨rfl, rfl⟩ := of_decide_eq_true h;exact ⟨by decide, by decide, by decide⟩
theorem Aju {a : Vc} {l : List I7} (hd : ∀ i, i < 8 → a i ≤ 1048576) (h : E8 a l = true) : ∀ x ∈ l, Jv x := by
 have hr : Afl a l := by simpa [E8] using h
 intro x hx;obtain ⟨j, hj, rfl⟩ := List.getElem_of_mem hx;exact Nc hd (hr j hj).1
theorem En {l : List I7} (h : (l.length : Int) = 0) : (∀ x ∈ l, Jv x) ∧ l.length ≤ 8 := by
 have : l = [] := List.length_eq_zero_iff.1 (by omega);subst this; simp
theorem S9 {s : List UInt8} (h : Cc s = true) : s.length ≤ 12 := by
 unfold Cc at h;simp only [Bool.and_eq_true, decide_eq_true_eq] at h;exact h.1.2.1
theorem Rn {n : Int} (h : Cb n = true) : 0 ≤ n ∧ n ≤ 200 := of_decide_eq_true h
theorem Tp {a : Vc} {l : List I7} {n : Int} (hd : ∀ i, i < 8 → a i ≤ 1048576) (hn : n ≤ 8) (h : Dm l n a = true) : (∀ x ∈ l, Jv x) ∧ l.length ≤ 8 := by
 unfold Dm at h;simp only [Bool.and_eq_true, decide_eq_true_eq] at h;exact ⟨Aju hd h.2, by omega⟩
theorem Em {s : List UInt8} {n : Nat} (h : s = []) : s.length ≤ n := by subst h; simp
theorem Sx {e : Evt} (hd : ∀ i, i < 8 → e.dep i ≤ 1048576) (h : Bv e = true) : Jv (e.drep, e.dseq) := by
 unfold Bv at h;rcases Bool.or_eq_true_iff.1 h with h | h
 · exact Fc h
 · exact Nc hd h
theorem F8 {e : Evt} (h : A4 e = true) : Good e := by
 have hB : Fm e := Classical.byContradiction fun hn => by rw [C8 hn] at h; cases h
 have hD : Kb e := Classical.byContradiction fun hn => by rw [Pe hn] at h; cases h
 rw [Ez hB hD] at h;have hk : e.kind = 1 ∨ e.kind = 2 ∨ e.kind = 3 ∨ e.kind = 4 ∨ e.kind = 5 ∨ e.kind = 6 ∨ e.kind = 7 ∨ e.kind = 8 ∨ e.kind = 9 := by have := hB.2.2.2.2.2; omega
 have w0 : ∀ {n : Int}, n = 0 → 0 ≤ n ∧ n ≤ 4 := fun h => by omega
 have o0 : ∀ {n : Int}, n = 0 → 0 ≤ n ∧ n ≤ 200 := fun h => by omega
 rcases hk with k | k | k | k | k | k | k | k | k
 ·
  rw [Azx k, Xg k] at h;simp only [Ah, Bool.and_eq_true, Bool.or_eq_true, decide_eq_true_eq, true_or, false_or, true_and, Bool.false_eq_true, reduceCtorEq, and_true] at h;obtain ⟨⟨m1, m3, m4, m5, m6, m7⟩, k1, k2⟩ := h;exact ⟨hB, hD, Fc m1, Sx hD k1, En m3, En m4, S9 k2, o0 m5, Em m6, w0 m7⟩
 ·
  rw [Azw k, Xf k] at h;simp only [Ah, Bool.and_eq_true, Bool.or_eq_true, decide_eq_true_eq, true_or, false_or, true_and, Bool.false_eq_true, reduceCtorEq, and_true] at h;obtain ⟨⟨m1, m3, m4, m5, m6, m7⟩, k1, k2⟩ := h;exact ⟨hB, hD, Fc m1, Sx hD k1, En m3, En m4, S9 k2, o0 m5, Em m6, w0 m7⟩
 ·
  rw [Azv k, Xe k] at h;simp only [Ah, Bool.and_eq_true, Bool.or_eq_true, decide_eq_true_eq, true_or, false_or, true_and, Bool.false_eq_true, reduceCtorEq, and_true] at h;obtain ⟨⟨⟨m2, mn⟩, m3, m7⟩, k1, k2, k3, k4, k5, k6⟩ := h;exact ⟨hB, hD, Nc hD k1, Fc m2, En m3, Tp hD (by decide) k2, Em mn, Rn k3, by have := Rn k5; omega, w0 m7⟩
 ·
  rw [Azu k, Xd k] at h;simp only [Ah, Bool.and_eq_true, Bool.or_eq_true, decide_eq_true_eq, true_or, false_or, true_and, Bool.false_eq_true, reduceCtorEq, and_true] at h;obtain ⟨⟨⟨m2, mn⟩, m3, m6, m7⟩, k1, k2, k3⟩ := h;exact ⟨hB, hD, Nc hD k1, Fc m2, En m3, Tp hD (by decide) k2, Em mn, Rn k3, Em m6, w0 m7⟩
 ·
  rw [Azt k, Xc k] at h;simp only [Ah, Bool.and_eq_true, Bool.or_eq_true, decide_eq_true_eq, true_or, false_or, true_and, Bool.false_eq_true, reduceCtorEq, and_true] at h;obtain ⟨⟨⟨m2, mn⟩, m3, m5, m7⟩, k1, k2, k3, k4⟩ := h;exact ⟨hB, hD, Nc hD k1, Fc m2, En m3, Tp hD (by decide) k2, Em mn, o0 m5, by have := Rn k4; omega, w0 m7⟩
 ·
  rw [Azs k, Xb k] at h;simp only [Ah, Bool.and_eq_true, Bool.or_eq_true, decide_eq_true_eq, true_or, false_or, true_and, Bool.false_eq_true, reduceCtorEq, and_true] at h;obtain ⟨⟨⟨m2, mn⟩, m4, m5, m6, m7⟩, k1, k2⟩ := h;exact ⟨hB, hD, Nc hD k1, Fc m2, Tp hD (by decide) k2, En m4, Em mn, o0 m5, Em m6, w0 m7⟩
 ·
  rw [Azr k, Xa k] at h;simp only [Ah, Bool.and_eq_true, Bool.or_eq_true, decide_eq_true_eq, true_or, false_or, true_and, Bool.false_eq_true, reduceCtorEq, and_true] at h;obtain ⟨⟨m4, m5, m6, m7⟩, k1, k2, k3, k4⟩ := h;exact ⟨hB, hD, Nc hD k1, Sx hD k3, Tp hD (by decide) k2, En m4, S9 k4, o0 m5, Em m6, w0 m7⟩
 ·
  rw [Azq k, W9 k] at h;simp only [Ah, Bool.and_eq_true, Bool.or_eq_true, decide_eq_true_eq, true_or, false_or, true_and, Bool.false_eq_true, reduceCtorEq, and_true] at h;obtain ⟨⟨m1, ⟨m2, mn⟩, m3, m4, m5, m6⟩, k1, k2⟩ := h;exact ⟨hB, hD, Fc m1, Fc m2, En m3, En m4, Em mn, o0 m5, Em m6, by omega⟩
 ·
  rw [Azp k, W8 k] at h;simp only [Ah, Bool.and_eq_true, Bool.or_eq_true, decide_eq_true_eq, true_or, false_or, true_and, Bool.false_eq_true, reduceCtorEq, and_true] at h;obtain ⟨m1, ⟨m2, mn⟩, m3, m4, m5, m6, m7⟩ := h;exact ⟨hB, hD, Fc m1, Fc m2, En m3, En m4, Em mn, o0 m5, Em m6, w0 m7⟩
def A7 (e : Evt) : List (List UInt8) := [Bc e.rep.toNat, Bc e.seq, A6 e.dep (fun _ => 0), Bc e.kind.toNat, L5 (e.orep, e.oseq), L5 (e.drep, e.dseq), e.name, Ju e.gone.l, Ju e.base.l, Bc e.off.toNat, e.data, Bc e.ward.toNat]
def O8 (e : Evt) : List UInt8 := Cv (A7 e)
theorem Hm {n : Int} (h : 0 ≤ n ∧ n < 9223372036854775808) : IntKind.u64.wrap n = ((n.toNat : Nat) : Int) := by
 rw [G0 (by omega)]; omega
theorem K4 {n : Nat} (h : n < 18446744073709551616) : (Bc n).length ≤ 8 := C5 8 n (by omega)
theorem J1 {e : Evt} (g : Good e) : ∀ b ∈ A7 e, b.length ≤ 300 := by
 obtain ⟨b1, b2, b3, b4, b5, b6, b7⟩ := g.base;have h0 := K4 (n := e.rep.toNat) (by omega);have h1 := K4 (n := e.seq) (by omega);have h3 := K4 (n := e.kind.toNat) (by omega);have h9 := K4 (n := e.off.toNat) (by have := g.off; omega);have h11 := K4 (n := e.ward.toNat) (by have := g.ward; omega);have h4 := Gv _ g.obj;have h5 := Gv _ g.dir;have h7 := Ox g.gone.1;have h8 := Ox g.basel.1;have h7' := g.gone.2;have h8' := g.basel.2;have hn := g.name;have hd := g.data;have h2 : (A6 e.dep (fun _ => 0)).length ≤ 300 := by
  have := I5 e.dep (fun _ => 0) (fun i hi => by have := g.dep i hi; omega) (by simp) 8 (by omega);simp only [A6, List.length_cons]; omega
 intro b hb;simp only [A7, List.mem_cons, List.not_mem_nil, or_false] at hb;rcases hb with rfl | rfl | rfl | rfl | rfl | rfl | rfl | rfl | rfl | rfl | rfl | rfl <;> omega
theorem Hz {e : Evt} (g : Good e) : Bn (A7 e) ≤ 3636 := by
 have h := J1 g;have key : ∀ L : List (List UInt8), (∀ b ∈ L, b.length ≤ 300) → Bn L ≤ 303 * L.length := by
  intro L
  induction L with
  | nil => intro _; simp [Bn]
  | cons b L ih =>
    intro hb;have h1 := hb b List.mem_cons_self;have h2 := ih fun c hc => hb c (List.mem_cons_of_mem _ hc);simp only [Bn, List.length_cons]; omega
 have := key _ h;simpa [A7] using this
set_option maxHeartbeats 400000 in
theorem Aek (e : Evt) (he : ev e) (hc : A4 e = true) {h d} : FunOk Tryz.prog 19 [.vec 21 (B9 e)] h d (.tup [.os d, .pv (.i .i64 0)]) [.new d (.row 1 (Ad (O8 e)))] := by
 refine Tq Ao fn19 (by simp) rfl (.inr (Ka _)) rfl fun F => ?_;have g := F8 hc;obtain ⟨b1, b2, b3, b4, b5, b6, b7⟩ := g.base;have hdep := g.dep;have w0 := Hm (n := e.rep) (by omega);have w1 : IntKind.u64.wrap (e.seq : Int) = (e.seq : Int) := G0 (by omega);have w3 := Hm (n := e.kind) (by omega);have w9 := Hm (n := e.off) (by have := g.off; omega);have w11 := Hm (n := e.ward) (by have := g.ward; omega);obtain ⟨hg1, hg2, hg3, hg4, hg5⟩ := he;simp (disch := omega) only [ir19, go_sem];refine Aa (Aeq e ⟨hg1, hg2, hg3, hg4, hg5⟩) ?_;simp (disch := omega) only [hc, w0, w1, w3, w9, w11, go_sem];refine Aa (S5 e.rep.toNat (by omega)) ?_;simp (disch := omega) only [hc, w0, w1, w3, w9, w11, go_sem];refine Aa (S5 e.seq (by omega)) ?_;simp (disch := omega) only [hc, w0, w1, w3, w9, w11, Vy, go_sem];refine Aa (S3 e.dep (fun _ => 0) (fun i hi => by have := hdep i hi; omega) (by simp)) ?_;simp (disch := omega) only [hc, w0, w1, w3, w9, w11, go_sem];refine Aa (S5 e.kind.toNat (by omega)) ?_;simp (disch := omega) only [hc, w0, w1, w3, w9, w11, go_sem];refine Aa (Pv (e.orep, e.oseq) g.obj) ?_;simp (disch := omega) only [hc, w0, w1, w3, w9, w11, go_sem];refine Aa (Pv (e.drep, e.dseq) g.dir) ?_;simp (disch := omega) only [hc, w0, w1, w3, w9, w11, go_sem];refine Aa (M4 (l := e.gone.l) rfl rfl hg1 hg3 g.gone.1) ?_;simp (disch := omega) only [hc, w0, w1, w3, w9, w11, go_sem];refine Aa (M4 (l := e.base.l) rfl rfl hg2 hg4 g.basel.1) ?_;simp (disch := omega) only [hc, w0, w1, w3, w9, w11, go_sem];refine Aa (S5 e.off.toNat (by have := g.off; omega)) ?_;simp (disch := omega) only [hc, w0, w1, w3, w9, w11, go_sem];refine Aa (S5 e.ward.toNat (by have := g.ward; omega)) ?_;simp (disch := omega) only [hc, w0, w1, w3, w9, w11, go_sem];refine Aa (Acd (f := false) (z := 1) (es := (A7 e).map bE) (L := A7 e) rfl rfl (T3 _) (.inr rfl) (by have := Hz g; omega) (fun b hb => by have := J1 g b hb; omega)) ?_;have hW : O8 e = Cv (A7 e) := rfl;rw [hW];generalize Cv (A7 e) = W;generalize hR : (fun (y : SV) (g : Nat → Option Blk) => ∃ n, y = SV.tup [SV.os n, SV.pv (PV.i .i64 0)] ∧ g n = some (Blk.row 1 (Ad W))) = R;simp (disch := omega) only [go_sem];rw [← hR];exact ⟨52, rfl, rfl⟩
theorem Xp {x : I7} (h : Jv x) : St (L5 x) = x := by
 obtain ⟨h1, h2, h3⟩ := h;obtain ⟨r, q⟩ := x;simp only at h1 h2 h3;by_cases hz : r = 0 ∧ q = 0
 · obtain ⟨rfl, rfl⟩ := hz; rfl
 · have e : L5 (r, q) = UInt8.ofNat r.toNat :: Bc q := if_neg hz;rw [e];unfold St;have ea : Co (Bc q) = (q, 0) := Nm (by omega);rw [List.drop_succ_cons, List.drop_zero, ea, if_pos ⟨by simp, rfl, h3⟩];simp only [List.getD_cons_zero];rw [UInt8.toNat_ofNat'];exact Prod.ext (by simp only; omega) rfl
theorem G4 {n : Nat} (h : n ≤ 1073741824) : G5 (Bc n) = n := by
 unfold G5;rw [Nm (by omega), if_pos ⟨rfl, h⟩]
def V7 (l : List I7) (k : Nat) : FS := mk [(22, .pv (.i .i64 k)), (21, .pv (.i .i64 l.length)), (20, .os 14), (8, .os 40), (0, .pv (.sl false 1 (Ad (Ju l))))] [(40, some (.row 2 ((l.take k).map Hj))), (14, some (.row 1 ((l.map L5).map bE)))]
set_option maxHeartbeats 2000000 in
theorem Oj {l : List I7} (hn : l.length ≤ 8) (hok : ∀ y ∈ l, Jv y) {h d} :
 FunOk Tryz.prog 62 [.pv (.sl false 1 (Ad (Ju l))), .pv (.i .i64 8)] h d (.tup [.pv (.sl false 2 (l.map Hj)), .pv (.i .i64 0)]) [] := by
 refine I1 Ao fn62 (by simp) rfl rfl fun F => ?_;have hw := Ox hok;have hu : Cj (Ju l) [] 8 = (l.map L5, 0) := Mr (l.map L5) 8 (fun b hb => by
  obtain ⟨y, hy, rfl⟩ := List.mem_map.1 hb;have := Gv y (hok y hy); omega) (by simp; omega)
 simp (disch := omega) only [ir62, go_sem];refine Aa (Sz (f := false) (z := 1) (b := Ju l) (most := 8) (.inr rfl) (by omega)) ?_;rw [hu]
 (try simp only [Ek, Ej, Ei, Eh, Eg, Ef, Ee, Ed]); simp (disch := omega) only [go_sem]
 refine A2 Ao (V7 l) (fun k => k ≤ l.length) (fun k => l.length - k) 0 (by simp) (Abk 8 40 2 rfl (by omega) (Au ?_ ?_)) fun k hk => ?_
 · simp (disch := omega) only [go_sem]
 · simp (disch := omega) only [go_sem];rfl
 by_cases hlt : k < l.length
 · have he : ((l.map L5).map bE)[k]? = some (bE (L5 l[k])) := by simp [hlt]
   have ht : l.take (k + 1) = l.take k ++ [l[k]] := by rw [List.take_add_one, List.getElem?_eq_getElem hlt]; rfl
   have hm := hok l[k] (List.getElem_mem hlt);generalize l[k] = y at *;have hil := Gv y hm;have hib := Xp hm;have hkl : (l.take k).length ≤ 8 := by simp; omega
   simp (disch := omega) only [V7, he, bE, Ti, go_sem];refine Aa (S4 (f := false) (z := 1) (b := L5 y) (.inr rfl) (by omega)) ?_;simp (disch := omega) only [hib, go_sem];refine ⟨k + 1, by omega, by omega, Dt 30 40 (by decide) rfl (Au ?_ ?_)⟩
   · simp (disch := omega) only [go_sem]
   · simp (disch := omega) only [ht, List.map_append, List.map_cons, List.map_nil, Hj, bE, go_sem]
 · obtain rfl : k = l.length := by omega
   have e := List.take_length (l := l);have hself : decide (Ju l = Ju l) = true := by simp
   simp (disch := omega) only [V7, e, go_sem];refine Aa (M4 (f := false) (z := 2) (l := l) rfl rfl (.inr rfl) (by omega) hok) ?_;simp (disch := omega) only [go_sem];refine Aa (Aeo (f := false) (g := false) (y := 1) (z := 1) (a := Ju l) (b := Ju l) rfl rfl (.inr rfl) (.inr rfl) (by omega) (by omega)) ?_
   (try simp only [Ek, Ej, Ei, Eh, Eg, Ef, Ee, Ed]); simp (disch := omega) only [hself, go_sem]
   refine ⟨_, Sb 40 rfl (.same _), ?_⟩
   (try simp only [Ek, Ej, Ei, Eh, Eg, Ef, Ee, Ed]); simp (disch := omega) only [go_sem]
def Bt (e : Evt) : Evt := { e with gone := ⟨false, 2, e.gone.l⟩, base := ⟨false, 2, e.base.l⟩ }
theorem Q5 (e : Evt) : A4 (Bt e) = A4 e := by
 by_cases hB : Fm e
 · by_cases hD : Kb e
   · have hB' : Fm (Bt e) := hB;have hD' : Kb (Bt e) := hD;have hk : e.kind = 1 ∨ e.kind = 2 ∨ e.kind = 3 ∨ e.kind = 4 ∨ e.kind = 5 ∨ e.kind = 6 ∨ e.kind = 7 ∨ e.kind = 8 ∨ e.kind = 9 := by have := hB.2.2.2.2.2; omega
     rcases hk with k | k | k | k | k | k | k | k | k
     · rw [Yb hB hD k, Yb hB' hD' k]; rfl
     · rw [Ya hB hD k, Ya hB' hD' k]; rfl
     · rw [X9 hB hD k, X9 hB' hD' k]; rfl
     · rw [X8 hB hD k, X8 hB' hD' k]; rfl
     · rw [X7 hB hD k, X7 hB' hD' k]; rfl
     · rw [X6 hB hD k, X6 hB' hD' k]; rfl
     · rw [X5 hB hD k, X5 hB' hD' k]; rfl
     · rw [X4 hB hD k, X4 hB' hD' k]; rfl
     · rw [X3 hB hD k, X3 hB' hD' k]; rfl
   · rw [Pe hD, Pe (e := Bt e) hD]
 · rw [C8 hB, C8 (e := Bt e) hB]
def Sn (e : Evt) : List SV := [.pv (.i .i64 e.rep), .pv (.i .u32 e.seq), .vec 8 (vE e.dep), .pv (.i .i64 e.kind), .pv (.i .i64 e.orep), .pv (.i .u32 e.oseq), .pv (.i .i64 e.drep), .pv (.i .u32 e.dseq), .pv (.s e.name), .pv e.gone.pv, .pv e.base.pv, .pv (.i .i64 e.off), .pv (.s e.data), .pv (.i .i64 e.ward)]
theorem U0 (e : Evt) : SV.cellsL? (Sn e) = some (B9 e) := rfl
set_option maxHeartbeats 8000000 in
theorem Age (e : Evt) (hc : A4 e = true) (he : ev e) {h d} : FunOk Tryz.prog 28 [.pv (.sl false 1 (Ad (O8 e)))] h d (.tup [.agg (Sn (Bt e)), .pv (.i .i64 0)]) [] := by
 refine Aq Ao fn28 (by simp) rfl rfl fun F => ?_;have g := F8 hc;obtain ⟨b1, b2, b3, b4, b5, b6, b7⟩ := g.base;have hpk := Hz g;have hlen := Ft (A7 e);have hfl := J1 g;have hu : Cj (O8 e) [] 12 = (A7 e, 0) := Mr (A7 e) 12 (fun b hb => by have := hfl b hb; omega) (by simp [A7]);have hel : (O8 e).length ≤ 3636 := by unfold O8; omega
 have hl12 : ((A7 e).map bE).length = 12 := rfl;have f0 : ((A7 e).map bE)[0]? = some [.sl false 1 (Ad (Bc e.rep.toNat))] := rfl;have f1 : ((A7 e).map bE)[Int.toNat 1]? = some [.sl false 1 (Ad (Bc e.seq))] := rfl;have f2 : ((A7 e).map bE)[Int.toNat 2]? = some [.sl false 1 (Ad (A6 e.dep (fun _ => 0)))] := rfl;have f3 : ((A7 e).map bE)[Int.toNat 3]? = some [.sl false 1 (Ad (Bc e.kind.toNat))] := rfl;have f4 : ((A7 e).map bE)[Int.toNat 4]? = some [.sl false 1 (Ad (L5 (e.orep, e.oseq)))] := rfl;have f5 : ((A7 e).map bE)[Int.toNat 5]? = some [.sl false 1 (Ad (L5 (e.drep, e.dseq)))] := rfl;have f6 : ((A7 e).map bE)[Int.toNat 6]? = some [.sl false 1 (Ad e.name)] := rfl;have f7 : ((A7 e).map bE)[Int.toNat 7]? = some [.sl false 1 (Ad (Ju e.gone.l))] := rfl;have f8 : ((A7 e).map bE)[Int.toNat 8]? = some [.sl false 1 (Ad (Ju e.base.l))] := rfl;have f9 : ((A7 e).map bE)[Int.toNat 9]? = some [.sl false 1 (Ad (Bc e.off.toNat))] := rfl;have f10 : ((A7 e).map bE)[Int.toNat 10]? = some [.sl false 1 (Ad e.data)] := rfl;have f11 : ((A7 e).map bE)[Int.toNat 11]? = some [.sl false 1 (Ad (Bc e.ward.toNat))] := rfl;have q3 := hfl (Bc e.kind.toNat) (by simp [A7]);have q9 := hfl (Bc e.off.toNat) (by simp [A7]);have q11 := hfl (Bc e.ward.toNat) (by simp [A7]);have q0 := hfl (Bc e.rep.toNat) (by simp [A7]);have q1 := hfl (Bc e.seq) (by simp [A7]);have q4 := Gv _ g.obj;have q5 := Gv _ g.dir;have s3 : G5 (Bc e.kind.toNat) = e.kind := by rw [G4 (by omega)]; omega
 have s9 : G5 (Bc e.off.toNat) = e.off := by have := g.off; rw [G4 (by omega)]; omega
 have s11 : G5 (Bc e.ward.toNat) = e.ward := by have := g.ward; rw [G4 (by omega)]; omega
 have s0 : G5 (Bc e.rep.toNat) = e.rep := by rw [G4 (by omega)]; omega
 have s1 : G5 (Bc e.seq) = (e.seq : Int) := G4 (by omega);have i4 : St (L5 (e.orep, e.oseq)) = (e.orep, e.oseq) := Xp g.obj;have i5 : St (L5 (e.drep, e.dseq)) = (e.drep, e.dseq) := Xp g.dir;simp (disch := omega) only [ir28, go_sem];refine Aa (Sz (f := false) (z := 1) (b := O8 e) (most := 12) (.inr rfl) (by omega)) ?_;rw [hu];generalize hE : (A7 e).map bE = E at *
 (try simp only [Ek, Ej, Ei, Eh, Eg, Ef, Ee, Ed]); simp (disch := omega) only [hl12, f3, f4, f5, f6, f9, f10, f11, C6, go_sem]
 refine Aa (Oi (f := false) (z := 1) (b := Bc e.kind.toNat) (.inr rfl) (by omega)) ?_;simp (disch := omega) only [hl12, f3, f4, f5, f6, f9, f10, f11, C6, s3, go_sem];refine Aa (S4 (f := false) (z := 1) (b := L5 (e.orep, e.oseq)) (.inr rfl) (by omega)) ?_;simp (disch := omega) only [hl12, f3, f4, f5, f6, f9, f10, f11, C6, i4, go_sem];refine Aa (S4 (f := false) (z := 1) (b := L5 (e.drep, e.dseq)) (.inr rfl) (by omega)) ?_;simp (disch := omega) only [hl12, f3, f4, f5, f6, f9, f10, f11, C6, i5, go_sem];refine Aa (Oi (f := false) (z := 1) (b := Bc e.off.toNat) (.inr rfl) (by omega)) ?_;simp (disch := omega) only [hl12, f3, f4, f5, f6, f9, f10, f11, C6, s9, go_sem];refine Aa (Oi (f := false) (z := 1) (b := Bc e.ward.toNat) (.inr rfl) (by omega)) ?_;simp (disch := omega) only [hl12, f0, f1, f2, f7, f8, C6, s11, go_sem];refine Aa (Oi (f := false) (z := 1) (b := Bc e.rep.toNat) (.inr rfl) (by omega)) ?_;simp (disch := omega) only [hl12, f0, f1, f2, f7, f8, C6, s0, go_sem];refine Aa (Oi (f := false) (z := 1) (b := Bc e.seq) (.inr rfl) (by omega)) ?_;simp (disch := omega) only [hl12, f0, f1, f2, f7, f8, C6, s1, go_sem];have hmx : max (0 : Int) (e.seq : Int) = (e.seq : Int) := by omega
 have hgs := Jw e.dep (fun _ => 0) (fun i hi => by have := g.dep i hi; omega) (by simp);have hge : vE (Gt (A6 e.dep fun _ => 0) fun _ => 0).1 = vE e.dep := Po hgs.2;have hs2 := I5 e.dep (fun _ => 0) (fun i hi => by have := g.dep i hi; omega) (by simp) 8 (by omega);have hsl : (A6 e.dep (fun _ => 0)).length ≤ 42 := by simp only [A6, List.length_cons]; omega
 refine Aa (Acg (l := A6 e.dep fun _ => 0) (fun _ => 0) (by simp) (by omega) rfl rfl (.inr rfl)) ?_;rw [hge, hgs.1];simp (disch := omega) only [hl12, f7, f8, C6, hmx, go_sem];refine Aa (Oj g.gone.2 g.gone.1) ?_;simp (disch := omega) only [hl12, f7, f8, C6, hmx, go_sem];refine Aa (Oj g.basel.2 g.basel.1) ?_;simp (disch := omega) only [hmx, go_sem];have hev : ev (Bt e) := ⟨.inr rfl, .inr rfl, he.2.2.1, he.2.2.2.1, he.2.2.2.2⟩
 refine Aa ((Aek (Bt e) hev (by rw [Q5]; exact hc)).imp ⟨Ow (by rfl) (Ac (Bt e)), trivial⟩ (by simp [A3, tn])) ?_;have hcb : O8 (Bt e) = O8 e := rfl;rw [hcb];have hself : decide (O8 e = O8 e) = true := by simp
 simp (disch := omega) only [go_sem];refine Aa (Aeo (f := false) (g := false) (y := 1) (z := 1) (a := O8 e) (b := O8 e) rfl rfl (.inr rfl) (.inr rfl) (by omega) (by omega)) ?_
 (try simp only [Ek, Ej, Ei, Eh, Eg, Ef, Ee, Ed]); simp (disch := omega) only [hself, Sn, Bt, go_sem]
theorem Zo (b : List UInt8) (hb : b.length ≤ 65535) {h d} : FunOk Tryz.prog 67 [.pv (.s b)] h d (.tup [.pv (.s (Dg b)), .pv (.b true)]) [] := by
 refine Aq Ao fn67 (by simp) rfl rfl fun F => ?_;have w0 : IntKind.u8.wrap (b.length : Int) = ((UInt8.ofNat b.length).toNat : Int) := Bw _;by_cases hs : b.length < 255
 · have e := O7 hs;have e4 : [[PV.i .u8 ((UInt8.ofNat b.length).toNat : Int)]] = Ad [UInt8.ofNat b.length] := rfl;simp (disch := omega) only [ir67, w0, e4, e, List.cons_append, List.nil_append, go_sem]
 · have e := Q2 hs;have e1 : (b.length : Int).tdiv 256 = ((b.length / 256 : Nat) : Int) := by
    rw [Int.tdiv_eq_ediv_of_nonneg (by omega)]; omega
   have e1' : IntKind.i64.wrap ((b.length / 256 : Nat) : Int) = ((b.length / 256 : Nat) : Int) := Da (by omega);have e2 : (b.length : Int).tmod 256 = ((b.length % 256 : Nat) : Int) := by rw [Int.tmod_eq_emod_of_nonneg (by omega)]; omega
   have w1 : IntKind.u8.wrap ((b.length / 256 : Nat) : Int) = ((UInt8.ofNat (b.length / 256)).toNat : Int) := Bw _;have w2 : IntKind.u8.wrap ((b.length % 256 : Nat) : Int) = ((UInt8.ofNat b.length).toNat : Int) := by
    rw [Bw];congr 1;rw [UInt8.toNat_ofNat', UInt8.toNat_ofNat']; omega
   have e4 : [[PV.i .u8 255], [PV.i .u8 ((UInt8.ofNat (b.length / 256)).toNat : Int)], [PV.i .u8 ((UInt8.ofNat b.length).toNat : Int)]] = Ad [255, UInt8.ofNat (b.length / 256), UInt8.ofNat b.length] := rfl;simp (disch := omega) only [ir67, e1, e1', e2, w1, w2, e4, e, List.cons_append, List.nil_append, go_sem]
def sE (b : List UInt8) : List PV := [.s b]
theorem A1r (b : List UInt8) (K : KK) : LoadK (some (sE b)) 0 1 false K = K (.pv (.s b)) [] := by
 simp only [LoadK, Jq, eq_iff_iff];exact ⟨fun h => h.2.2, fun h => ⟨by simp [sE], .inr trivial, h⟩⟩
def V8 (L : List (List UInt8)) (k : Nat) : FS := mk [(5, .pv (.i .i64 k)), (4, .pv (.s (Cv (L.take k)))), (0, .pv (.sl false 1 (L.map sE)))] []
set_option maxHeartbeats 1000000 in
theorem Ael {x : SV} {L : List (List UInt8)} {h d} (hx : Di h [x] = [.pv (.sl false 1 (L.map sE))]) (hl : Be [x] = true) (hb : Bn L ≤ 300000) (hLn : L.length ≤ 300000) (hall : ∀ b ∈ L, b.length ≤ 65535) :
 FunOk Tryz.prog 32 [x] h d (.tup [.pv (.s (Cv L)), .pv (.i .i64 0)]) [] := by
 refine Dn Ao fn32 (by simp) hl rfl fun F => ?_;rw [hx];simp (disch := omega) only [ir32, List.length_map, go_sem];refine A2 Ao (V8 L) (fun k => k ≤ L.length) (fun k => L.length - k) 0 (by simp) (Au ?_ ?_) fun k hk => ?_
 · simp (disch := omega) only [List.take_zero, Cv, go_sem]
 · simp (disch := omega) only [go_sem]
 by_cases hlt : k < L.length
 · have he : (L.map sE)[k]? = some (sE L[k]) := by simp [hlt]
   have ht : L.take (k + 1) = L.take k ++ [L[k]] := by rw [List.take_add_one, List.getElem?_eq_getElem hlt]; rfl
   have hm := hall L[k] (List.getElem_mem hlt);have hpk := Nat.le_trans (Ft (L.take k)) (Jm L k);have hpl := Kx hlt;have hgd : L.getD k [] = L[k] := by rw [List.getD_eq_getElem?_getD, List.getElem?_eq_getElem hlt]; rfl
   rw [hgd] at hpl;generalize L[k] = b at *;have hpt : Cv (L.take k) ++ Dg b = Cv (L.take k ++ [b]) := by rw [Lu]; simp [Cv]
   have hfl := J4 b;have hfl2 : (Dg b).length ≤ 65538 := by rw [hfl]; split <;> omega
   simp (disch := omega) only [V8, he, A1r, List.length_map, go_sem];refine Aa (Zo b hm) ?_;simp (disch := omega) only [hpt, go_sem];refine Az (k + 1) _ _ rfl (by omega) (by omega) ?_ ?_
   · simp (disch := omega) only [ht, go_sem]
   · simp (disch := omega) only [go_sem]
 · obtain rfl : k = L.length := by omega
   have e := List.take_length (l := L);simp (disch := omega) only [V8, e, List.length_map, go_sem]
theorem Akk (x : I7) (hx : Jv x) {h d} : FunOk Tryz.prog 65 [.vec 2 [.i .i64 x.1, .i .u32 x.2]] h d (.pv (.s (L5 x))) [] := by
 refine Aq Ao fn65 (by simp) rfl rfl fun F => ?_;obtain ⟨h1, h2, h3⟩ := hx;have hl2 : ([PV.i .i64 x.1, PV.i .u32 x.2]).length = 2 := rfl;have hw := M7 hl2;simp (disch := omega) only [ir65, hw, go_sem];refine Aa (Ap _ _) ?_;by_cases hz : x.1 = 0 ∧ x.2 = 0
 · have e : L5 x = [] := if_pos hz;have ez : Bo x.1 x.2 = true := decide_eq_true hz;simp (disch := omega) only [ez, e, go_sem]
 · have e : L5 x = UInt8.ofNat x.1.toNat :: Bc x.2 := if_neg hz;have ez : Bo x.1 x.2 = false := decide_eq_false hz;have ew : IntKind.u8.wrap x.1 = ((UInt8.ofNat x.1.toNat).toNat : Int) := by
    obtain ⟨n, hn⟩ : ∃ n : Nat, x.1 = n := ⟨x.1.toNat, by omega⟩
    rw [hn, Int.toNat_natCast]; exact Bw n
   have e4 : [[PV.i .u8 ((UInt8.ofNat x.1.toNat).toNat : Int)]] = Ad [UInt8.ofNat x.1.toNat] := rfl;have e5 := C5 8 x.2 (by omega);simp (disch := omega) only [ez, Tk, Tj, ew, e4, go_sem];refine Aa (K2 x.2 (by omega)) ?_;simp (disch := omega) only [e, List.cons_append, List.nil_append, go_sem]
def Abs (f : Bool) (z : Nat) (l : List I7) (k : Nat) : FS := mk [(4, .pv (.i .i64 k)), (3, .pv (.s (Cv ((l.take k).map L5)))), (0, .pv (.sl f z (l.map Hj)))] []
set_option maxHeartbeats 1000000 in
theorem Akj {f : Bool} {z : Nat} {l : List I7} {h d} (hz : l = [] ∨ z = 2) (hn : l.length ≤ 1000) (hok : ∀ y ∈ l, Jv y) :
 FunOk Tryz.prog 66 [.pv (.sl f z (l.map Hj))] h d (.pv (.s (Ju l))) [] := by
 refine Aq Ao fn66 (by simp) rfl rfl fun F => ?_;simp (disch := omega) only [ir66, go_sem];refine A2 Ao (Abs f z l) (fun k => k ≤ l.length) (fun k => l.length - k) 0 (by simp) (Au ?_ ?_) fun k hk => ?_
 · simp (disch := omega) only [List.take_zero, List.map_nil, Cv, go_sem]
 · simp (disch := omega) only [go_sem]
 by_cases hlt : k < l.length
 · have hz2 : z = 2 := hz.resolve_left fun e => by subst e; simp at hlt
   subst hz2;have he : (l.map Hj)[k]? = some (Hj l[k]) := by simp [hlt]
   have ht : l.take (k + 1) = l.take k ++ [l[k]] := by rw [List.take_add_one, List.getElem?_eq_getElem hlt]; rfl
   have hm := hok l[k] (List.getElem_mem hlt);have hkl : (Ju (l.take k)).length ≤ 12 * (l.take k).length := Ox fun y hy => hok y (List.mem_of_mem_take hy);have hkk : (l.take k).length ≤ 1000 := by simp; omega
   generalize l[k] = y at *;have hil := Gv y hm;have hfl : (Dg (L5 y)).length ≤ 12 := by rw [J4]; split <;> omega
   have hpt : Cv ((l.take k).map L5) ++ Dg (L5 y) = Cv ((l.take k ++ [y]).map L5) := by rw [List.map_append, Lu]; simp [Cv]
   unfold Ju at hkl;simp (disch := omega) only [Abs, he, Er, go_sem];refine Aa (Akk y hm) ?_;simp (disch := omega) only [go_sem];refine Aa (Zo (L5 y) (by omega)) ?_;simp (disch := omega) only [hpt, go_sem];refine Az (k + 1) _ _ rfl (by omega) (by omega) ?_ ?_
   · simp (disch := omega) only [ht, go_sem]
   · simp (disch := omega) only [go_sem]
 · obtain rfl : k = l.length := by omega
   have e := List.take_length (l := l);simp (disch := omega) only [Abs, e, Ju, go_sem]
set_option maxHeartbeats 4000000 in
theorem Aka (e : Evt) (he : ev e) (g : Good e) {h d} : FunOk Tryz.prog 31 [.vec 21 (B9 e)] h d (.pv (.s (O8 e))) [] := by
 refine Aq Ao fn31 (by simp) rfl rfl fun F => ?_;obtain ⟨b1, b2, b3, b4, b5, b6, b7⟩ := g.base;have hdep := g.dep;have w0 := Hm (n := e.rep) (by omega);have w1 : IntKind.u64.wrap (e.seq : Int) = (e.seq : Int) := G0 (by omega);have w3 := Hm (n := e.kind) (by omega);have w9 := Hm (n := e.off) (by have := g.off; omega);have w11 := Hm (n := e.ward) (by have := g.ward; omega);obtain ⟨hg1, hg2, hg3, hg4, hg5⟩ := he;simp (disch := omega) only [ir31, w0, w1, w3, w9, w11, go_sem];refine Aa (K2 e.rep.toNat (by omega)) ?_;simp (disch := omega) only [w1, go_sem];refine Aa (K2 e.seq (by omega)) ?_;simp (disch := omega) only [Vy, go_sem];refine Aa (Pw e.dep (fun _ => 0) (fun i hi => by have := hdep i hi; omega) (by simp)) ?_;simp (disch := omega) only [w3, go_sem];refine Aa (K2 e.kind.toNat (by omega)) ?_;simp (disch := omega) only [go_sem];refine Aa (Akk (e.orep, e.oseq) g.obj) ?_;simp (disch := omega) only [go_sem];refine Aa (Akk (e.drep, e.dseq) g.dir) ?_;simp (disch := omega) only [go_sem];refine Aa (Akj (l := e.gone.l) hg1 hg3 g.gone.1) ?_;simp (disch := omega) only [go_sem];refine Aa (Akj (l := e.base.l) hg2 hg4 g.basel.1) ?_;simp (disch := omega) only [w9, go_sem];refine Aa (K2 e.off.toNat (by have := g.off; omega)) ?_;simp (disch := omega) only [w11, go_sem];refine Aa (K2 e.ward.toNat (by have := g.ward; omega)) ?_;simp (disch := omega) only [go_sem];refine Aa (Ael (L := A7 e) rfl rfl (by have := Hz g; omega) (by simp [A7]) (fun b hb => by have := J1 g b hb; omega)) ?_;simp (disch := omega) only [O8, go_sem]
abbrev Ajj : Sh := .st [Yz, .arr 8 (.int .u32), .int .i64, Yz, Yz, .str, .sl Yz, .sl Yz, .int .i64, .str, .int .i64]
theorem Azf {cs : List PV} (h : GC Ajj cs) : ∃ e : Evt, cs = B9 e ∧ (∀ i, i < 8 → e.dep i < 4294967296) ∧ e.gone.ok ∧ e.base.ok ∧ e.name.length ≤ maxLen ∧ e.data.length ≤ maxLen := by
 simp only [GC] at h;simp only [GCL] at h;obtain ⟨c0, r0, rfl, g0, c1, r1, rfl, g1, c2, r2, rfl, ⟨n2, rfl, w2⟩, c3, r3, rfl, g3, c4, r4, rfl, g4, c5, r5, rfl, ⟨s5, rfl, w5⟩, c6, r6, rfl, g6, c7, r7, rfl, g7, c8, r8, rfl, ⟨n8, rfl, w8⟩, c9, r9, rfl, ⟨s9, rfl, w9⟩, c10, r10, rfl, ⟨n10, rfl, w10⟩, rfl⟩ := h;obtain ⟨b0, rfl, hb0⟩ := Abc (by simp only [GC]; exact g0);obtain ⟨a, rfl, ha⟩ := Aok (by simp only [GC]; exact g1);obtain ⟨b3, rfl, hb3⟩ := Abc (by simp only [GC]; exact g3);obtain ⟨b4, rfl, hb4⟩ := Abc (by simp only [GC]; exact g4);obtain ⟨e6, rfl, l6, g6⟩ := Aol (s := Yz) (by simp only [GC]; exact g6);obtain ⟨e7, rfl, l7, g7⟩ := Aol (s := Yz) (by simp only [GC]; exact g7);obtain ⟨m6, rfl, _⟩ := X1 (f := Hj) Abc g6;obtain ⟨m7, rfl, _⟩ := X1 (f := Hj) Abc g7;exact ⟨⟨b0.1, b0.2, a, n2, b3.1, b3.2, b4.1, b4.2, s5, ⟨false, 2, m6⟩, ⟨false, 2, m7⟩, n8, s9, n10⟩, by simp [B9, Hj, SlI.pv]; rfl, ha, .inr rfl, .inr rfl, w5, w9⟩
theorem Aw3 (n : Nat) (e : Evt) : SV.killL n (Sn e) = Sn e := rfl
theorem At2 (e : Evt) : SV.widthL (Sn e) = 21 := rfl
theorem Ar6 (e : Evt) : SV.flatBL (Sn e) = true := rfl
theorem Ar2 (n : Nat) (v : PV) (e : Evt) : SV.frzL n v (Sn e) = Sn e := rfl
attribute [go_sem] Aw3 At2 Ar6 Ar2
theorem Af1 (e : Evt) : Cm e (Bt e) = true := by
 simp [Cm, Bt, vEq]
theorem Am7 {e : Evt} (h : ev e) : ev (Bt e) := ⟨.inr rfl, .inr rfl, h.2.2.1, h.2.2.2.1, h.2.2.2.2⟩
end Go.Proofs.YtpgnmmmcomhdcaaGreat.Fw
