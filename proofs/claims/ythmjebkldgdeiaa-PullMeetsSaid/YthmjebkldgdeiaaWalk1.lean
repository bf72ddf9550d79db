/- What the functions compute that the laws of this seat reach. -/
import Derived.Test.YthmjebkldgdeiaaIr
import Derived.OpenShut
import Derived.ShutString
import Derived.ChangeOld
import Derived.SizedLaws
import Derived.ChangeOld
import Derived.Lib.Bytealg
import Derived.Lib.Overlaps
import Derived.OpenShut
import Derived.ShutString
import Derived.SizedLaws
set_option linter.unusedVariables false
set_option linter.unusedSimpArgs false
set_option linter.unusedSectionVars false
set_option maxRecDepth 100000
namespace Go.Proofs.Ythmjebkldgdeiaa.Fw
open Go.RowKit Go.Proofs
def Dn (a b : Vc) : Vc := fun i => max (a i) (b i)
def Mr (a b : Vc) : Prop := ∀ i, i < 8 → a i ≤ b i
instance (a b : Vc) : Decidable (Mr a b) := inferInstanceAs (Decidable (∀ i, i < 8 → a i ≤ b i))
def Adp (a b : Vc) (k : Nat) : FS := mk [(8, .pv (.i .i64 k)), (7, .vec 8 (vE b)), (4, .p 4 0), (2, .p 2 0)] [(2, some (.var (.vec 8 (vE fun i => if i < k then Dn a b i else a i)))), (4, some (.var (.vec 8 (vE fun _ => 0))))]
theorem Aec (a b : Vc) {h d} : FunOk Try.prog 57 [.vec 8 (vE a), .vec 8 (vE b)] h d (.vec 8 (vE (Dn a b))) [] := by
 refine Ax An fn57 (by simp) rfl rfl fun F => ?_;simp (disch := omega) only [ir57, go_sem];refine Bc An (Adp a b) (fun k => k ≤ 8) (fun k => 8 - k) 0 (by simp) (A2 ?_ ?_) fun k hk => ?_
 · simp (disch := omega) only [go_sem]
 · simp (disch := omega) only [As2, go_sem]
 by_cases hlt : k < 8
 · simp (disch := omega) only [Adp, go_sem];refine Av (k + 1) _ _ rfl (by omega) (by omega) ?_ ?_
   · simp (disch := omega) only [go_sem]
   · simp (disch := omega) only [go_sem];exact Ahf (Ade _ _ _ (by simp [Dn]))
 · simp (disch := omega) only [Adp, Ayd, go_sem]
end Go.Proofs.Ythmjebkldgdeiaa.Fw
namespace Go.Proofs.Ythmjebkldgdeiaa.Fw
open Go.RowKit
noncomputable abbrev Li (w : World) : View := Ap w fun _ => False
theorem X6 {w : World} {a : Addr} {v : Value} (h : w.cell? a = some v) : a.spot = none ∧ ∃ arr, Li w a.block = some arr ∧ arr[a.off]? = some v := by
 unfold World.cell? at h;split at h
 · rename_i c ty fr hb;split at h
   · cases h
   · rename_i hs;refine ⟨by cases hx : a.spot <;> simp_all, c, ?_, h⟩;unfold Li Ap D0;simp [hb]
 · cases h
inductive Sh where
 | int (k : IntKind) | bool | str | arr (n : Nat) (s : Sh) | st (l : List Sh) | sl (s : Sh)
mutual
def Sh.w : Sh → Nat
 | .arr n s => n * s.w
 | .st l => Sh.wL l
 | _ => 1
def Sh.wL : List Sh → Nat
 | [] => 0
 | s :: l => s.w + Sh.wL l
end
mutual
def shB (P : Program) : Sh → TypeId → Bool
 | .int k, t => match P.underlying t with | some (.int k') => decide (k = k') | _ => false
 | .bool, t => match P.underlying t with | some .bool => true | _ => false
 | .str, t => match P.underlying t with | some .string => true | _ => false
 | .arr n s, t => match P.underlying t with | some (.array n' e) => decide (n = n') && decide (P.cellsOf e = s.w) && decide (P.cellsOf t = n * s.w) && shB P s e | _ => false
 | .st l, t => match P.underlying t with | some (.struct fs) => decide (P.cellsOf t = Sh.wL l) && Anc P l fs.toList 0 | _ => false
 | .sl s, t => match P.underlying t with | some (.slice e) => decide (P.cellsOf e = s.w) && decide (0 < s.w) && shB P s e | _ => false
def Anc (P : Program) : List Sh → List Field → Nat → Bool
 | [], [], _ => true
 | s :: l, f :: fs, off => decide (f.offset = off) && decide (P.cellsOf f.type = s.w) && shB P s f.type && Anc P l fs (off + s.w)
 | _, _, _ => false
end
mutual
def GC : Sh → List PV → Prop
 | .int k, cs => ∃ n, cs = [.i k n] ∧ (Lit.int k n).wf = true
 | .bool, cs => ∃ b, cs = [.b b]
 | .str, cs => ∃ l, cs = [.s l] ∧ l.length ≤ maxLen
 | .arr n s, cs => ∃ cc : List (List PV), cs = cc.flatten ∧ cc.length = n ∧ ∀ c ∈ cc, GC s c
 | .st l, cs => GCL l cs
 | .sl s, cs => ∃ es, cs = [.sl false s.w es] ∧ es.length ≤ maxLen ∧ ∀ c ∈ es, GC s c
def GCL : List Sh → List PV → Prop
 | [], cs => cs = []
 | s :: l, cs => ∃ c cs', cs = c ++ cs' ∧ GC s c ∧ GCL l cs'
end
theorem Acb {w : Nat} : ∀ {cc : List (List PV)}, (∀ c ∈ cc, c.length = w) → cc.flatten.length = cc.length * w
 | [], _ => by simp
 | c :: cc, h => by
   rw [List.flatten_cons, List.length_append, Acb fun c hc => h c (by simp [hc]), h c (by simp), List.length_cons, Nat.add_mul]; omega
mutual
theorem GC.len : ∀ {s : Sh} {cs : List PV}, GC s cs → cs.length = s.w
 | .int k, cs, h => by obtain ⟨n, rfl, _⟩ := h; rfl
 | .bool, cs, h => by obtain ⟨n, rfl⟩ := h; rfl
 | .str, cs, h => by obtain ⟨n, rfl, _⟩ := h; rfl
 | .arr n s, cs, h => by
   simp only [GC] at h;obtain ⟨cc, rfl, rfl, h⟩ := h;rw [Acb fun c hc => GC.len (h c hc)]; rfl
 | .st l, cs, h => by simp only [GC] at h; simp only [Sh.w]; exact GCL.len h
 | .sl s, cs, h => by obtain ⟨n, rfl, _⟩ := h; rfl
theorem GCL.len : ∀ {l : List Sh} {cs : List PV}, GCL l cs → cs.length = Sh.wL l
 | [], cs, h => by simp only [GCL] at h; subst h; rfl
 | s :: l, cs, h => by
   simp only [GCL] at h;obtain ⟨c, cs', rfl, h1, h2⟩ := h;rw [List.length_append, GC.len h1, GCL.len h2]; rfl
end
theorem Ar1 {V : View} {s : Sh} : ∀ (n : Nat) (vs : List Value), vs.length = n * s.w → (∀ i, i < n → ∃ c, GC s c ∧ PCells V c ((vs.drop (i * s.w)).take s.w)) → ∃ cc : List (List PV), cc.length = n ∧ (∀ c ∈ cc, GC s c) ∧ PCells V cc.flatten vs
 | 0, vs, hl, h => by
   have : vs = [] := List.eq_nil_of_length_eq_zero (by omega);subst this;exact ⟨[], rfl, by simp, PCells.nil⟩
 | n + 1, vs, hl, h => by
   rw [Nat.add_mul] at hl;obtain ⟨c, g, p⟩ := h 0 (by omega);rw [Nat.zero_mul, List.drop_zero] at p;obtain ⟨cc, e1, e2, e3⟩ := Ar1 (V := V) (s := s) n (vs.drop s.w) (by rw [List.length_drop]; omega) fun i hi => by
    obtain ⟨c', g', p'⟩ := h (i + 1) (by omega);refine ⟨c', g', ?_⟩;rw [List.drop_drop, show s.w + i * s.w = (i + 1) * s.w from by rw [Nat.add_mul]; omega];exact p'
   refine ⟨c :: cc, by simp [e1], fun x hx => ?_, ?_⟩
   · rcases List.mem_cons.1 hx with rfl | hx
     · exact g
     · exact e2 x hx
   · rw [List.flatten_cons];have := PCells.append p e3
     rwa [List.take_append_drop] at this
theorem Axj {a : Addr} (h : a.spot = none) (i j : Nat) : (a.add i).add j = ⟨a.block, a.off + (i + j), none⟩ := by
 obtain ⟨b, o, sp⟩ := a;simp only at h; subst h;unfold Addr.add;by_cases hi : i = 0
 · subst hi;by_cases hj : j = 0
   · subst hj; simp
   · simp [hj]
 · by_cases hj : j = 0
   · subst hj; simp [hi]
   · simp [hi, hj]; omega
theorem Am7 {w : World} {s : Sh} {a : Addr} {len cap : Nat} (hcap : len ≤ cap) (hw : 0 < s.w)
 (h : ∀ i, i < len → ∃ c vs, GC s c ∧ PCells (Li w) c vs ∧ w.cells? 0 (a.add (i * s.w)) s.w = some vs) :
 ∃ es : List (List PV), es.length = len ∧ (∀ c ∈ es, GC s c) ∧ PConc (Li w) (.sl false s.w es) (.slice (some a) len cap) := by
 by_cases h0 : len = 0
 · subst h0;exact ⟨[], rfl, by simp, .sl false s.w [] (some a) cap (fun _ _ => undef) 0 0 #[] (by simp) (by simp) (by simp) (by simp) (by simp) (by simp)⟩
 · have h' : ∀ i, ∃ c vs, i < len → GC s c ∧ PCells (Li w) c vs ∧ w.cells? 0 (a.add (i * s.w)) s.w = some vs := fun i => by
    by_cases hi : i < len
    · obtain ⟨c, vs, h1⟩ := h i hi; exact ⟨c, vs, fun _ => h1⟩
    · exact ⟨[], [], fun h => absurd h hi⟩
   obtain ⟨c, hc⟩ := Classical.axiomOfChoice h';obtain ⟨vs, hv⟩ := Classical.axiomOfChoice hc;obtain ⟨g0, p0, k0⟩ := hv 0 (by omega);obtain ⟨_, l0, c0⟩ := World.cells?_some k0;have c00 := c0 0 hw;have hlen0 : 0 < (vs 0).length := by omega
   rw [List.getElem?_eq_getElem hlen0, Nat.zero_mul] at c00;have e0 : (a.add 0).add 0 = a := by simp [Addr.add]
   rw [e0] at c00;obtain ⟨hs, arr, harr, _⟩ := X6 c00;have hget : ∀ i j, i < len → j < s.w → arr[a.off + (i * s.w + j)]? = (vs i)[j]? := fun i j hi hj => by
    obtain ⟨_, _, k⟩ := hv i hi;obtain ⟨_, ll, cc⟩ := World.cells?_some k;have h1 := cc j hj;have hlt : j < (vs i).length := by omega
    rw [List.getElem?_eq_getElem hlt, Axj hs] at h1;obtain ⟨_, arr', ha', h2⟩ := X6 h1;simp only at ha' h2;rw [harr] at ha'; cases ha';rw [h2, List.getElem?_eq_getElem hlt]
   have hel : ∀ i, i < len → ((List.range len).map c)[i]? = some (c i) := fun i hi => by simp [hi]
   refine ⟨(List.range len).map c, by simp, fun x hx => ?_, ?_⟩
   · obtain ⟨i, hi, rfl⟩ := List.mem_map.1 hx;exact (hv i (by simpa using hi)).1
   · have e := PConc.sl (V := Li w) false s.w ((List.range len).map c) (some a) cap (fun i j => (vs i).getD j undef) a.block a.off arr (by simpa using hcap) (by simp) (fun x hx => by
      obtain ⟨i, hi, rfl⟩ := List.mem_map.1 hx;exact (hv i (by simpa using hi)).1.len) (fun _ => by
      obtain ⟨b, o, sp⟩ := a;simp only at hs; subst hs;exact ⟨rfl, harr⟩) (fun i j hi hj => by
      have hi' : i < len := by simpa using hi
      rw [hget i j hi' hj];have : j < (vs i).length := by
       obtain ⟨_, ll, _⟩ := World.cells?_some (hv i hi').2.2; omega
      simp [List.getD_eq_getElem?_getD, this]) (fun i j x y hx hy => by
      have hi' : i < len := by
       have := (List.getElem?_eq_some_iff.1 hx).1; simpa using this
      rw [hel i hi'] at hx; cases hx;obtain ⟨v, hv1, hv2⟩ := (hv i hi').2.1.2 j y hy;simp only [List.getD_eq_getElem?_getD, hv1, Option.getD_some]; exact hv2)
     simpa using e
section
variable {H : Type} {enc : TypeId × Value → H} {P : Program} {w : World} {spare : Nat → Bool} {held : Bool}
mutual
theorem Ss : ∀ (s : Sh) {t : TypeId} {fuel : Nat} {vs : List Value} {x}, shB P s t = true → DataW.trod enc P w 0 spare held fuel t vs = some x → ∃ cs, GC s cs ∧ PCells (Li w) cs vs
 | .int k, t, fuel, vs, x, hs, h => by
   simp only [shB] at hs;split at hs
   · rename_i k' hu;obtain rfl := of_decide_eq_true hs;obtain ⟨n, rfl, _, hw⟩ := DataW.trod_int hu h;exact ⟨[.i k n], ⟨n, rfl, hw⟩, PCells.cons (.i _ _) PCells.nil⟩
   · cases hs
 | .bool, t, fuel, vs, x, hs, h => by
   simp only [shB] at hs;split at hs
   · rename_i hu;obtain ⟨n, rfl, _⟩ := DataW.trod_bool hu h;exact ⟨[.b n], ⟨n, rfl⟩, PCells.cons (.b _) PCells.nil⟩
   · cases hs
 | .str, t, fuel, vs, x, hs, h => by
   simp only [shB] at hs;split at hs
   · rename_i hu;obtain ⟨b, rfl, _, hl⟩ := DataW.trod_string hu h;refine ⟨[.s b.data.toList], ⟨b.data.toList, rfl, by simpa using hl⟩, PCells.cons ?_ PCells.nil⟩;have := PConc.s (V := Li w) b.data.toList;simpa using this
   · cases hs
 | .arr n s, t, fuel, vs, x, hs, h => by
   simp only [shB] at hs;split at hs
   · rename_i n' e hu;simp only [Bool.and_eq_true, decide_eq_true_eq] at hs;obtain ⟨⟨⟨rfl, h1⟩, h2⟩, h3⟩ := hs;obtain ⟨xs, m, rfl, _, hl, hx, hg⟩ := DataW.trod_array hu h;rw [h1] at hg;obtain ⟨cc, e1, e2, e3⟩ := Ar1 (V := Li w) (s := s) n vs (by rw [hl, h2]) fun i hi => by
      have := hg i hi;rw [List.getElem?_eq_getElem (by omega)] at this;exact Ss s h3 this
     exact ⟨cc.flatten, by simp only [GC]; exact ⟨cc, rfl, e1, e2⟩, e3⟩
   · cases hs
 | .st l, t, fuel, vs, x, hs, h => by
   simp only [shB] at hs;split at hs
   · rename_i fs hu;simp only [Bool.and_eq_true, decide_eq_true_eq] at hs;obtain ⟨h2, h3⟩ := hs;obtain ⟨xs, m, rfl, _, hl, hx, hg⟩ := DataW.trod_struct hu h;obtain ⟨cs, e1, e2⟩ := Aai l (off := 0) (vs := vs) h3 fun f hf => by
      obtain ⟨i, hi⟩ := List.mem_iff_getElem?.1 hf;have hi2 : fs[i]? = some f := by simpa using hi
      have := hg i f hi2;have hlt := (Array.getElem?_eq_some_iff.1 hi2).1;rw [List.getElem?_eq_getElem (by omega)] at this;exact ⟨_, _, this⟩
     rw [List.drop_zero, ← h2, ← hl, List.take_length] at e2;exact ⟨cs, by simp only [GC]; exact e1, e2⟩
   · cases hs
 | .sl s, t, fuel, vs, x, hs, h => by
   simp only [shB] at hs;split at hs
   · rename_i e hu;simp only [Bool.and_eq_true, decide_eq_true_eq] at hs;obtain ⟨⟨h1, h2⟩, h3⟩ := hs;rcases DataW.trod_slice hu h with ⟨rfl, _⟩ | ⟨a, len, cap, Cn, rest, n, rfl, rfl, _, _, hl, hm, hle, hg, _⟩
     · exact ⟨[.sl false s.w []], by simp only [GC]; exact ⟨[], rfl, by simp, by simp⟩, PCells.cons (.sl false s.w [] none 0 (fun _ _ => undef) 0 0 #[] (by simp) (by simp) (by simp) (by simp) (by simp) (by simp)) PCells.nil⟩
     · rw [h1] at hg;obtain ⟨es, e1, e2, e3⟩ := Am7 (w := w) (s := s) (a := a) hl h2 fun i hi => by
        have h4 := hg i hi;rw [List.getElem?_eq_getElem (by omega)] at h4;obtain ⟨vs, h5, h6⟩ := Option.bind_eq_some_iff.1 h4;obtain ⟨c, g, p⟩ := Ss s h3 h6;exact ⟨c, vs, g, p, h5⟩
       exact ⟨[.sl false s.w es], by simp only [GC]; exact ⟨es, rfl, by omega, e2⟩, PCells.cons e3 PCells.nil⟩
   · cases hs
theorem Aai : ∀ (l : List Sh) {fs : List Field} {off : Nat} {vs : List Value}, Anc P l fs off = true →
 (∀ f ∈ fs, ∃ n x, DataW.trod enc P w 0 spare held n f.type ((vs.drop f.offset).take (P.cellsOf f.type)) = some x) → ∃ cs, GCL l cs ∧ PCells (Li w) cs ((vs.drop off).take (Sh.wL l))
 | [], fs, off, vs, hs, h => ⟨[], by simp only [GCL], by simp only [Sh.wL, List.take_zero]; exact PCells.nil⟩
 | s :: l, [], off, vs, hs, h => by simp [Anc] at hs
 | s :: l, f :: fs, off, vs, hs, h => by
   simp only [Anc, Bool.and_eq_true, decide_eq_true_eq] at hs;obtain ⟨⟨⟨h1, h2⟩, h3⟩, h4⟩ := hs;obtain ⟨n, x, hx⟩ := h f (by simp);obtain ⟨c, g, p⟩ := Ss s h3 hx;obtain ⟨cs, gl, pl⟩ := Aai l (vs := vs) h4 fun f hf => h f (by simp [hf]);refine ⟨c ++ cs, by simp only [GCL]; exact ⟨c, cs, rfl, g, gl⟩, ?_⟩;rw [h1, h2] at p;have := PCells.append p pl;have e : (vs.drop off).take (Sh.wL (s :: l)) = (vs.drop off).take s.w ++ (vs.drop (off + s.w)).take (Sh.wL l) := by
    simp only [Sh.wL];rw [List.take_add, List.drop_drop]
   rw [e]; exact this
end
end
mutual
def Hd : Sh → List PV → SV
 | .arr n s, cs => .vec (n * s.w) cs
 | .st l, cs => .agg (Nv l cs)
 | _, cs => .pv (cs.headD (.b false))
def Nv : List Sh → List PV → List SV
 | [], _ => []
 | s :: l, cs => (Hd s (cs.take s.w)).segs ++ Nv l (cs.drop s.w)
end
def Sh.isAg : Sh → Bool
 | .arr _ _ => true
 | .st _ => true
 | _ => false
theorem P3 {V : View} {ρ : Nat → Value} : ∀ {l m : List SV} {a b : List Value}, Cells V ρ l a → Cells V ρ m b → Cells V ρ (l ++ m) (a ++ b)
 | [], m, a, b, h1, h2 => by simp only [Cells] at h1; subst h1; exact h2
 | x :: l, m, a, b, h1, h2 => by
   simp only [Cells, List.cons_append] at h1 ⊢;obtain ⟨u, us, rfl, c, d, e, f⟩ := h1;exact ⟨u, us ++ b, by simp, c, d, e, P3 f h2⟩
mutual
theorem X5 {V : View} {ρ : Nat → Value} : ∀ (s : Sh) {cs : List PV} {v : Value}, GC s cs → PCells V cs (Ao v) → (s.isAg = true → ∃ vs, v = .agg ⟨vs⟩) → (s.isAg = false → ∀ vs, v ≠ .agg vs) → Conc V ρ (Hd s cs) v
 | .int k, cs, v, g, p, _, h => by
   obtain ⟨n, rfl, _⟩ := g;have e : Ao v = [v] := by cases v <;> first | rfl | exact absurd rfl (h rfl _)
   rw [e] at p;obtain ⟨v', h1, h2⟩ := p.2 0 _ rfl;simp at h1; subst h1;simp only [Hd, Conc, List.headD_cons]; exact h2
 | .bool, cs, v, g, p, _, h => by
   obtain ⟨n, rfl⟩ := g;have e : Ao v = [v] := by cases v <;> first | rfl | exact absurd rfl (h rfl _)
   rw [e] at p;obtain ⟨v', h1, h2⟩ := p.2 0 _ rfl;simp at h1; subst h1;simp only [Hd, Conc, List.headD_cons]; exact h2
 | .str, cs, v, g, p, _, h => by
   obtain ⟨n, rfl, _⟩ := g;have e : Ao v = [v] := by cases v <;> first | rfl | exact absurd rfl (h rfl _)
   rw [e] at p;obtain ⟨v', h1, h2⟩ := p.2 0 _ rfl;simp at h1; subst h1;simp only [Hd, Conc, List.headD_cons]; exact h2
 | .sl s, cs, v, g, p, _, h => by
   simp only [GC] at g;obtain ⟨n, rfl, _⟩ := g;have e : Ao v = [v] := by cases v <;> first | rfl | exact absurd rfl (h rfl _)
   rw [e] at p;obtain ⟨v', h1, h2⟩ := p.2 0 _ rfl;simp at h1; subst h1;simp only [Hd, Conc, List.headD_cons]; exact h2
 | .arr n s, cs, v, g, p, h, _ => by
   obtain ⟨vs, rfl⟩ := h rfl;have hl := g.len;simp only [Hd, Conc];refine ⟨vs, rfl, ?_, p⟩;have e1 : vs.length = cs.length := p.1.symm;rw [e1, hl]; rfl
 | .st l, cs, v, g, p, h, _ => by
   obtain ⟨vs, rfl⟩ := h rfl;simp only [GC] at g;simp only [Hd, Conc];exact ⟨vs, rfl, Md l g p⟩
theorem Md {V : View} {ρ : Nat → Value} : ∀ (l : List Sh) {cs : List PV} {vs : List Value}, GCL l cs → PCells V cs vs → Cells V ρ (Nv l cs) vs
 | [], cs, vs, g, p => by
   simp only [GCL] at g; subst g;have : vs = [] := List.eq_nil_of_length_eq_zero (by rw [← p.1]; rfl);subst this;simp only [Nv, Cells]
 | s :: l, cs, vs, g, p => by
   simp only [GCL] at g;obtain ⟨c, cs', rfl, g1, g2⟩ := g;have hl := g1.len;have p1 : PCells V c (vs.take c.length) := by
    have := p.split c.length |>.1;simpa using this
   have p2 : PCells V cs' (vs.drop c.length) := by
    have := p.split c.length |>.2;simpa using this
   have hvs : vs = vs.take c.length ++ vs.drop c.length := (List.take_append_drop _ _).symm;have hlen : (vs.take c.length).length = s.w := by rw [← p1.1, hl]
   simp only [Nv];rw [List.take_left' hl, List.drop_left' hl];rw [hvs];refine P3 ?_ (Md l g2 p2);cases s with
   | st m =>
     simp only [GC] at g1;simp only [Hd, SV.segs];exact Md m g1 p1
   | arr n s' =>
     have := X5 (V := V) (ρ := ρ) (.arr n s') (v := .agg ⟨vs.take c.length⟩) g1 (by simpa [Ao] using p1) (fun _ => ⟨_, rfl⟩) (by simp [Sh.isAg]);simp only [Hd] at this ⊢;simp only [SV.segs, Cells];exact ⟨_, [], by simp [Ao], this, by simpa [Ao, SV.width, Sh.w] using hlen, fun v hv => p1.one v (by simpa [Ao] using hv), rfl⟩
   | int k =>
     obtain ⟨n, rfl, _⟩ := g1;obtain ⟨v, h1, h2⟩ := p1.2 0 _ rfl;have e : vs.take [PV.i k n].length = [v] := by
      match hx : vs.take [PV.i k n].length, h1, hlen with
      | [u], h1, _ => simp at h1; rw [h1]
     have ho := h2.one;have fv : Ao v = [v] := by cases v <;> first | rfl | exact absurd ho (by simp [Ay])
     rw [e];simp only [Hd, SV.segs, Cells, Conc, List.headD_cons];exact ⟨v, [], by rw [fv]; rfl, h2, by rw [fv]; rfl, by rw [fv]; simpa using ho, rfl⟩
   | bool =>
     obtain ⟨n, rfl⟩ := g1;obtain ⟨v, h1, h2⟩ := p1.2 0 _ rfl;have e : vs.take [PV.b n].length = [v] := by
      match hx : vs.take [PV.b n].length, h1, hlen with
      | [u], h1, _ => simp at h1; rw [h1]
     have ho := h2.one;have fv : Ao v = [v] := by cases v <;> first | rfl | exact absurd ho (by simp [Ay])
     rw [e];simp only [Hd, SV.segs, Cells, Conc, List.headD_cons];exact ⟨v, [], by rw [fv]; rfl, h2, by rw [fv]; rfl, by rw [fv]; simpa using ho, rfl⟩
   | str =>
     obtain ⟨n, rfl, _⟩ := g1;obtain ⟨v, h1, h2⟩ := p1.2 0 _ rfl;have e : vs.take [PV.s n].length = [v] := by
      match hx : vs.take [PV.s n].length, h1, hlen with
      | [u], h1, _ => simp at h1; rw [h1]
     have ho := h2.one;have fv : Ao v = [v] := by cases v <;> first | rfl | exact absurd ho (by simp [Ay])
     rw [e];simp only [Hd, SV.segs, Cells, Conc, List.headD_cons];exact ⟨v, [], by rw [fv]; rfl, h2, by rw [fv]; rfl, by rw [fv]; simpa using ho, rfl⟩
   | sl s' =>
     simp only [GC] at g1;obtain ⟨n, rfl, _⟩ := g1;obtain ⟨v, h1, h2⟩ := p1.2 0 _ rfl;have e : vs.take [PV.sl false s'.w n].length = [v] := by
      match hx : vs.take [PV.sl false s'.w n].length, h1, hlen with
      | [u], h1, _ => simp at h1; rw [h1]
     have ho := h2.one;have fv : Ao v = [v] := by cases v <;> first | rfl | exact absurd ho (by simp [Ay])
     rw [e];simp only [Hd, SV.segs, Cells, Conc, List.headD_cons];exact ⟨v, [], by rw [fv]; rfl, h2, by rw [fv]; rfl, by rw [fv]; simpa using ho, rfl⟩
end
mutual
theorem Aaj : ∀ (s : Sh) (cs : List PV), (Hd s cs).closed = true
 | .int k, cs => rfl
 | .bool, cs => rfl
 | .str, cs => rfl
 | .sl s, cs => rfl
 | .arr n s, cs => rfl
 | .st l, cs => by simp only [Hd, SV.closed]; exact I9 l cs
theorem I9 : ∀ (l : List Sh) (cs : List PV), SV.closedL (Nv l cs) = true
 | [], cs => rfl
 | s :: l, cs => by
   simp only [Nv];have h2 := I9 l (cs.drop s.w);have app : ∀ (a b : List SV), SV.closedL a = true → SV.closedL b = true → SV.closedL (a ++ b) = true := fun a b ha hb => by
    induction a with
    | nil => exact hb
    | cons x a ih => simp only [SV.closedL, Bool.and_eq_true, List.cons_append] at ha ⊢; exact ⟨ha.1, ih ha.2⟩
   refine app _ _ ?_ h2;cases s with
   | st m => simp only [Hd, SV.segs]; exact I9 m _
   | int k => rfl
   | bool => rfl
   | str => rfl
   | sl s => rfl
   | arr n s => rfl
end
theorem Ai8 {P : Program} {w : World} {base : Nat} {t : TypeId} {v : Value} : ∀ {s : Sh}, shB P s t = true → Value.okWide P w .any base t v → (s.isAg = true → ∃ vs, v = .agg ⟨vs⟩) ∧ (s.isAg = false → ∀ vs, v ≠ .agg vs)
 | .int k, hs, h => by
   simp only [shB] at hs;split at hs
   · rename_i k' hu;obtain ⟨n, rfl⟩ := WideShapes.okWide_int hu h;exact ⟨fun h => (by cases h), fun _ vs e => by cases e⟩
   · cases hs
 | .bool, hs, h => by
   simp only [shB] at hs;split at hs
   · rename_i hu;obtain ⟨n, rfl⟩ := WideShapes.okWide_bool hu h;exact ⟨fun h => (by cases h), fun _ vs e => by cases e⟩
   · cases hs
 | .str, hs, h => by
   simp only [shB] at hs;split at hs
   · rename_i hu;obtain ⟨n, rfl⟩ := WideShapes.okWide_string hu h;exact ⟨fun h => (by cases h), fun _ vs e => by cases e⟩
   · cases hs
 | .sl s, hs, h => by
   simp only [shB] at hs;split at hs
   · rename_i e hu;obtain ⟨a, b, c, rfl⟩ := WideShapes.okWide_slice hu h;exact ⟨fun h => (by cases h), fun _ vs e => by cases e⟩
   · cases hs
 | .arr n s, hs, h => by
   simp only [shB] at hs;split at hs
   · rename_i n' e hu;simp only [Value.okWide, hu] at h;obtain ⟨⟨xs⟩, rfl, _⟩ := h;exact ⟨fun _ => ⟨_, rfl⟩, fun h => (by cases h)⟩
   · cases hs
 | .st l, hs, h => by
   simp only [shB] at hs;split at hs
   · rename_i fs hu;simp only [Value.okWide, hu] at h;obtain ⟨⟨xs⟩, rfl, _⟩ := h;exact ⟨fun _ => ⟨_, rfl⟩, fun h => (by cases h)⟩
   · cases hs
theorem V5 {H : Type} {enc : TypeId × Value → H} {P : Program} {w : World} {spare : Nat → Bool} {held : Bool} {base : Nat} {t : TypeId} {v : Value} {d : DataW H} {ps : List MemPlace} {s : Sh} (hs : shB P s t = true)
 (hv : Value.okWide P w .any base t v) (h : DataW.Trod enc P w 0 spare held t v d ps) : ∃ cs, GC s cs ∧ Conc (Li w) (fun _ => undef) (Hd s cs) v := by
 obtain ⟨fuel, hf⟩ := h;obtain ⟨cs, g, p⟩ := Ss s hs hf;rw [Em] at p;obtain ⟨h1, h2⟩ := Ai8 hs hv;exact ⟨cs, g, X5 s g p h1 h2⟩
end Go.Proofs.Ythmjebkldgdeiaa.Fw
namespace Go.Proofs.Ythmjebkldgdeiaa.Fw
open Go.RowKit
theorem Acd {m : Nat} : ∀ {cc : List (List PV)} {i j : Nat}, (∀ c ∈ cc, c.length = m) → j < m → cc.flatten[i * m + j]? = (cc[i]?).bind (·[j]?)
 | [], i, j, _, _ => by simp
 | c :: cc, 0, j, h, hj => by
   have hc := h c (by simp);rw [List.flatten_cons, Nat.zero_mul, Nat.zero_add, List.getElem?_append_left (by omega)]; rfl
 | c :: cc, i + 1, j, h, hj => by
   have hc := h c (by simp);rw [List.flatten_cons, List.getElem?_append_right (by rw [Nat.add_mul]; omega)];rw [show (i + 1) * m + j - c.length = i * m + j from by rw [Nat.add_mul]; omega];rw [Acd (fun c hc => h c (by simp [hc])) hj]; rfl
theorem A2s {n : Nat} {s : Sh} {cs : List PV} (h : GC (.arr n s) cs) : cs.length = n * s.w ∧ ∀ i, i < n → ∃ c, GC s c ∧ ∀ j, j < s.w → cs[i * s.w + j]? = c[j]? := by
 refine ⟨h.len, fun i hi => ?_⟩;simp only [GC] at h;obtain ⟨cc, rfl, rfl, g⟩ := h;refine ⟨cc[i], g _ (List.getElem_mem _), fun j hj => ?_⟩;rw [Acd (fun c hc => (g c hc).len) hj, List.getElem?_eq_getElem hi]; rfl
theorem Ami {n : Int} (h : (Lit.int .u32 n).wf = true) : 0 ≤ n ∧ n < 4294967296 := by
 simp [Lit.wf, IntKind.min, IntKind.max, IntKind.signed, IntKind.bits] at h; omega
theorem A1b {n : Int} (h : (Lit.int .i64 n).wf = true) : -9223372036854775808 ≤ n ∧ n < 9223372036854775808 := by
 simp [Lit.wf, IntKind.min, IntKind.max, IntKind.signed, IntKind.bits] at h; omega
theorem Aw8 {n : Nat} {cs : List PV} {f : Nat → PV} (hl : cs.length = n) (h : ∀ i, i < n → cs[i]? = some (f i)) : cs = Br n f := by
 apply List.ext_getElem?;intro i;by_cases hi : i < n
 · rw [h i hi, E7 hi]
 · rw [List.getElem?_eq_none (by omega), List.getElem?_eq_none (by rw [Co]; omega)]
theorem Ass {cs : List PV} (h : GC (.arr 8 (.int .u32)) cs) : ∃ a : Vc, cs = vE a ∧ ∀ i, i < 8 → a i < 4294967296 := by
 obtain ⟨hl, g⟩ := A2s h;have key : ∀ i, ∃ n : Nat, i < 8 → cs[i]? = some (.i .u32 n) ∧ n < 4294967296 := fun i => by
  by_cases hi : i < 8
  · obtain ⟨c, ⟨n, rfl, hw⟩, k⟩ := g i hi;have := k 0 (by simp [Sh.w]);simp only [Sh.w, Nat.mul_one, Nat.add_zero] at this;have hr := Ami hw;refine ⟨n.toNat, fun _ => ⟨?_, by omega⟩⟩;rw [this, show ((n.toNat : Nat) : Int) = n from by omega]; rfl
  · exact ⟨0, fun h => absurd h hi⟩
 obtain ⟨a, ha⟩ := Classical.axiomOfChoice key;exact ⟨a, Aw8 hl fun i hi => (ha i hi).1, fun i hi => (ha i hi).2⟩
theorem Ast {s : Sh} {cs : List PV} (h : GC (.sl s) cs) : ∃ es, cs = [.sl false s.w es] ∧ es.length ≤ maxLen ∧ ∀ c ∈ es, GC s c := by
 simp only [GC] at h; exact h
end Go.Proofs.Ythmjebkldgdeiaa.Fw
namespace Go.Proofs.Ythmjebkldgdeiaa.Fw
open Go.RowKit Go.Proofs
def Ca (r : Int) (q : Nat) (r' : Int) (q' : Nat) : Bool := decide (q < q' ∨ q = q' ∧ r < r')
theorem Lw (r : Int) (q : Nat) (r' : Int) (q' : Nat) {h d} : FunOk Try.prog 72 [.vec 2 [.i .i64 r, .i .u32 q], .vec 2 [.i .i64 r', .i .u32 q']] h d (.pv (.b (Ca r q r' q'))) [] := by
 refine Ax An fn72 (by simp) rfl rfl fun F => ?_;by_cases h : q = q'
 · subst h;have e : Ca r q r' q = decide (r < r') := by simp [Ca]
   simp (disch := omega) only [ir72, e, go_sem]
 · have hz : ¬ (q : Int) = (q' : Int) := by omega
   have e : Ca r q r' q' = decide ((q : Int) < (q' : Int)) := by simp [Ca, h]
   simp (disch := omega) only [ir72, e, go_sem]
theorem Agr {r r' : Int} {q q' : Nat} (h : r = r' ∧ q = q') : Wn [.i .i64 r, .i .u32 q] [.i .i64 r', .i .u32 q'] = true := by
 obtain ⟨rfl, rfl⟩ := h; simp [Wn]
theorem Su {r r' : Int} {q q' : Nat} (h : ¬ (r = r' ∧ q = q')) : Wn [.i .i64 r, .i .u32 q] [.i .i64 r', .i .u32 q'] = false := by
 simp only [Wn, decide_eq_false_iff_not];intro e;simp only [List.cons.injEq, PV.i.injEq, true_and, and_true] at e;exact h ⟨e.1, by omega⟩
abbrev Bb := Int × Nat
def H5 (b : Bb) : List PV := [.i .i64 b.1, .i .u32 b.2]
def Du (a : Vc) (r : Int) : Nat := if 1 ≤ r ∧ r ≤ 8 then a (r - 1).toNat else 0
def A4 (a : Vc) (r : Int) (q : Nat) : Bool := decide (1 ≤ q ∧ q ≤ Du a r)
theorem A4e (a : Vc) (r : Int) {h d} : FunOk Try.prog 52 [.vec 8 (vE a), .pv (.i .i64 r)] h d (.pv (.i .u32 (Du a r))) [] := by
 refine Ax An fn52 (by simp) rfl rfl fun F => ?_;by_cases h1 : r < 1
 · have e : Du a r = 0 := by simp [Du]; omega
   simp (disch := omega) only [ir52, h1, e, go_sem]
 by_cases h2 : 8 < r
 · have e : Du a r = 0 := by simp [Du]; omega
   simp (disch := omega) only [ir52, h1, h2, e, go_sem]
 have e : Du a r = a (r - 1).toNat := by simp [Du]; omega
 obtain ⟨k, rfl⟩ : ∃ k : Nat, r = k + 1 := ⟨(r - 1).toNat, by omega⟩
 have ek : ((k : Int) + 1 - 1) = k := by omega
 simp (disch := omega) only [ir52, h1, h2, e, ek, go_sem]
def Yq (a : Vc) (r : Int) (k : Nat) : FS := mk [(5, .pv (.i .i64 k)), (1, .pv (.i .i64 r)), (2, .p 2 0)] [(2, some (.var (.vec 8 (vE a))))]
theorem Az5 (a : Vc) (r : Int) {h d} : FunOk Try.prog 15 [.vec 8 (vE a), .pv (.i .i64 r)] h d (.pv (.i .u32 (Du a r))) [] := by
 refine Ax An fn15 (by simp) rfl rfl fun F => ?_;simp (disch := omega) only [ir15, go_sem];refine Bc An (Yq a r) (fun k => k ≤ 8 ∧ ∀ i : Nat, i < k → (i : Int) + 1 ≠ r) (fun k => 8 - k) 0 (by simp) (A2 ?_ ?_) fun k hk => ?_
 · simp (disch := omega) only [go_sem]
 · simp (disch := omega) only [go_sem]
 obtain ⟨hk1, hk2⟩ := hk;by_cases hlt : k < 8
 · by_cases he : (k : Int) + 1 = r
   · subst he;have e : Du a ((k : Int) + 1) = a k := by
      have e1 : ((k : Int) + 1 - 1).toNat = k := by omega
      simp [Du, e1]; omega
     simp (disch := omega) only [Yq, e, go_sem]
   · simp (disch := omega) only [Yq, he, go_sem];refine Av (k + 1) _ _ rfl ⟨by omega, fun i hi => ?_⟩ (by omega) ?_ ?_
     · by_cases e : i = k
       · subst e; exact he
       · exact hk2 i (by omega)
     · simp (disch := omega) only [go_sem]
     · simp (disch := omega) only [go_sem]
 · obtain rfl : k = 8 := by omega
   have e : Du a r = 0 := by
    unfold Du;rw [if_neg];intro h;exact hk2 (r - 1).toNat (by omega) (by omega)
   simp (disch := omega) only [Yq, e, go_sem]
theorem Fb (a : Vc) (r : Int) (q : Nat) {h d} : FunOk Try.prog 34 [.vec 8 (vE a), .vec 2 [.i .i64 r, .i .u32 q]] h d (.pv (.b (A4 a r q))) [] := by
 refine Ax An fn34 (by simp) rfl rfl fun F => ?_;by_cases h1 : (1 : Int) ≤ q
 · simp (disch := omega) only [ir34, h1, go_sem];refine Aa (A4e a r) ?_;have e : A4 a r q = decide ((q : Int) ≤ (Du a r : Int)) := decide_eq_decide.2 (by omega);simp (disch := omega) only [e, go_sem]
 · have e : A4 a r q = false := decide_eq_false (by omega);simp (disch := omega) only [ir34, h1, e, go_sem]
theorem Aed (a : Vc) (r : Int) (q : Nat) {h d} : FunOk Try.prog 14 [.vec 8 (vE a), .vec 2 [.i .i64 r, .i .u32 q]] h d (.pv (.b (A4 a r q))) [] := by
 refine Ax An fn14 (by simp) rfl rfl fun F => ?_;by_cases h1 : (0 : Int) < q
 · simp (disch := omega) only [ir14, h1, go_sem];refine Aa (Az5 a r) ?_;have e : A4 a r q = decide ((q : Int) ≤ (Du a r : Int)) := decide_eq_decide.2 (by omega);simp (disch := omega) only [e, go_sem]
 · have e : A4 a r q = false := decide_eq_false (by omega);simp (disch := omega) only [ir14, h1, e, go_sem]
theorem Pp {l : List SV} {cs : List PV} {n : Nat} (hc : SV.cellsL? l = some cs) (hn : cs.length = n) : Imp (.agg l) (.vec n cs) := by
 intro V ρ v h;have hp := Conc.cells h (x := .agg l) (cs := cs) hc;simp only [Conc] at h ⊢;obtain ⟨vs, rfl, _⟩ := h;exact ⟨vs, rfl, by rw [← hn]; exact hp.1.symm, hp⟩
def ImpL : List SV → List SV → Prop
 | [], [] => True
 | x :: l, y :: m => Imp x y ∧ ImpL l m
 | _, _ => False
theorem ImpL.conc {V : View} {ρ : Nat → Value} : ∀ {l m : List SV} {vs : List Value}, ImpL l m → ConcL V ρ l vs → ConcL V ρ m vs
 | [], [], vs, _, h => h
 | x :: l, y :: m, vs, h, k => by
   simp only [ConcL] at k ⊢;obtain ⟨v, us, rfl, k1, k2⟩ := k;exact ⟨v, us, rfl, h.1 _ _ _ k1, ImpL.conc h.2 k2⟩
 | [], _ :: _, _, h, _ => h.elim
 | _ :: _, [], _, h, _ => h.elim
theorem FunOk.imp {P : Program} {f : Nat} {args args' : List SV} {h d x u} (hf : FunOk P f args' h d x u) (hi : ImpL args args') (ht : ∀ n ∈ Aw args', n ∈ Aw args) : FunOk P f args h d x u :=
 ⟨hf.1, fun F N ρ s a w hR hh vs hc => hf.2 F N ρ s a w hR (fun n hn => hh n (ht n hn)) vs (hi.conc hc)⟩
abbrev Aat : Sh := .st [.int .i64, .int .u32]
theorem Ac5 {cs : List PV} (h : GC Aat cs) : ∃ b : Bb, cs = H5 b ∧ (-9223372036854775808 ≤ b.1 ∧ b.1 < 9223372036854775808) ∧ b.2 < 4294967296 := by
 simp only [GC, GCL] at h;obtain ⟨c, cs', rfl, ⟨n, rfl, hw⟩, c', cs'', rfl, ⟨m, rfl, hw'⟩, rfl⟩ := h;have hr := Ami hw';exact ⟨(n, m.toNat), by simp [H5]; omega, A1b hw, by show m.toNat < _; omega⟩
theorem Z1 {α : Type} {f : α → List PV} {p : α → Prop} {s : Sh} (key : ∀ {cs}, GC s cs → ∃ x, cs = f x ∧ p x) : ∀ {es : List (List PV)}, (∀ c ∈ es, GC s c) → ∃ l : List α, es = l.map f ∧ ∀ x ∈ l, p x
 | [], _ => ⟨[], rfl, by simp⟩
 | c :: es, h => by
   obtain ⟨l, e, hp⟩ := Z1 (es := es) key fun c hc => h c (List.mem_cons_of_mem _ hc);obtain ⟨x, e2, hx⟩ := key (h c List.mem_cons_self);exact ⟨x :: l, by rw [e, e2]; rfl, fun y hy => by
    rcases List.mem_cons.1 hy with hy | hy
    · rw [hy]; exact hx
    · exact hp y hy⟩
structure Ent where
 id : Bb
 dir : Bb
 name : List UInt8
 obj : Bb
 gone : Vc
def Aqz (x : Ent) : List PV := [.i .i64 x.id.1, .i .u32 x.id.2, .i .i64 x.dir.1, .i .u32 x.dir.2, .s x.name, .i .i64 x.obj.1, .i .u32 x.obj.2]
def Bm (x : Ent) : List PV := Aqz x ++ vE x.gone
theorem As3 (a : Vc) : (vE a).all PV.flat = true := by simp [vE, Br, PV.flat]
theorem E6 (x : Ent) : (Bm x).length = 15 := by simp [Bm, Aqz, Ce]
theorem Afa (x : Ent) : (Bm x).all PV.flat = true := by
 unfold Bm Aqz; rw [List.all_append, As3]; rfl
theorem M9 (l : List Ent) : ∀ c ∈ l.map Bm, c.all PV.flat = true := by
 intro c hc;obtain ⟨v, _, rfl⟩ := List.mem_map.1 hc;exact Afa v
theorem L4 (x : Ent) (K : KK) : LoadK (some (Bm x)) 0 15 true K = K (.vec 15 (Bm x)) [] := by
 have e : ((Bm x).drop 0).take 15 = Bm x := List.take_of_length_le (by rw [List.drop_zero, E6]; omega);simp only [LoadK, Fz, eq_iff_iff, e, E6];exact ⟨fun h => h.2.2, fun h => ⟨by omega, .inl trivial, h⟩⟩
theorem Gv (x : Ent) (K : KK) : LoadK (some (Bm x)) 0 2 true K = K (.vec 2 [.i .i64 x.id.1, .i .u32 x.id.2]) [] := by
 simp only [LoadK, Fz, eq_iff_iff, E6];exact ⟨fun h => h.2.2, fun h => ⟨by omega, .inl trivial, h⟩⟩
theorem M4 (x : Ent) (K : KK) : LoadK (some (Bm x)) 5 2 true K = K (.vec 2 [.i .i64 x.obj.1, .i .u32 x.obj.2]) [] := by
 simp only [LoadK, Fz, eq_iff_iff, E6];exact ⟨fun h => h.2.2, fun h => ⟨by omega, .inl trivial, h⟩⟩
theorem Aph (x : Ent) (K : KK) : LoadK (some (Bm x)) 7 8 true K = K (.vec 8 (vE x.gone)) [] := by
 have e : ((Bm x).drop 7).take 8 = vE x.gone := by
  unfold Bm;rw [List.drop_left' (by rfl)];exact List.take_of_length_le (by rw [Ce]; omega)
 simp only [LoadK, Fz, eq_iff_iff, E6, e];exact ⟨fun h => h.2.2, fun h => ⟨by omega, .inl trivial, h⟩⟩
theorem Air (x : Ent) (v : Vc) : splice (Bm x) 7 (vE v) = Bm { x with gone := v } := by
 unfold splice Bm;rw [List.take_left' (by rfl), Ce];have : (Aqz x ++ vE x.gone).drop (7 + 8) = [] := List.drop_of_length_le (by simp [Aqz, Ce]);rw [this, List.append_nil]; rfl
theorem Hy {P : Program} {F : Fr} {N : Nat} {ρ : Nat → Value} {s : FS} {a : Act} {w : World} {tS tR e : TypeId} {sz m n lo hi : Nat} {es fs : List (List PV)} (ht : P.underlying tS = some (.slice e)) (hz : Ae P e = some sz) (h1 : sz ≠ 1)
 (hR : RelR F N ρ s a w) (hm : s.h m = some (.row sz fs)) (hn : s.h n = some (.row sz es)) (hne : m ≠ n) (hfs : fs ≠ []) (hes : es ≠ []) (hlt : lo < hi) {v u : Value}
 (hv : Conc (vw F w ρ s) ρ (.os m) v) (hu : Conc (vw F w ρ s) ρ (.ov n sz lo hi) u) :
 (Extern.SlicesOverlaps.overlaps #[tS, tS] #[tR] #[v, u]).run P w = .ok (.bool false) w := by
 obtain ⟨bm, lm, cm, vm, tym, frm, a1, a2, a3, a4, a5, a6, a7, a8, a9, rfl, a11⟩ := Gb (hR.own m _ hm) (List.length_pos_iff.2 hfs);obtain ⟨bn, ln, cn, vn, tyn, frn, b1, b2, b3, b4, b5, b6, b7, b8, b9, rfl, b11⟩ := Gb (hR.own n _ hn) (List.length_pos_iff.2 hes);simp only [Conc] at hv hu;obtain ⟨base, len, cap, base', c1, c2, c3, rfl, c4⟩ := hu;rw [hv.1, a1];rw [b1] at c1; cases c1;have := c4 (.inl hlt);simp only [Option.map_some, Cj, Nat.zero_add] at this;subst this;have hbb : bm ≠ bn := fun e => hne (hR.inj m n _ _ bm hm hn (by rw [a1]; simp [B0, a7]) (by rw [b1]; simp [B0, b7, e]));have hfr : frm.1 = frm.2 := by rcases a3 with h | h; exact h; exact absurd h.1 h1
 have fz : ∀ o, w.frozen? ⟨bm, o, none⟩ = false := fun o => by
  unfold World.frozen?;simp only [a2];obtain ⟨x, y⟩ := frm;simp only at hfr;simp; omega
 exact Lib.run_overlaps_apart w tS tR e ht sz (fun w => Bp hz w) ⟨bm, 0, none⟩ ⟨bn, lo * sz, none⟩ _ _ _ _ hbb tym tyn vm.length vn.length (by unfold World.shape?; rw [a2]; rfl) (by unfold World.shape?; rw [b2]; rfl)
  (by rw [b5]; exact Nat.mul_ne_zero b7 (by omega)) (fz _) (fz _)
theorem Az2 {m n lo hi : Nat} {es fs : List (List PV)} {h} (hm : h m = some (.row 15 fs)) (hn : h n = some (.row 15 es)) (hne : m ≠ n) (hfs : fs ≠ []) (hes : es ≠ []) (hlt : lo < hi) : Yg Try.prog 91 [.os m, .ov n 15 lo hi] h (.pv (.b false)) := by
 intro F N ρ s a w hR hh vs hc;simp only [ConcL] at hc;obtain ⟨v, us, rfl, hv, u, us', rfl, hu, rfl⟩ := hc;have hsm := (hh m (by simp [Aw, tn])).trans hm;have hsn := (hh n (by simp [Aw, tn])).trans hn;refine ⟨.bool false, ?_, Dx⟩;rw [run_callFunc_extern (fn := (Try.prog.funcs[91]?).getD default) (by kernel_rfl) (by kernel_rfl) (by kernel_rfl) (by kernel_rfl) (e := Extern.SlicesOverlaps.overlaps #[31, 31] #[4]) (by kernel_rfl)];rw [Hy (tS := 31) (e := 59) (by kernel_rfl) (by kernel_rfl) (by decide) hR hsm hsn hne hfs hes hlt hv hu];rfl
set_option maxHeartbeats 4000000 in
theorem Ul (es : List (List PV)) (cs : List PV) (i : Nat) (hi : i ≤ es.length) (hb : es.length ≤ 1000) (hes : ∀ c ∈ es, c.length = 15) (hcs : cs.length = 15) {h d} (h1 : h 900 = some (.row 15 es)) (h2 : h 901 = some (.row 15 [cs])) : FunOk Try.prog 78 [.os 900, .pv (.i .i64 i), .os 901] h d (.os d) [.del 900, .del 901, .new d (.row 15 (es.take i ++ cs :: es.drop i))] := by
 refine Zt An fn78 (by simp) rfl fun F => ?_;simp only [B9];by_cases he : i = es.length
 · subst he;have e1 : es.take es.length ++ cs :: es.drop es.length = es ++ [cs] := by simp
   rw [e1];simp (disch := omega) only [ir78, h1, h2, go_sem]
 · have hne : es ≠ [] := by intro e; subst e; simp at hi; exact he (by simpa using hi)
   simp (disch := omega) only [ir78, h1, h2, go_sem];intro c hc;by_cases hcap : c < es.length + 1
   · have hp : ((c : Int) < (es.length : Int) + ((1 : Nat) : Int)) = True := eq_true (by omega);have ek : ((es.length : Int) + ((1 : Nat) : Int) - (i : Int)).toNat = es.length + 1 - i := by omega
     (try simp only [Ii, Ih, Ig, Ie, Ic, Ib, Ia, H9]); simp (disch := omega) only [hp, ek, go_sem]
     generalize hT : List.take i es ++ List.replicate (es.length + 1 - i) _ = T;have hTl : T.length = es.length + 1 := by rw [← hT]; simp; omega
     have t1 : T.take i = es.take i := by
      rw [← hT, List.take_append_of_le_length (by simp; omega), List.take_take, Nat.min_self]
     have hi' : (es.take i).length = i := by simp; omega
     have m1 : min 1 (es.length + 1 - i) = 1 := by omega
     have m2 : [cs].take (es.length + 1 - i) = [cs] := List.take_of_length_le (by simp; omega);have hU : (es.take i ++ [cs] ++ T.drop (i + 1)).length = es.length + 1 := by simp [hTl]; omega
     have e1 : ((i : Int) + ((1 : Nat) : Int)).toNat = i + 1 := by omega
     have u1 : (es.take i ++ [cs] ++ T.drop (i + 1)).take (i + 1) = es.take i ++ [cs] := by
      rw [List.take_append_of_le_length (by simp; omega)];exact List.take_of_length_le (by simp; omega)
     have u2 : (es.take es.length).drop i = es.drop i := by rw [List.take_length]
     have u3 : min (es.drop i).length (es.length + 1 - (i + 1)) = es.length - i := by simp
     have u4 : (es.drop i).take (es.length + 1 - (i + 1)) = es.drop i := List.take_of_length_le (by simp);have u5 : (es.take i ++ [cs] ++ T.drop (i + 1)).drop (i + 1 + (es.length - i)) = [] := List.drop_of_length_le (by rw [hU]; omega);have u6 : es.take i ++ cs :: es.drop i = es.take i ++ [cs] ++ es.drop i := by simp
     simp only [hTl, t1, m1, m2, e1, List.length_singleton];simp only [hU, u1, u2, u3, u4, u5, u6, List.append_nil];exact ⟨by omega, by omega, trivial⟩
   · have hp : ((c : Int) < (es.length : Int) + ((1 : Nat) : Int)) = False := eq_false (by omega)
     (try simp only [Ii, Ih, Ig, Ie, Ic, Ib, Ia, H9]); simp (disch := omega) only [hp, go_sem]
     intro g hg hgs;have hg1 : g.length = 1 := by omega
     have e1 : ((i : Int) + ((1 : Nat) : Int)).toNat = i + 1 := by omega
     have hE : (es ++ g).length = es.length + 1 := by simp [hg1]
     refine ⟨by omega, ?_⟩;rw [e1];refine P4 (Az2 (es := es ++ g) (fs := [cs]) rfl rfl (by decide) (by simp) (by simp [hne]) (by omega)) ?_;have v1 : ((es ++ g).take (es ++ g).length).drop i = (es ++ g).drop i := by rw [List.take_length]
     have v2 : min ((es ++ g).drop i).length ((es ++ g).length - (i + 1)) = es.length - i := by simp [hg1]; omega
     have v3 : ((es ++ g).drop i).take ((es ++ g).length - (i + 1)) = es.drop i := by
      rw [hE, List.drop_append_of_le_length hi, show es.length + 1 - (i + 1) = (es.drop i).length from by simp];exact List.take_left
     have v4 : (es ++ g).drop (i + 1 + (es.length - i)) = [] := List.drop_of_length_le (by omega);have v5 : ((es ++ g).take (i + 1) ++ es.drop i).length = es.length + 1 := by simp [hg1]; omega
     have v6 : ((es ++ g).take (i + 1) ++ es.drop i).take i = es.take i := by
      rw [List.take_append_of_le_length (by simp; omega), List.take_take, Nat.min_eq_left (by omega), List.take_append_of_le_length hi]
     have v7 : ((es ++ g).take (i + 1) ++ es.drop i).drop (i + 1) = es.drop i := by
      rw [List.drop_append_of_le_length (by simp; omega), List.drop_of_length_le (by simp; omega), List.nil_append]
     have m1 : min 1 (es.length + 1 - i) = 1 := by omega
     have m2 : [cs].take (es.length + 1 - i) = [cs] := List.take_of_length_le (by simp; omega);have u6 : es.take i ++ cs :: es.drop i = es.take i ++ [cs] ++ es.drop i := by simp
     simp (disch := omega) only [e1, v1, v2, v3, v4, v5, v6, v7, m1, m2, u6, go_sem]
theorem Az3 {m n : Nat} (es : List (List PV)) (cs : List PV) (i : Nat) (hi : i ≤ es.length) (hb : es.length ≤ 1000) (hes : ∀ c ∈ es, c.length = 15) (hcs : cs.length = 15) (hmn : m ≠ n) (hm : m < 900) (hn : n < 900) {h d} (hd : d ≠ m ∧ d ≠ n ∧ d < 900) (h1 : h m = some (.row 15 es)) (h2 : h n = some (.row 15 [cs])) : FunOk Try.prog 78 [.os m, .pv (.i .i64 i), .os n] h d (.os d) [.del m, .del n, .new d (.row 15 (es.take i ++ cs :: es.drop i))] := by
 have hπ := Aga (a := 900) (m := m) (b := 901) (n := n) (by omega) (by omega) (by omega) hmn;have e1 : Ym 900 m 901 n 900 = m := by unfold Ym; simp
 have e2 : Ym 900 m 901 n 901 = n := by unfold Ym; repeat' split <;> (try omega)
 have e3 : Ym 900 m 901 n d = d := by unfold Ym; repeat' split <;> (try omega)
 have := (Ul es cs i hi hb hes hcs (h := fun k => (h (Ym 900 m 901 n k))) (d := d) (by rw [← h1, e1]) (by rw [← h2, e2])).rn (π := Ym 900 m 901 n) hπ (d' := d);simp only [SV.rnL, SV.rn, HU.rn, Blk.rn, List.map_cons, List.map_nil, e1, e2, e3] at this;refine this.at fun k hk => ?_;simp only [Aw, tn, List.append_nil, List.nil_append, List.mem_append, List.mem_singleton] at hk;simp only [hπ];rcases hk with rfl | rfl
 · rw [h1]; rfl
 · rw [h2]; rfl
theorem Um {x : SV} {f : Bool} {z : Nat} {es : List (List PV)} {h d} (hx : Da h [x] = [.pv (.sl f z es)]) (hl : Bh [x] = true) (hz : es = [] ∨ z = 15) (hb : es.length ≤ 1000) (hs : ∀ c ∈ es, c.all PV.flat = true) :
 FunOk Try.prog 46 [x] h d (.os d) [.new d (.row 15 es)] := by
 refine Ab9 An fn46 (by simp) hl (.inr hs) fun F => ?_;rw [hx];simp (disch := omega) only [ir46, go_sem];intro b hb';cases b
 · simp (disch := omega) only [go_sem]
 · have he : es = [] := by
    cases es with
    | nil => rfl
    | cons c l => exact absurd (hb' (by simp)) (by simp)
   subst he
   (try simp only [Ii, Ih, Ig, Ie, Ic, Ib, Ia, H9]); simp (disch := omega) only [go_sem]
   decide
abbrev G1 (a b : Bb) : Bool := Ca a.1 a.2 b.1 b.2
theorem S5 {a b : Bb} : G1 a b = true ↔ a.2 < b.2 ∨ a.2 = b.2 ∧ a.1 < b.1 := by simp [G1, Ca]
theorem D5 {a b c : Bb} (h : G1 a b = true) (k : G1 b c = true) : G1 a c = true := by rw [S5] at *; omega
theorem Dt {a : Bb} : ¬ G1 a a = true := by rw [S5]; omega
theorem Va {a b : Bb} (h : G1 a b = true) : ¬ G1 b a = true := by rw [S5] at *; omega
theorem Pq {a b : Bb} (h : ¬ G1 a b = true) (k : a ≠ b) : G1 b a = true := by
 rw [S5] at *;by_cases e : a.2 = b.2
 · have : a.1 ≠ b.1 := fun e1 => k (Prod.ext e1 e);omega
 · omega
def Cu (l : List Ent) : Prop := l.Pairwise fun a b => G1 a.id b.id = true
def F3 : List Ent → Bb → Option Ent
 | [], _ => none
 | x :: l, i => if x.id = i then some x else F3 l i
theorem Ajt {l : List Ent} {i : Bb} {x : Ent} (h : F3 l i = some x) : x ∈ l ∧ x.id = i := by
 induction l with
 | nil => simp [F3] at h
 | cons y l ih =>
   simp only [F3] at h;split at h
   · cases h; exact ⟨List.mem_cons_self, by assumption⟩
   · exact ⟨List.mem_cons_of_mem _ (ih h).1, (ih h).2⟩
theorem Es {l : List Ent} {i : Bb} : F3 l i = none ↔ ∀ x ∈ l, x.id ≠ i := by
 induction l with
 | nil => simp [F3]
 | cons y l ih =>
   simp only [F3];by_cases h : y.id = i
   · rw [if_pos h];exact ⟨fun e => (nomatch e), fun e => absurd h (e y List.mem_cons_self)⟩
   · rw [if_neg h, ih];simp only [List.mem_cons, forall_eq_or_imp];exact ⟨fun e => ⟨h, e⟩, fun e => e.2⟩
theorem Ux {l : List Ent} (hs : Cu l) {x : Ent} (h : x ∈ l) : F3 l x.id = some x := by
 induction l with
 | nil => cases h
 | cons y l ih =>
   obtain ⟨h1, h2⟩ := List.pairwise_cons.1 hs;simp only [F3];rcases List.mem_cons.1 h with rfl | h
   · rw [if_pos rfl]
   · rw [if_neg fun e => Dt (by have := h1 x h; rwa [e] at this)];exact ih h2 h
def Er (l : List Ent) (i : Bb) : Nat := l.findIdx fun x => !G1 x.id i
theorem Y1 (l : List Ent) (i : Bb) : Er l i ≤ l.length := List.findIdx_le_length
theorem Qr (x : Ent) (l : List Ent) (i : Bb) : Er (x :: l) i = if G1 x.id i = true then Er l i + 1 else 0 := by
 unfold Er;rw [List.findIdx_cons];cases G1 x.id i <;> simp
theorem Anw {l : List Ent} {i : Bb} {k : Nat} (hk : k < Er l i) : ∃ x, l[k]? = some x ∧ G1 x.id i = true := by
 have hl : k < l.length := Nat.lt_of_lt_of_le hk (Y1 l i);refine ⟨l[k], by simp [hl], ?_⟩;have := List.not_of_lt_findIdx hk;simpa using this
theorem Azt {l : List Ent} (hs : Cu l) {i : Bb} {k : Nat} (hk : Er l i ≤ k) {x : Ent} (hx : l[k]? = some x) : ¬ G1 x.id i = true := by
 obtain ⟨hl, rfl⟩ := List.getElem?_eq_some_iff.1 hx;have hp : Er l i < l.length := by omega
 have h0 : ¬ G1 l[Er l i].id i = true := by
  have : (!G1 (l[Er l i]'hp).id i) = true := List.findIdx_getElem (p := fun x : Ent => !G1 x.id i) (w := hp);simpa using this
 by_cases e : Er l i = k
 · subst e; exact h0
 · have := List.pairwise_iff_getElem.1 hs (Er l i) k hp hl (by omega);exact fun h => h0 (D5 this h)
theorem Agq {l : List Ent} {i : Bb} {k : Nat} (hk : k ≤ l.length) (h1 : ∀ j x, j < k → l[j]? = some x → G1 x.id i = true) (h2 : ∀ x, l[k]? = some x → ¬ G1 x.id i = true) : Er l i = k := by
 rcases Nat.lt_trichotomy (Er l i) k with h | h | h
 · have hl : Er l i < l.length := by omega
   have h0 : (!G1 (l[Er l i]'hl).id i) = true := List.findIdx_getElem (p := fun x : Ent => !G1 x.id i) (w := hl);have := h1 _ _ h (List.getElem?_eq_getElem hl);rw [this] at h0; simp at h0
 · exact h
 · obtain ⟨x, e1, e2⟩ := Anw h;exact absurd e2 (h2 x e1)
def Pn (l : List Ent) (i : Bb) : Bool := (F3 l i).isSome
theorem Pd {l : List Ent} (hs : Cu l) (i : Bb) : F3 l i = match l[Er l i]? with | some x => if x.id = i then some x else none | none => none := by
 induction l with
 | nil => simp [F3]
 | cons y l ih =>
   obtain ⟨h1, h2⟩ := List.pairwise_cons.1 hs;rw [Qr];simp only [F3];by_cases e : y.id = i
   · have : ¬ G1 y.id i = true := by rw [e]; exact Dt
     rw [if_neg this, if_pos e];simp [e]
   · rw [if_neg e];by_cases hl : G1 y.id i = true
     · rw [if_pos hl, List.getElem?_cons_succ]; exact ih h2
     · rw [if_neg hl, List.getElem?_cons_zero];simp only [e, if_false];exact Es.2 fun z hz ez => Dt (by have := D5 (Pq hl e) (h1 z hz); rwa [ez] at this)
theorem T4 {l : List Ent} (hs : Cu l) {j m : Nat} {x v : Ent} (hj : l[j]? = some x) (hm : l[m]? = some v) (h : j < m) : G1 x.id v.id = true := by
 obtain ⟨h1, rfl⟩ := List.getElem?_eq_some_iff.1 hj;obtain ⟨h2, rfl⟩ := List.getElem?_eq_some_iff.1 hm;exact List.pairwise_iff_getElem.1 hs j m h1 h2 h
def Ng (l : List Ent) (x : Ent) : List Ent := l.take (Er l x.id) ++ x :: l.drop (Er l x.id)
theorem Q5 (y : Ent) (l : List Ent) (x : Ent) : Ng (y :: l) x = if G1 y.id x.id = true then y :: Ng l x else x :: y :: l := by
 unfold Ng;rw [Qr];split <;> simp
theorem Ze {l : List Ent} {x z : Ent} : z ∈ Ng l x ↔ z = x ∨ z ∈ l := by
 unfold Ng;have := List.take_append_drop (Er l x.id) l;constructor
 · intro h;rcases List.mem_append.1 h with h | h
   · exact .inr (List.mem_of_mem_take h)
   · rcases List.mem_cons.1 h with h | h
     · exact .inl h
     · exact .inr (List.mem_of_mem_drop h)
 · intro h;rcases h with rfl | h
   · simp
   · rw [← this] at h;rcases List.mem_append.1 h with h | h
     · exact List.mem_append_left _ h
     · exact List.mem_append_right _ (List.mem_cons_of_mem _ h)
theorem T3 {l : List Ent} (hs : Cu l) {x : Ent} (hn : F3 l x.id = none) : Cu (Ng l x) := by
 induction l with
 | nil => simp [Ng, Er, Cu]
 | cons y l ih =>
   obtain ⟨h1, h2⟩ := List.pairwise_cons.1 hs;have hy : y.id ≠ x.id := Es.1 hn y List.mem_cons_self;have hn' : F3 l x.id = none := Es.2 fun z hz => Es.1 hn z (List.mem_cons_of_mem _ hz);rw [Q5];split
   · rename_i hl;refine List.Pairwise.cons (fun z hz => ?_) (ih h2 hn');rcases Ze.1 hz with rfl | hz
     · exact hl
     · exact h1 z hz
   · rename_i hl;have hxy : G1 x.id y.id = true := Pq hl hy;refine List.Pairwise.cons (fun z hz => ?_) hs;rcases List.mem_cons.1 hz with rfl | hz
     · exact hxy
     · exact D5 hxy (h1 z hz)
theorem Am4 {l : List Ent} {f : Ent → Ent} (hf : ∀ x, (f x).id = x.id) (hs : Cu l) : Cu (l.map f) := by
 unfold Cu;rw [List.pairwise_map];exact hs.imp fun h => by simpa only [hf] using h
def Sl (l : List Ent) (i : Bb) (f : Ent → Ent) : List Ent := l.map fun x => if x.id = i then f x else x
theorem Auy {i : Bb} {f : Ent → Ent} (hf : ∀ x, (f x).id = x.id) (x : Ent) : (if x.id = i then f x else x).id = x.id := by split <;> simp [hf]
theorem Am3 {l : List Ent} {f : Ent → Ent} (hf : ∀ x, (f x).id = x.id) (hs : Cu l) (i : Bb) : Cu (Sl l i f) := Am4 (Auy hf) hs
theorem At0 {l : List Ent} (hs : Cu l) {i : Bb} {f : Ent → Ent} {x : Ent} (h : F3 l i = some x) : l.set (Er l i) (f x) = Sl l i f := by
 induction l with
 | nil => simp [F3] at h
 | cons y l ih =>
   obtain ⟨h1, h2⟩ := List.pairwise_cons.1 hs;rw [Qr];simp only [F3] at h;by_cases e : y.id = i
   · rw [if_pos e] at h;cases h;rw [if_neg (by rw [e]; exact Dt)];simp only [List.set_cons_zero, Sl, List.map_cons, if_pos e];congr 1;have e1 : ∀ z ∈ l, (if z.id = i then f z else z) = id z := fun z hz => by
      rw [if_neg fun ez => Dt (by have := h1 z hz; rwa [e, ez] at this)]; rfl
     rw [List.map_congr_left e1, List.map_id]
   · rw [if_neg e] at h;have hx := Ajt h;have : G1 y.id i = true := by rw [← hx.2]; exact h1 x hx.1
     rw [if_pos this, List.set_cons_succ, ih h2 h];simp [Sl, e]
def P6 (l : List Ent) (x : Ent) : List Ent := if Pn l x.id = true then l else Ng l x
def G9 (a b : Bb) : Int := if G1 a b = true then -1 else if G1 b a = true then 1 else 0
theorem Az6 (a b : Bb) {h d} : FunOk Try.prog 90 [.vec 2 [.i .i64 a.1, .i .u32 a.2], .vec 2 [.i .i64 b.1, .i .u32 b.2]] h d (.pv (.i .i64 (G9 a b))) [] := by
 refine Ax An fn90 (by simp) rfl rfl fun F => ?_;simp (disch := omega) only [ir90, go_sem];refine Aa (Lw _ _ _ _) ?_;by_cases h1 : Ca a.1 a.2 b.1 b.2 = true
 · have e : G9 a b = -1 := if_pos h1;simp (disch := omega) only [h1, e, go_sem]
 · have h1' : Ca a.1 a.2 b.1 b.2 = false := by simpa using h1
   simp (disch := omega) only [h1', go_sem];refine Aa (Lw _ _ _ _) ?_;by_cases h2 : Ca b.1 b.2 a.1 a.2 = true
   · have e : G9 a b = 1 := by unfold G9; rw [if_neg h1, if_pos h2]
     simp (disch := omega) only [h2, e, go_sem]
   · have h2' : Ca b.1 b.2 a.1 a.2 = false := by simpa using h2
     have e : G9 a b = 0 := by unfold G9; rw [if_neg h1, if_neg h2]
     simp (disch := omega) only [h2', e, go_sem]
theorem Ax0 (x : Ent) (b : Bb) {h d} : FunOk Try.prog 89 [.vec 15 (Bm x), .vec 2 [.i .i64 b.1, .i .u32 b.2]] h d (.pv (.i .i64 (G9 x.id b))) [] := by
 refine Ax An fn89 (by simp) rfl rfl fun F => ?_;simp (disch := omega) only [ir89, Gv, go_sem];refine Aa (Az6 _ _) ?_;simp (disch := omega) only [go_sem]
theorem Ta {a b : Bb} : (G9 a b < 0) = (G1 a b = true) := by
 unfold G9;by_cases h : G1 a b = true
 · rw [if_pos h]; simp [h]
 · rw [if_neg h]; split <;> simp [h]
theorem Tc {a b : Bb} : (G9 a b = 0) = (a = b) := by
 unfold G9;by_cases h : G1 a b = true
 · rw [if_pos h];refine propext ⟨fun e => by omega, fun e => ?_⟩;subst e; exact absurd h Dt
 · rw [if_neg h];by_cases k : G1 b a = true
   · rw [if_pos k];refine propext ⟨fun e => by omega, fun e => ?_⟩;subst e; exact absurd k Dt
   · rw [if_neg k];refine propext ⟨fun _ => ?_, fun _ => rfl⟩;exact Classical.byContradiction fun e => k (Pq h e)
def Agg (f : Bool) (l : List Ent) (i : Bb) (p : Nat × Nat) : FS := mk [(9, .pv (.i .i64 p.1)), (10, .pv (.i .i64 p.2)), (8, .pv (.i .i64 l.length)), (0, .pv (.sl f 15 (l.map Bm))), (2, .fn (.func 89) []), (4, .p 4 0)] [(4, some (.var (.vec 2 [.i .i64 i.1, .i .u32 i.2])))]
set_option maxHeartbeats 1000000 in
theorem A4h {x : SV} {f : Bool} {l : List Ent} (i : Bb) {h d} (hx : Da h [x, .vec 2 [.i .i64 i.1, .i .u32 i.2], .fn (.func 89) []] = [.pv (.sl f 15 (l.map Bm)), .vec 2 [.i .i64 i.1, .i .u32 i.2], .fn (.func 89) []]) (hl : Bh [x, .vec 2 [.i .i64 i.1, .i .u32 i.2], .fn (.func 89) []] = true) (hs : Cu l) (hn : l.length ≤ 1000) :
 FunOk Try.prog 88 [x, .vec 2 [.i .i64 i.1, .i .u32 i.2], .fn (.func 89) []] h d (.tup [.pv (.i .i64 (Er l i)), .pv (.b (Pn l i))]) [] := by
 refine Dd An fn88 (by simp) hl rfl fun F => ?_;rw [hx];simp (disch := omega) only [ir88, List.length_map, go_sem];refine Bc An (Agg f l i) (fun p => p.1 ≤ p.2 ∧ p.2 ≤ l.length ∧ (∀ j x, j < p.1 → l[j]? = some x → G1 x.id i = true) ∧ ∀ j x, p.2 ≤ j → l[j]? = some x → ¬ G1 x.id i = true) (fun p => p.2 - p.1) (0, l.length) ⟨by simp, by simp, by simp, fun j x hj hx => by simp only at hj; rw [List.getElem?_eq_none hj] at hx; cases hx⟩ (A2 ?_ ?_) fun p hp => ?_
 · (try simp only [Ii, Ih, Ig, Ie, Ic, Ib, Ia, H9]); simp (disch := omega) only [go_sem]
 · simp (disch := omega) only [go_sem]
 obtain ⟨a, b⟩ := p;obtain ⟨p1, p2, p3, p4⟩ := hp;simp only at p1 p2 p3 p4;by_cases hlt : a < b
 · have hm : (a + b) / 2 < l.length := by omega
   have hx : l[(a + b) / 2]? = some l[(a + b) / 2] := List.getElem?_eq_getElem hm;have he : (l.map Bm)[(a + b) / 2]? = some (Bm l[(a + b) / 2]) := by rw [List.getElem?_map, hx]; rfl
   have e1 : ((a : Int) + (b : Int)).fdiv (2 ^ min (Int.toNat 1) 64) = (((a + b) / 2 : Nat) : Int) := by
    rw [show (2 : Int) ^ min (Int.toNat 1) 64 = 2 from rfl, Int.fdiv_eq_ediv_of_nonneg _ (by omega)]; omega
   have hm1 : a ≤ (a + b) / 2 := by omega
   have hm2 : (a + b) / 2 < b := by omega
   generalize l[(a + b) / 2] = v at *;generalize (a + b) / 2 = m at *;simp (disch := omega) only [Agg, List.length_map, e1, he, L4, go_sem];refine Aa (Ax0 v i) ?_;by_cases hc : G1 v.id i = true
   · have e2 : (G9 v.id i < 0) = True := by rw [Ta]; exact eq_true hc
     simp (disch := omega) only [e2, go_sem];refine Av (x := (a, b)) (m + 1, b) _ _ rfl ⟨by show m + 1 ≤ b; omega, p2, fun j x hj hx' => ?_, p4⟩ (by show b - (m + 1) < b - a; omega) ?_ ?_
     · by_cases e : j = m
       · subst e; rw [hx] at hx'; cases hx'; exact hc
       · exact D5 (T4 hs hx' hx (by simp only at hj; omega)) hc
     · (try simp only [Ii, Ih, Ig, Ie, Ic, Ib, Ia, H9]); simp (disch := omega) only [go_sem]
     · simp (disch := omega) only [go_sem]
   · have e2 : (G9 v.id i < 0) = False := by rw [Ta]; exact eq_false hc
     simp (disch := omega) only [e2, go_sem];refine Av (x := (a, b)) (a, m) _ _ rfl ⟨by show a ≤ m; omega, by show m ≤ _; omega, p3, fun j x hj hx' => ?_⟩ (by show m - a < b - a; omega) ?_ ?_
     · by_cases e : j = m
       · subst e; rw [hx] at hx'; cases hx'; exact hc
       · exact fun q => hc (D5 (T4 hs hx hx' (by simp only at hj; omega)) q)
     · (try simp only [Ii, Ih, Ig, Ie, Ic, Ib, Ia, H9]); simp (disch := omega) only [go_sem]
     · simp (disch := omega) only [go_sem]
 · obtain rfl : a = b := by omega
   have hpos : Er l i = a := Agq p2 p3 fun x hx' => p4 a x (Nat.le_refl a) hx';by_cases hal : a < l.length
   · have hx' : l[a]? = some l[a] := List.getElem?_eq_getElem hal;have he : (l.map Bm)[a]? = some (Bm l[a]) := by rw [List.getElem?_map, hx']; rfl
     have hk := Pd hs i;rw [hpos, hx'] at hk;generalize l[a] = v at *;simp (disch := omega) only [Agg, hal, he, L4, List.length_map, go_sem];refine Aa (Ax0 v i) ?_;by_cases hv : v.id = i
     · have e2 : (G9 v.id i = 0) = True := by rw [Tc]; exact eq_true hv
       have e3 : Pn l i = true := by unfold Pn; rw [hk]; simp [hv]
       simp (disch := omega) only [e2, e3, hpos, go_sem]
     · have e2 : (G9 v.id i = 0) = False := by rw [Tc]; exact eq_false hv
       have e3 : Pn l i = false := by unfold Pn; rw [hk]; simp [hv]
       simp (disch := omega) only [e2, e3, hpos, go_sem]
   · have hk := Pd hs i;rw [hpos, List.getElem?_eq_none (by omega)] at hk;have e3 : Pn l i = false := by unfold Pn; rw [hk]; rfl
     simp (disch := omega) only [Agg, hal, hpos, e3, go_sem]
theorem Ax1 {x : SV} {f : Bool} {l : List Ent} (i : Bb) {h d} (hx : Da h [x, .vec 2 [.i .i64 i.1, .i .u32 i.2]] = [.pv (.sl f 15 (l.map Bm)), .vec 2 [.i .i64 i.1, .i .u32 i.2]]) (hl : Bh [x, .vec 2 [.i .i64 i.1, .i .u32 i.2]] = true) (hs : Cu l) (hn : l.length ≤ 1000) :
 FunOk Try.prog 77 [x, .vec 2 [.i .i64 i.1, .i .u32 i.2]] h d (.tup [.pv (.i .i64 (Er l i)), .pv (.b (Pn l i))]) [] := by
 refine Dd An fn77 (by simp) hl rfl fun F => ?_;rw [hx];simp (disch := omega) only [ir77, go_sem];refine Aa (A4h (l := l) i rfl rfl hs hn) ?_;simp (disch := omega) only [go_sem]
theorem A0a {a : SV} {f : Bool} {l : List Ent} (x : Ent) {h d} (hx : Da h [a, .vec 15 (Bm x)] = [.pv (.sl f 15 (l.map Bm)), .vec 15 (Bm x)]) (hl : Bh [a, .vec 15 (Bm x)] = true) (hs : Cu l) (hn : l.length ≤ 1000) :
 FunOk Try.prog 66 [a, .vec 15 (Bm x)] h d (.os d) [.new d (.row 15 ((P6 l x).map Bm))] := by
 refine Ahp An fn66 (by simp) hl (.inr (M9 _)) fun F => ?_;rw [hx];simp (disch := omega) only [ir66, Gv, go_sem];refine Aa (Ax1 (l := l) x.id rfl rfl hs hn) ?_;have hfl := M9 l;by_cases hi : Pn l x.id = true
 · have e : P6 l x = l := by unfold P6; rw [if_pos hi]
   simp (disch := omega) only [hi, e, go_sem];refine Aa (Um (es := l.map Bm) rfl rfl (.inr rfl) (by simp; omega) hfl) ?_;simp (disch := omega) only [go_sem]
 · have hi' : Pn l x.id = false := by simpa using hi
   have e : P6 l x = Ng l x := by unfold P6; rw [if_neg hi]
   have hc := E6 x;simp (disch := omega) only [hi', e, go_sem];refine Aa (Um (es := l.map Bm) rfl rfl (.inr rfl) (by simp; omega) hfl) ?_;simp (disch := omega) only [hc, L4, go_sem];have hp := Y1 l x.id;refine Aa (Az3 (l.map Bm) (Bm x) (Er l x.id) (by simp; omega) (by simp; omega) (fun c hc => by obtain ⟨y, _, rfl⟩ := List.mem_map.1 hc; exact E6 y) hc (by decide) (by decide) (by decide) (by decide) rfl rfl) ?_;simp (disch := omega) only [go_sem];simp [Ng, List.map_take, List.map_drop]
def A9 (v : Vc) (r : Int) (q : Nat) : Vc := if 1 ≤ r ∧ r ≤ 8 then C4 v (r - 1).toNat (max (v (r - 1).toNat) q) else v
set_option maxHeartbeats 1000000 in
theorem Y6 (v : Vc) (r : Int) (q : Nat) {h d} : FunOk Try.prog 49 [.vec 8 (vE v), .vec 2 [.i .i64 r, .i .u32 q]] h d (.vec 8 (vE (A9 v r q))) [] := by
 refine Ax An fn49 (by simp) rfl rfl fun F => ?_;by_cases h1 : 1 ≤ r
 · by_cases h2 : r ≤ 8
   · have e : A9 v r q = C4 v (r - 1).toNat (max (v (r - 1).toNat) q) := by unfold A9; rw [if_pos ⟨h1, h2⟩]
     obtain ⟨k, rfl⟩ : ∃ k : Nat, r = (k : Int) + 1 := ⟨(r - 1).toNat, by omega⟩
     have ek : ((k : Int) + 1 - 1) = (k : Int) := by omega
     rw [ek, Int.toNat_natCast] at e;rw [e];simp (disch := omega) only [ir49, ek, go_sem]
   · have e : A9 v r q = v := by unfold A9; rw [if_neg (by omega)]
     rw [e];simp (disch := omega) only [ir49, go_sem]
 · have e : A9 v r q = v := by unfold A9; rw [if_neg (by omega)]
   rw [e];simp (disch := omega) only [ir49, go_sem]
theorem Tr (a b : Vc) : Dn a b = Dn b a := funext fun i => Nat.max_comm _ _
theorem Gp (a b c : Vc) : Dn (Dn a b) c = Dn a (Dn b c) := funext fun i => Nat.max_assoc _ _ _
theorem Adc (a : Vc) : Dn a a = a := funext fun i => Nat.max_self _
def Auh (b : Bb) : Vc := fun i => if 1 ≤ b.1 ∧ b.1 ≤ 8 ∧ (i : Int) + 1 = b.1 then b.2 else 0
theorem Jh (v : Vc) (b : Bb) : A9 v b.1 b.2 = Dn v (Auh b) := by
 funext i;unfold A9 Dn Auh;by_cases h : 1 ≤ b.1 ∧ b.1 ≤ 8
 · rw [if_pos h];unfold C4;by_cases e : i = (b.1 - 1).toNat
   · rw [if_pos e, if_pos (by omega), e]
   · rw [if_neg e, if_neg (by omega)]; simp
 · rw [if_neg h, if_neg (by omega)]; simp
def A5j (x y : Ent) : Ent := { x with gone := Dn x.gone y.gone }
theorem Xi {l : List Ent} {i : Bb} {f : Ent → Ent} (h : ∀ y ∈ l, y.id ≠ i) : Sl l i f = l := by
 unfold Sl;have e1 : ∀ z ∈ l, (if z.id = i then f z else z) = id z := fun z hz => by rw [if_neg (h z hz)]; rfl
 rw [List.map_congr_left e1, List.map_id]
def Ad5 (l : List Ent) (x : Ent) : List Ent := if Pn l x.id = true then Sl l x.id (fun y => A5j y x) else Ng l x
def Fo : List Ent → Ent → Bool → List Ent
 | [], x, put => if put = true then [] else [x]
 | y :: l, x, put => if y.id = x.id then A5j y x :: Fo l x true else if put = false ∧ G1 x.id y.id = true then x :: y :: Fo l x true else y :: Fo l x put
theorem Nz : ∀ {l : List Ent} {x : Ent}, (∀ y ∈ l, y.id ≠ x.id) → Fo l x true = l
 | [], x, _ => by simp [Fo]
 | y :: l, x, h => by
   simp only [Fo];rw [if_neg (h y List.mem_cons_self), if_neg (by simp), Nz fun z hz => h z (List.mem_cons_of_mem _ hz)]
theorem Apo (y : Ent) (l : List Ent) (i : Bb) (h : y.id ≠ i) : Pn (y :: l) i = Pn l i := by unfold Pn; simp only [F3]; rw [if_neg h]
theorem Ahe {l : List Ent} {i : Bb} : Pn l i = false ↔ F3 l i = none := by unfold Pn; cases F3 l i <;> simp
theorem A56 {l : List Ent} {i : Bb} : Pn l i = true ↔ ∃ x, F3 l i = some x := by unfold Pn; cases F3 l i <;> simp
theorem W8 : ∀ {l : List Ent} {x : Ent}, Cu l → Fo l x false = Ad5 l x
 | [], x, _ => by simp [Fo, Ad5, Pn, F3, Ng, Er]
 | y :: l, x, hs => by
   obtain ⟨h1, h2⟩ := List.pairwise_cons.1 hs;simp only [Fo];by_cases e : y.id = x.id
   · have hne : ∀ z ∈ l, z.id ≠ x.id := fun z hz ez => Dt (by have := h1 z hz; rwa [e, ez] at this);rw [if_pos e, Nz hne];have : Pn (y :: l) x.id = true := by unfold Pn; simp [F3, e]
     unfold Ad5;rw [if_pos this];show _ = List.map _ (y :: l);rw [List.map_cons, if_pos e];congr 1;exact (Xi hne).symm
   · rw [if_neg e];by_cases hl : G1 x.id y.id = true
     · have hne : ∀ z ∈ l, z.id ≠ x.id := fun z hz ez => Dt (by have := D5 hl (h1 z hz); rwa [ez] at this);rw [if_pos (by simp [hl]), Nz hne];have : Pn (y :: l) x.id = false := Ahe.2 (Es.2 fun z hz => by
        rcases List.mem_cons.1 hz with rfl | hz
        · exact e
        · exact hne z hz)
       unfold Ad5;rw [if_neg (by rw [this]; simp), Q5, if_neg (Va hl)]
     · rw [if_neg fun h => hl h.2, W8 h2];unfold Ad5;rw [Apo y l _ e];split
       · simp [Sl, e]
       · rw [Q5, if_pos (Pq hl fun q => e q.symm)]
def L5 (b : Bb) (y : Ent) : Ent := { y with gone := Dn y.gone (Auh b) }
theorem Apj (b : Bb) (y : Ent) : (L5 b y).id = y.id := rfl
def killL (l : List Ent) (i b : Bb) : List Ent := Sl l i (L5 b)
theorem Ais {l : List Ent} (hs : Cu l) (i b : Bb) : Cu (killL l i b) := Am3 (Apj b) hs i
theorem Ava (l : List Ent) (i : Bb) (f : Ent → Ent) : (Sl l i f).length = l.length := by simp [Sl]
theorem A55 {l : List Ent} (hs : Cu l) {i : Bb} (h : Pn l i = true) : ∃ y, l[Er l i]? = some y ∧ F3 l i = some y := by
 obtain ⟨x, hx⟩ := A56.1 h;refine ⟨x, ?_, hx⟩;have := Pd hs i;rw [hx] at this;cases h1 : l[Er l i]? with
 | none => rw [h1] at this; cases this
 | some y =>
   rw [h1] at this;simp only at this;split at this
   · cases this; rfl
   · cases this
set_option maxHeartbeats 1000000 in
theorem Agy {a : SV} {f : Bool} {l : List Ent} (i b : Bb) {h d} (hx : Da h [a, .vec 2 [.i .i64 i.1, .i .u32 i.2], .vec 2 [.i .i64 b.1, .i .u32 b.2]] = [.pv (.sl f 15 (l.map Bm)), .vec 2 [.i .i64 i.1, .i .u32 i.2], .vec 2 [.i .i64 b.1, .i .u32 b.2]]) (hl : Bh [a, .vec 2 [.i .i64 i.1, .i .u32 i.2], .vec 2 [.i .i64 b.1, .i .u32 b.2]] = true) (hs : Cu l) (hn : l.length ≤ 1000) :
 FunOk Try.prog 80 [a, .vec 2 [.i .i64 i.1, .i .u32 i.2], .vec 2 [.i .i64 b.1, .i .u32 b.2]] h d (.os d) [.new d (.row 15 ((killL l i b).map Bm))] := by
 refine Ahp An fn80 (by simp) hl (.inr (M9 _)) fun F => ?_;rw [hx];have hfl := M9 l;simp (disch := omega) only [ir80, go_sem];refine Aa (Um (es := l.map Bm) rfl rfl (.inr rfl) (by simp; omega) hfl) ?_;simp (disch := omega) only [go_sem];refine Aa (Ax1 (l := l) i rfl rfl hs hn) ?_;by_cases hi : Pn l i = true
 · obtain ⟨y, h1, h2⟩ := A55 hs hi;have hp : Er l i < l.length := (List.getElem?_eq_some_iff.1 h1).1;have he : (l.map Bm)[Er l i]? = some (Bm y) := by rw [List.getElem?_map, h1]; rfl
   have hg : (l.map Bm).getD (Er l i) [] = Bm y := by rw [List.getD_eq_getElem?_getD, he]; rfl
   have hw := Air y (A9 y.gone b.1 b.2);have e : (l.map Bm).set (Er l i) (Bm { y with gone := A9 y.gone b.1 b.2 }) = (killL l i b).map Bm := by
    rw [Jh, ← List.map_set];congr 1;exact At0 hs (f := L5 b) h2
   have hv := Ce (A9 y.gone b.1 b.2);simp (disch := omega) only [hi, List.length_map, he, Aph, go_sem];refine Aa (Y6 _ _ _) ?_;simp (disch := omega) only [hg, hw, e, List.length_map, go_sem]
 · have hi' : Pn l i = false := by simpa using hi
   have e : killL l i b = l := Xi (Es.1 (Ahe.1 hi'));simp (disch := omega) only [hi', e, go_sem]
theorem M7 (a : Bb) : C6 [K1.int .i64, K1.int .u32] [.i .i64 a.1, .i .u32 a.2] = True := eq_true rfl
theorem Y2 {a b : Bb} (h : a = b) : Wn [.i .i64 a.1, .i .u32 a.2] [.i .i64 b.1, .i .u32 b.2] = true := by subst h; simp [Wn]
theorem Y3 {a b : Bb} (h : a ≠ b) : Wn [.i .i64 a.1, .i .u32 a.2] [.i .i64 b.1, .i .u32 b.2] = false := Su fun e => h (Prod.ext e.1 e.2)
structure SlI where
 f : Bool
 z : Nat
 l : List Bb
def SlI.pv (g : SlI) : PV := .sl g.f g.z (g.l.map H5)
def SlI.ok (g : SlI) : Prop := g.l = [] ∨ g.z = 2
def SlI.nil : SlI := ⟨true, 0, []⟩
structure Evt where
 rep : Int
 seq : Nat
 dep : Vc
 kind : Int
 orep : Int
 oseq : Nat
 drep : Int
 dseq : Nat
 name : List UInt8
 gone : SlI
 base : SlI
 off : Int
 data : List UInt8
 ward : Int
def Bo (e : Evt) : List PV := [.i .i64 e.rep, .i .u32 e.seq] ++ vE e.dep ++ [.i .i64 e.kind, .i .i64 e.orep, .i .u32 e.oseq, .i .i64 e.drep, .i .u32 e.dseq, .s e.name, e.gone.pv, e.base.pv, .i .i64 e.off, .s e.data, .i .i64 e.ward]
theorem Bn (e : Evt) : (Bo e).length = 21 := by simp [Bo, vE, Br]
theorem G6 (e : Evt) (K : KK) : LoadK (some (Bo e)) 0 1 false K = K (.pv (.i .i64 e.rep)) [] := by
 simp only [LoadK, Fz, eq_iff_iff];exact ⟨fun h => h.2.2, fun h => ⟨by simp [Bo, vE, Br], .inr trivial, h⟩⟩
theorem N6 (e : Evt) (K : KK) : LoadK (some (Bo e)) 1 1 false K = K (.pv (.i .u32 e.seq)) [] := by
 simp only [LoadK, Fz, eq_iff_iff];exact ⟨fun h => h.2.2, fun h => ⟨by simp [Bo, vE, Br], .inr trivial, h⟩⟩
theorem Az (e : Evt) (K : KK) : LoadK (some (Bo e)) 10 1 false K = K (.pv (.i .i64 e.kind)) [] := by
 simp only [LoadK, Fz, eq_iff_iff];exact ⟨fun h => h.2.2, fun h => ⟨by simp [Bo, vE, Br], .inr trivial, h⟩⟩
theorem E8 (e : Evt) (K : KK) : LoadK (some (Bo e)) 15 1 false K = K (.pv (.s e.name)) [] := by
 simp only [LoadK, Fz, eq_iff_iff];exact ⟨fun h => h.2.2, fun h => ⟨by simp [Bo, vE, Br], .inr trivial, h⟩⟩
theorem Kq (e : Evt) (K : KK) : LoadK (some (Bo e)) 16 1 false K = K (.pv (e.gone.pv)) [] := by
 simp only [LoadK, Fz, eq_iff_iff];exact ⟨fun h => h.2.2, fun h => ⟨by simp [Bo, vE, Br], .inr trivial, h⟩⟩
theorem Hi (e : Evt) (K : KK) : LoadK (some (Bo e)) 17 1 false K = K (.pv (e.base.pv)) [] := by
 simp only [LoadK, Fz, eq_iff_iff];exact ⟨fun h => h.2.2, fun h => ⟨by simp [Bo, vE, Br], .inr trivial, h⟩⟩
theorem Ph (e : Evt) (K : KK) : LoadK (some (Bo e)) 18 1 false K = K (.pv (.i .i64 e.off)) [] := by
 simp only [LoadK, Fz, eq_iff_iff];exact ⟨fun h => h.2.2, fun h => ⟨by simp [Bo, vE, Br], .inr trivial, h⟩⟩
theorem Ix (e : Evt) (K : KK) : LoadK (some (Bo e)) 19 1 false K = K (.pv (.s e.data)) [] := by
 simp only [LoadK, Fz, eq_iff_iff];exact ⟨fun h => h.2.2, fun h => ⟨by simp [Bo, vE, Br], .inr trivial, h⟩⟩
theorem Aha (e : Evt) (K : KK) : LoadK (some (Bo e)) 20 1 false K = K (.pv (.i .i64 e.ward)) [] := by
 simp only [LoadK, Fz, eq_iff_iff];exact ⟨fun h => h.2.2, fun h => ⟨by simp [Bo, vE, Br], .inr trivial, h⟩⟩
theorem Bv (e : Evt) (K : KK) : LoadK (some (Bo e)) 0 2 true K = K (.vec 2 ([.i .i64 e.rep, .i .u32 e.seq])) [] := by
 simp only [LoadK, Fz, eq_iff_iff];exact ⟨fun h => h.2.2, fun h => ⟨by simp [Bo, vE, Br], .inl trivial, h⟩⟩
theorem Jt (e : Evt) (K : KK) : LoadK (some (Bo e)) 2 8 true K = K (.vec 8 (vE e.dep)) [] := by
 simp only [LoadK, Fz, eq_iff_iff];exact ⟨fun h => h.2.2, fun h => ⟨by simp [Bo, vE, Br], .inl trivial, h⟩⟩
theorem Db (e : Evt) (K : KK) : LoadK (some (Bo e)) 11 2 true K = K (.vec 2 ([.i .i64 e.orep, .i .u32 e.oseq])) [] := by
 simp only [LoadK, Fz, eq_iff_iff];exact ⟨fun h => h.2.2, fun h => ⟨by simp [Bo, vE, Br], .inl trivial, h⟩⟩
theorem Ej (e : Evt) (K : KK) : LoadK (some (Bo e)) 13 2 true K = K (.vec 2 ([.i .i64 e.drep, .i .u32 e.dseq])) [] := by
 simp only [LoadK, Fz, eq_iff_iff];exact ⟨fun h => h.2.2, fun h => ⟨by simp [Bo, vE, Br], .inl trivial, h⟩⟩
theorem Bq (e : Evt) (K : KK) : LoadK (some (Bo e)) 0 21 true K = K (.vec 21 (Bo e)) [] := Uy (Bn e) K
theorem Kp (e : Evt) {j : Nat} (h : j < 8) (K : KK) : LoadK (some (Bo e)) (2 + j) 1 false K = K (.pv (.i .u32 (e.dep j))) [] := by
 have : j = 0 ∨ j = 1 ∨ j = 2 ∨ j = 3 ∨ j = 4 ∨ j = 5 ∨ j = 6 ∨ j = 7 := by omega
 simp only [LoadK, Fz, eq_iff_iff];rcases this with rfl | rfl | rfl | rfl | rfl | rfl | rfl | rfl <;> exact ⟨fun h => h.2.2, fun h => ⟨by simp [Bo, vE, Br], .inr trivial, h⟩⟩
theorem Ayv (e : Evt) (r : Int) (q : Nat) : splice (Bo e) 11 [.i .i64 r, .i .u32 q] = Bo { e with orep := r, oseq := q } := rfl
theorem Ayw (e : Evt) (r : Int) (q : Nat) : splice (Bo e) 13 [.i .i64 r, .i .u32 q] = Bo { e with drep := r, dseq := q } := rfl
theorem Io (e : Evt) (s : List UInt8) : splice (Bo e) 15 [.s s] = Bo { e with name := s } := rfl
theorem Atr (e : Evt) (f : Bool) (z : Nat) (l : List Bb) : splice (Bo e) 16 [.sl f z (l.map H5)] = Bo { e with gone := ⟨f, z, l⟩ } := rfl
theorem Ats (e : Evt) (f : Bool) (z : Nat) (l : List Bb) : splice (Bo e) 17 [.sl f z (l.map H5)] = Bo { e with base := ⟨f, z, l⟩ } := rfl
theorem Lp (e : Evt) (n : Int) : splice (Bo e) 18 [.i .i64 n] = Bo { e with off := n } := rfl
theorem Iq (e : Evt) (s : List UInt8) : splice (Bo e) 19 [.s s] = Bo { e with data := s } := rfl
theorem Il (e : Evt) (n : Int) : splice (Bo e) 20 [.i .i64 n] = Bo { e with ward := n } := rfl
theorem Im (e : Evt) : splice (Bo e) 11 [.i .i64 0, .i .u32 0] = Bo { e with orep := 0, oseq := 0 } := Ayv e 0 0
theorem Ip (e : Evt) : splice (Bo e) 13 [.i .i64 0, .i .u32 0] = Bo { e with drep := 0, dseq := 0 } := Ayw e 0 0
theorem Gq (e : Evt) : splice (Bo e) 16 [.sl true 0 []] = Bo { e with gone := .nil } := Atr e true 0 []
theorem Gr (e : Evt) : splice (Bo e) 17 [.sl true 0 []] = Bo { e with base := .nil } := Ats e true 0 []
theorem Dr (e e' : Evt) : splice (Bo e) 0 (Bo e') = Bo e' := rfl
attribute [go_sem] G6 N6 Az E8 Kq Hi Ph Ix Aha Bv Jt Db Ej Bq Bn SlI.pv E4 List.length_map
def Cl (e : Evt) : Evt :=
 if e.kind = 1 ∨ e.kind = 2 then { e with drep := 0, dseq := 0, name := [] }
 else if e.kind = 3 then { e with orep := 0, oseq := 0, base := .nil, off := 0, data := [] }
 else if e.kind = 4 then { e with orep := 0, oseq := 0, base := .nil, off := 0 }
 else if e.kind = 5 then { e with orep := 0, oseq := 0, base := .nil, data := [] }
 else if e.kind = 6 then { e with orep := 0, oseq := 0, gone := .nil }
 else if e.kind = 7 then { e with orep := 0, oseq := 0, gone := .nil, drep := 0, dseq := 0, name := [] }
 else if e.kind = 8 then { e with ward := 0 }
 else e
set_option maxHeartbeats 4000000 in
theorem Az8 (e : Evt) {h d} : FunOk Try.prog 58 [.vec 21 (Bo e)] h d (.vec 21 (Bo (Cl e))) [] := by
 refine Ax An fn58 (by simp) rfl rfl fun F => ?_;have hl := Bn e;by_cases h1 : e.kind = 1
 · have eb : Cl e = { e with drep := 0, dseq := 0, name := [] } := by simp [Cl, h1]
   simp (disch := omega) only [ir58, Az, h1, Ip, Io, Im, Gr, Gq, Lp, Iq, Il, Bq, Bn, eb, go_sem]
 by_cases h2 : e.kind = 2
 · have eb : Cl e = { e with drep := 0, dseq := 0, name := [] } := by simp [Cl, h2]
   simp (disch := omega) only [ir58, Az, h2, Ip, Io, Im, Gr, Gq, Lp, Iq, Il, Bq, Bn, eb, go_sem]
 by_cases h3 : e.kind = 3
 · have eb : Cl e = { e with orep := 0, oseq := 0, base := .nil, off := 0, data := [] } := by simp [Cl, h3]
   simp (disch := omega) only [ir58, Az, h3, Ip, Io, Im, Gr, Gq, Lp, Iq, Il, Bq, Bn, eb, go_sem]
 by_cases h4 : e.kind = 4
 · have eb : Cl e = { e with orep := 0, oseq := 0, base := .nil, off := 0 } := by simp [Cl, h4]
   simp (disch := omega) only [ir58, Az, h4, Ip, Io, Im, Gr, Gq, Lp, Iq, Il, Bq, Bn, eb, go_sem]
 by_cases h5 : e.kind = 5
 · have eb : Cl e = { e with orep := 0, oseq := 0, base := .nil, data := [] } := by simp [Cl, h5]
   simp (disch := omega) only [ir58, Az, h5, Ip, Io, Im, Gr, Gq, Lp, Iq, Il, Bq, Bn, eb, go_sem]
 by_cases h6 : e.kind = 6
 · have eb : Cl e = { e with orep := 0, oseq := 0, gone := .nil } := by simp [Cl, h6]
   simp (disch := omega) only [ir58, Az, h6, Ip, Io, Im, Gr, Gq, Lp, Iq, Il, Bq, Bn, eb, go_sem]
 by_cases h7 : e.kind = 7
 · have eb : Cl e = { e with orep := 0, oseq := 0, gone := .nil, drep := 0, dseq := 0, name := [] } := by simp [Cl, h7]
   simp (disch := omega) only [ir58, Az, h7, Ip, Io, Im, Gr, Gq, Lp, Iq, Il, Bq, Bn, eb, go_sem]
 by_cases h8 : e.kind = 8
 · have eb : Cl e = { e with ward := 0 } := by simp [Cl, h8]
   simp (disch := omega) only [ir58, Az, h8, Ip, Io, Im, Gr, Gq, Lp, Iq, Il, Bq, Bn, eb, go_sem]
 have eb : Cl e = e := by simp [Cl, h1, h2, h3, h4, h5, h6, h7, h8]
 simp (disch := omega) only [ir58, Az, h1, h2, h3, h4, h5, h6, h7, h8, Bq, Bn, eb, go_sem]
end Go.Proofs.Ythmjebkldgdeiaa.Fw
namespace Go.Proofs.Ythmjebkldgdeiaa.Fw
open Go.RowKit Go.Proofs
def Gn (r : Int) (q : Nat) : Bool := decide (r = 0 ∧ q = 0)
theorem Am (r : Int) (q : Nat) : C6 [K1.int .i64, K1.int .u32] [.i .i64 r, .i .u32 q] = True := eq_true rfl
theorem Aj : C6 [K1.int .i64, K1.int .u32] [.i .i64 0, .i .u32 0] = True := eq_true rfl
theorem Ai (r : Int) (q : Nat) : Wn [.i .i64 r, .i .u32 q] [.i .i64 0, .i .u32 0] = Gn r q := by
 by_cases h : r = 0 ∧ q = 0
 · rw [show Gn r q = true from decide_eq_true h];exact Agr (q' := 0) h
 · rw [show Gn r q = false from decide_eq_false h];exact Su (q' := 0) h
def Ey (e : Evt) : Bool := Gn e.drep e.dseq || A4 e.dep e.drep e.dseq
theorem Y7 (e : Evt) {h d} : FunOk Try.prog 60 [.vec 21 (Bo e)] h d (.pv (.b (Ey e))) [] := by
 refine Ax An fn60 (by simp) rfl rfl fun F => ?_;have hl := Bn e;cases hz : Gn e.drep e.dseq with
 | true =>
   have eb : Ey e = true := by simp [Ey, hz]
   simp (disch := omega) only [ir60, Ej, Bn, Am, Aj, Ai, hz, eb, go_sem]
 | false =>
   have eb : Ey e = A4 e.dep e.drep e.dseq := by simp [Ey, hz]
   simp (disch := omega) only [ir60, Ej, Jt, Bn, Am, Aj, Ai, hz, eb, go_sem];refine Aa (Fb _ _ _) ?_;simp (disch := omega) only [go_sem]
def Df (n : Int) : Bool := decide (0 ≤ n ∧ n ≤ 200)
theorem Uj (n : Int) {h d} : FunOk Try.prog 59 [.pv (.i .i64 n)] h d (.pv (.b (Df n))) [] := by
 refine Ax An fn59 (by simp) rfl rfl fun F => ?_;by_cases h1 : 0 ≤ n
 · have e : Df n = decide (n ≤ 200) := decide_eq_decide.2 (by omega);simp (disch := omega) only [ir59, h1, e, go_sem]
 · have e : Df n = false := decide_eq_false (by omega);simp (disch := omega) only [ir59, h1, e, go_sem]
def Asr (a : Vc) (l : List Bb) : Prop := ∀ i, (h : i < l.length) → A4 a l[i].1 l[i].2 = true ∧ (0 < i → Ca l[i - 1].1 l[i - 1].2 l[i].1 l[i].2 = true)
open Classical in
noncomputable def Ud (a : Vc) (l : List Bb) : Bool := decide (Asr a l)
theorem At6 {a : Vc} {l : List Bb} (h : Asr a l) : Ud a l = true := by simp [Ud, h]
theorem Agm {a : Vc} {l : List Bb} (h : ¬ Asr a l) : Ud a l = false := by simp [Ud, h]
theorem Ko (x : Bb) (K : KK) : LoadK (some (H5 x)) 0 2 true K = K (.vec 2 [.i .i64 x.1, .i .u32 x.2]) [] := Uy (by rfl) K
def Ov (f : Bool) (z : Nat) (l : List Bb) (a : Vc) (k : Nat) : FS := mk [(15, .pv (.i .i64 k)), (14, .pv (.i .i64 l.length)), (13, .pv (.sl f z (l.map H5))), (0, .pv (.sl f z (l.map H5))), (5, .p 5 0)] [(5, some (.var (.vec 8 (vE a))))]
noncomputable def Fl (l : List Bb) (most : Int) (a : Vc) : Bool := decide ((l.length : Int) ≤ most) && Ud a l
theorem Ai1 {a : Vc} {l : List Bb} {k : Nat} (hk : ∀ i, (h : i < l.length) → i < k → A4 a l[i].1 l[i].2 = true ∧ (0 < i → Ca l[i - 1].1 l[i - 1].2 l[i].1 l[i].2 = true)) (hlt : k < l.length)
 (h1 : A4 a l[k].1 l[k].2 = true) (h2 : 0 < k → Ca l[k - 1].1 l[k - 1].2 l[k].1 l[k].2 = true) : ∀ i, (h : i < l.length) → i < k + 1 → A4 a l[i].1 l[i].2 = true ∧ (0 < i → Ca l[i - 1].1 l[i - 1].2 l[i].1 l[i].2 = true) := fun i h hi => by
 by_cases e : i = k
 · subst e; exact ⟨h1, h2⟩
 · exact hk i h (by omega)
set_option maxHeartbeats 2000000 in
theorem Abe {f : Bool} {z : Nat} {l : List Bb} {most : Int} {a : Vc} {h d} (hz : l = [] ∨ z = 2) (hn : l.length ≤ 1000) :
 FunOk Try.prog 62 [.pv (.sl f z (l.map H5)), .pv (.i .i64 most), .vec 8 (vE a)] h d (.pv (.b (Fl l most a))) [] := by
 refine Ax An fn62 (by simp) rfl rfl fun F => ?_;by_cases hm : most < (l.length : Int)
 · have eb : Fl l most a = false := by
    have : ¬ (l.length : Int) ≤ most := by omega
    simp [Fl, this]
   simp (disch := omega) only [ir62, List.length_map, hm, eb, go_sem]
 have eb : Fl l most a = Ud a l := by
  have : (l.length : Int) ≤ most := by omega
  simp [Fl, this]
 rw [eb];simp (disch := omega) only [ir62, List.length_map, hm, go_sem];refine Bc An (Ov f z l a) (fun k => k ≤ l.length ∧ ∀ i, (h : i < l.length) → i < k → A4 a l[i].1 l[i].2 = true ∧ (0 < i → Ca l[i - 1].1 l[i - 1].2 l[i].1 l[i].2 = true)) (fun k => l.length - k) 0 (by simp) (A2 ?_ ?_) fun k hk => ?_
 · simp (disch := omega) only [List.length_map, go_sem]
 · simp (disch := omega) only [go_sem]
 obtain ⟨hk1, hk2⟩ := hk;by_cases hlt : k < l.length
 · have hz2 : z = 2 := hz.resolve_left fun e => by subst e; simp at hlt
   subst hz2;have he : (l.map H5)[k]? = some (H5 l[k]) := by simp [hlt]
   have hst := Ai1 hk2 hlt;by_cases hh : A4 a l[k].1 l[k].2 = true
   · by_cases h0 : k = 0
     · subst h0;have e0 : (l.map H5)[0]? = some (H5 l[0]) := he;simp (disch := omega) only [Ov, List.length_map, he, e0, Ko, E4, Int.natCast_zero, go_sem];refine Aa (Fb _ _ _) ?_;simp (disch := omega) only [hh, Int.natCast_zero, go_sem];refine Av (x := (0 : Nat)) (1 : Nat) _ _ rfl ⟨by omega, hst hh (by omega)⟩ (by omega) ?_ ?_
       · simp (disch := omega) only [go_sem]
       · simp (disch := omega) only [go_sem]
     · have hk' : k - 1 < l.length := by omega
       have he' : (l.map H5)[k - 1]? = some (H5 l[k - 1]) := by simp [hk']
       have ek : ((k : Int) - 1).toNat = k - 1 := by omega
       have hpos : (0 : Int) < k := by omega
       by_cases hlt2 : Ca l[k - 1].1 l[k - 1].2 l[k].1 l[k].2 = true
       · simp (disch := omega) only [Ov, List.length_map, he, he', ek, hpos, Ko, E4, go_sem];refine Aa (Fb _ _ _) ?_;simp (disch := omega) only [hh, he, he', ek, hpos, Ko, List.length_map, go_sem];refine Aa (Lw _ _ _ _) ?_;simp (disch := omega) only [hlt2, go_sem];refine Av (k + 1) _ _ rfl ⟨by omega, hst hh fun _ => hlt2⟩ (by omega) ?_ ?_
         · simp (disch := omega) only [go_sem]
         · simp (disch := omega) only [go_sem]
       · have hlt3 : Ca l[k - 1].1 l[k - 1].2 l[k].1 l[k].2 = false := by simpa using hlt2
         have er := Agm (a := a) (l := l) fun h => hlt2 ((h k hlt).2 (by omega));simp (disch := omega) only [Ov, List.length_map, he, he', ek, hpos, Ko, E4, go_sem];refine Aa (Fb _ _ _) ?_;simp (disch := omega) only [hh, he, he', ek, hpos, Ko, List.length_map, go_sem];refine Aa (Lw _ _ _ _) ?_;simp (disch := omega) only [hlt3, er, Ov, go_sem]
   · have hh' : A4 a l[k].1 l[k].2 = false := by simpa using hh
     have er := Agm (a := a) (l := l) fun h => hh (h k hlt).1;simp (disch := omega) only [Ov, List.length_map, he, Ko, E4, go_sem];refine Aa (Fb _ _ _) ?_;simp (disch := omega) only [hh', er, Ov, go_sem]
 · obtain rfl : k = l.length := by omega
   have er := At6 (a := a) (l := l) fun i h => hk2 i h h;simp (disch := omega) only [Ov, List.length_map, er, Ov, go_sem]
def H2 (e : Evt) (o d g b f t w : Bool) : Bool := (o || Gn e.orep e.oseq) && ((d || (Gn e.drep e.dseq && decide (e.name = []))) && ((g || decide ((e.gone.l.length : Int) = 0)) && ((b || decide ((e.base.l.length : Int) = 0)) && ((f || decide (e.off = 0)) && ((t || decide (e.data = [])) && (w || decide (e.ward = 0)))))))
inductive RdR where
 | skip
 | err (e : Int)
 | val (x : Int) (rest : List UInt8)
theorem Aag (n : Nat) : IntKind.u8.wrap (n : Int) = ((UInt8.ofNat n).toNat : Int) := by
 rw [UInt8.toNat_ofNat'];simp [IntKind.wrap, IntKind.signed, IntKind.bits]
theorem Axm (l p l' p') : Al0 (.it l p) (.it l' p') = (l = l' ∧ p = p') := (rfl)
attribute [go_sem] Axm
def Un (b : UInt8) : Bool := decide ((97 ≤ b.toNat ∧ b.toNat ≤ 122) ∨ (65 ≤ b.toNat ∧ b.toNat ≤ 90) ∨ (48 ≤ b.toNat ∧ b.toNat ≤ 57) ∨ b.toNat = 46 ∨ b.toNat = 95 ∨ b.toNat = 45)
def Eu (s : List UInt8) : Bool := decide (1 ≤ s.length ∧ s.length ≤ 12 ∧ s ≠ [46] ∧ s ≠ [46, 46]) && s.all Un
theorem Ak7 {s : List UInt8} {pos : Nat} (h : pos < s.length) (ha : (s.getD pos 0).toNat < 128) : P0 s pos = ((s.getD pos 0).toNat, 1) := by
 have hs : pos < (⟨s.toArray⟩ : ByteArray).size := by simpa [ByteArray.size] using h
 have e : (⟨s.toArray⟩ : ByteArray)[pos]'hs = s.getD pos 0 := by
  rw [List.getD_eq_getElem?_getD, List.getElem?_eq_getElem h]; rfl
 have := decode_ascii ⟨s.toArray⟩ pos hs (by rw [e]; exact ha);unfold P0;rw [this, e]
theorem Awq {s : List UInt8} {pos : Nat} (h : pos < s.length) (ha : ¬ (s.getD pos 0).toNat < 128) : 128 ≤ (P0 s pos).1 ∧ (P0 s pos).1 < 2147483648 := by
 have hs : pos < (⟨s.toArray⟩ : ByteArray).size := by simpa [ByteArray.size] using h
 have e : (⟨s.toArray⟩ : ByteArray).get! (pos + 0) = s.getD pos 0 := by
  show (⟨s.toArray⟩ : ByteArray).get! pos = _;have : (⟨s.toArray⟩ : ByteArray)[pos]'hs = s.getD pos 0 := by
   rw [List.getD_eq_getElem?_getD, List.getElem?_eq_getElem h]; rfl
  rw [← this];show (s.toArray)[pos]! = (s.toArray)[pos];rw [getElem!_pos]
 unfold P0 Utf8.decode;simp only [e, ha, if_false];unfold Utf8.runeError;split
 · split
   · simp only; omega
   · simp
 · split
   · split
     · rename_i hc; simp only [Bool.and_eq_true, decide_eq_true_eq] at hc ⊢; omega
     · simp
   · split
     · split
       · rename_i hc; simp only [Bool.and_eq_true, decide_eq_true_eq] at hc ⊢; omega
       · simp
     · simp
theorem Aq1 (n : Nat) (h : 128 ≤ n) : (Vq n).length ≤ 4 ∧ 2 ≤ (Vq n).length ∧ 128 ≤ ((Vq n).getD ((Vq n).length - 1) 0).toNat := by
 have key : ∀ c : Nat, 128 ≤ c → ∀ l : List UInt8, l = (if c < 0x80 then [UInt8.ofNat c] else if c < 0x800 then [UInt8.ofNat (0xC0 + c / 64), UInt8.ofNat (0x80 + c % 64)] else if c < 0x10000 then [UInt8.ofNat (0xE0 + c / 4096), UInt8.ofNat (0x80 + c / 64 % 64), UInt8.ofNat (0x80 + c % 64)] else [UInt8.ofNat (0xF0 + c / 262144), UInt8.ofNat (0x80 + c / 4096 % 64), UInt8.ofNat (0x80 + c / 64 % 64), UInt8.ofNat (0x80 + c % 64)]) → l.length ≤ 4 ∧ 2 ≤ l.length ∧ 128 ≤ (l.getD (l.length - 1) 0).toNat := by
  intro c hc l hl;have hb : 128 ≤ (UInt8.ofNat (0x80 + c % 64)).toNat := by rw [UInt8.toNat_ofNat']; omega
  rw [if_neg (by omega)] at hl;split at hl
  · subst hl; exact ⟨by simp, by simp, hb⟩
  · split at hl
    · subst hl; exact ⟨by simp, by simp, hb⟩
    · subst hl; exact ⟨by simp, by simp, hb⟩
 refine key (if Utf8.valid (n : Int) then n else 0xFFFD) (by split <;> omega) _ ?_;unfold Vq Utf8.encode Utf8.runeError;simp only [Int.toNat_natCast];generalize (if Utf8.valid (n : Int) = true then n else 0xFFFD) = c;split
 · rfl
 · split
   · rfl
   · split <;> rfl
theorem A4c (s : List UInt8) (c : UInt8) {h} : Yg Try.prog 106 [.pv (.s s), .pv (.i .u8 c.toNat)] h (.pv (.i .i64 (Lib.indexByte s c))) := by
 intro F N ρ st a w hR hh vs hc;simp only [ConcL] at hc;obtain ⟨v, us, rfl, hv, u, us', rfl, hu, rfl⟩ := hc;have hv := L6 hv;have hu := D8 hu;subst hv; subst hu;refine ⟨_, ?_, Ct⟩;rw [run_callFunc_extern (fn := (Try.prog.funcs[106]?).getD default) (by kernel_rfl) (by kernel_rfl) (by kernel_rfl) (by kernel_rfl) (e := Extern.BytealgIndexByte.indexByte) (by kernel_rfl)];rw [Lib.run_indexByteString];simp
theorem A4d (s : List UInt8) (c : UInt8) {h d} : FunOk Try.prog 103 [.pv (.s s), .pv (.i .u8 c.toNat)] h d (.pv (.i .i64 (Lib.indexByte s c))) [] := by
 refine Ax An fn103 (by simp) rfl rfl fun F => ?_;simp (disch := omega) only [ir103, go_sem];refine P4 (A4c s c) ?_;simp (disch := omega) only [go_sem]
theorem Az4 (s : List UInt8) (c : UInt8) {h d} : FunOk Try.prog 96 [.pv (.s s), .pv (.i .u8 c.toNat)] h d (.pv (.i .i64 (Lib.indexByte s c))) [] := by
 refine Ax An fn96 (by simp) rfl rfl fun F => ?_;simp (disch := omega) only [ir96, go_sem];refine Aa (A4d s c) ?_;simp (disch := omega) only [go_sem]
def Qh (n : Nat) : Bool := decide (n < 55296 ∨ 57343 < n ∧ n ≤ 1114111)
theorem Aui (n : Nat) {h d} : FunOk Try.prog 97 [.pv (.i .i32 n)] h d (.pv (.b (Qh n))) [] := by
 refine Ax An fn97 (by simp) rfl rfl fun F => ?_;have h0 : (0 : Int) ≤ n := by omega
 by_cases h1 : (n : Int) < 55296
 · have e : Qh n = true := decide_eq_true (by omega);simp (disch := omega) only [ir97, h0, h1, e, go_sem]
 by_cases h2 : (57343 : Int) < n
 · by_cases h3 : (n : Int) ≤ 1114111
   · have e : Qh n = true := decide_eq_true (by omega);simp (disch := omega) only [ir97, h0, h1, h2, h3, e, go_sem]
   · have e : Qh n = false := decide_eq_false (by omega);simp (disch := omega) only [ir97, h0, h1, h2, h3, e, go_sem]
 · have e : Qh n = false := decide_eq_false (by omega);simp (disch := omega) only [ir97, h0, h1, h2, e, go_sem]
def ixD (n : Nat) : Int := if n < 128 then Lib.indexByte [46, 95, 45] (UInt8.ofNat n) else -1
def Adr (k : Nat) : FS := mk [(175, .p 175 0), (0, .pv (.s [46, 95, 45]))] [(175, some (.it [46, 95, 45] k))]
def W0 (rs : List UInt8) (i : Int) (_ : Unit) : FS := mk [(9, .pv (.i .i64 i)), (8, .pv (.i .i64 i)), (7, .pv (.s rs)), (10, .pv (.i .i64 0)), (0, .pv (.s [46, 95, 45]))] []
theorem Ak0 (n : Nat) (h : 128 ≤ n) : (∃ a b, Vq n = [a, b] ∧ 128 ≤ b.toNat) ∨ (∃ a b c, Vq n = [a, b, c] ∧ 128 ≤ c.toNat) ∨ (∃ a b c d, Vq n = [a, b, c, d] ∧ 128 ≤ d.toNat) := by
 obtain ⟨h1, h2, h3⟩ := Aq1 n h;generalize Vq n = l at *
 match l, h1, h2, h3 with
 | [a, b], _, _, h3 => exact .inl ⟨a, b, rfl, h3⟩
 | [a, b, c], _, _, h3 => exact .inr (.inl ⟨a, b, c, rfl, h3⟩)
 | [a, b, c, d], _, _, h3 => exact .inr (.inr ⟨a, b, c, d, rfl, h3⟩)
 | [], _, h2, _ => simp at h2
 | [a], _, h2, _ => simp at h2
 | a :: b :: c :: d :: e :: r, h1, _, _ => simp at h1
theorem Ahh {s : List UInt8} {b : UInt8} (h : s = [95, 45] ∨ s = [45] ∨ s = []) (hb : 128 ≤ b.toNat) : Lib.indexByte s b = -1 := by
 have ne : ∀ c : UInt8, c.toNat < 128 → (c == b) = false := fun c hc => by
  rw [beq_eq_false_iff_ne]; intro e; subst e; omega
 rcases h with rfl | rfl | rfl <;> simp [Lib.indexByte, ne 95 (by decide), ne 45 (by decide)]
set_option maxHeartbeats 4000000 in
theorem Abd (n : Nat) (hn : n < 2147483648) {h d} : FunOk Try.prog 86 [.pv (.s [46, 95, 45]), .pv (.i .i32 n)] h d (.pv (.i .i64 (ixD n))) [] := by
 refine Ax An fn86 (by simp) rfl rfl fun F => ?_;have h0 : (0 : Int) ≤ n := by omega
 by_cases h1 : (n : Int) < 128
 · have e : ixD n = Lib.indexByte [46, 95, 45] (UInt8.ofNat n) := by unfold ixD; rw [if_pos (by omega)]
   have ew : IntKind.u8.wrap (n : Int) = ((UInt8.ofNat n).toNat : Int) := Aag _;simp (disch := omega) only [ir86, h0, h1, ew, go_sem];refine Aa (Az4 _ _) ?_;simp (disch := omega) only [e, go_sem]
 have e : ixD n = -1 := by unfold ixD; rw [if_neg (by omega)]
 by_cases h2 : (n : Int) = 65533
 · simp (disch := omega) only [ir86, h0, h1, h2, go_sem];have hl3 : (([46, 95, 45] : List UInt8).length) = 3 := rfl;have d0 : P0 [46, 95, 45] 0 = (46, 1) := by decide
   have d1 : P0 [46, 95, 45] 1 = (95, 1) := by decide
   have d2 : P0 [46, 95, 45] 2 = (45, 1) := by decide
   refine Bc An Adr (fun k => k ≤ 3) (fun k => 3 - k) 0 (by omega) (A2 ?_ ?_) fun k hk => ?_
   · simp (disch := omega) only [go_sem]
   · simp (disch := omega) only [go_sem]
   by_cases hlt : k < 3
   · have : k = 0 ∨ k = 1 ∨ k = 2 := by omega
     rcases this with rfl | rfl | rfl
     all_goals simp (disch := omega) only [Adr, hl3, d0, d1, d2, go_sem]
     · refine Av (x := (0 : Nat)) (1 : Nat) _ _ rfl (by omega) (by omega) ?_ ?_
       · simp (disch := omega) only [go_sem]
       · simp (disch := omega) only [go_sem]
     · refine Av (x := (1 : Nat)) (2 : Nat) _ _ rfl (by omega) (by omega) ?_ ?_
       · simp (disch := omega) only [go_sem]
       · simp (disch := omega) only [go_sem]
     · refine Av (x := (2 : Nat)) (3 : Nat) _ _ rfl (by omega) (by omega) ?_ ?_
       · simp (disch := omega) only [go_sem]
       · simp (disch := omega) only [go_sem]
   · obtain rfl : k = 3 := by omega
     simp (disch := omega) only [Adr, hl3, e, go_sem]
 · simp (disch := omega) only [ir86, h0, h1, h2, go_sem];refine Aa (Aui n) ?_;cases hv : Qh n with
   | false => simp (disch := omega) only [hv, e, go_sem]
   | true =>
     have hl3 : (([46, 95, 45] : List UInt8).length : Int) = 3 := rfl;rcases Ak0 n (by omega) with ⟨a, b, he, hb⟩ | ⟨a, b, c, he, hb⟩ | ⟨a, b, c, d, he, hb⟩
     ·
      have hlen : (([a, b] : List UInt8).length : Int) = 2 := rfl;have hg : ((([46, 95, 45] : List UInt8).getD (Int.toNat 1) 0).toNat : Int) = 95 := rfl;have hg' : ([a, b] : List UInt8).getD (Int.toNat 1) 0 = b := rfl;have hne : ¬ (95 : Int) = (b.toNat : Int) := by omega
      have hdr : List.drop ((1 : Int) + 1).toNat (List.take 3 ([46, 95, 45] : List UInt8)) = [45] := rfl;have hib : Lib.indexByte [45] b = -1 := Ahh (by simp) hb;simp (disch := omega) only [hv, he, hlen, go_sem];refine Bc An (W0 [a, b] 1) (fun _ => True) (fun _ => 0) () trivial (A2 ?_ ?_) fun _ _ => ?_
      · simp (disch := omega) only [go_sem]
      · simp (disch := omega) only [go_sem]
      simp (disch := omega) only [W0, hl3, hlen, hg, hg', hne, hdr, go_sem];refine Aa (Az4 [45] b) ?_;simp (disch := omega) only [hib, e, go_sem]
     ·
      have hlen : (([a, b, c] : List UInt8).length : Int) = 3 := rfl;have hg : ((([46, 95, 45] : List UInt8).getD (Int.toNat 2) 0).toNat : Int) = 45 := rfl;have hg' : ([a, b, c] : List UInt8).getD (Int.toNat 2) 0 = c := rfl;have hne : ¬ (45 : Int) = (c.toNat : Int) := by omega
      have hdr : List.drop ((2 : Int) + 1).toNat (List.take 3 ([46, 95, 45] : List UInt8)) = [] := rfl;have hib : Lib.indexByte [] c = -1 := Ahh (by simp) hb;simp (disch := omega) only [hv, he, hlen, go_sem];refine Bc An (W0 [a, b, c] 2) (fun _ => True) (fun _ => 0) () trivial (A2 ?_ ?_) fun _ _ => ?_
      · simp (disch := omega) only [go_sem]
      · simp (disch := omega) only [go_sem]
      simp (disch := omega) only [W0, hl3, hlen, hg, hg', hne, hdr, go_sem];refine Aa (Az4 [] c) ?_;simp (disch := omega) only [hib, e, go_sem]
     · have hlen : (([a, b, c, d] : List UInt8).length : Int) = 4 := rfl;simp (disch := omega) only [hv, he, hlen, go_sem];refine Bc An (W0 [a, b, c, d] 3) (fun _ => True) (fun _ => 0) () trivial (A2 ?_ ?_) fun _ _ => ?_
       · simp (disch := omega) only [go_sem]
       · simp (disch := omega) only [go_sem]
       simp (disch := omega) only [W0, hl3, hlen, e, go_sem]
def Ak4 (n : Nat) : Bool := decide (n = 46 ∨ n = 95 ∨ n = 45)
theorem Avm (n : Nat) : decide (0 ≤ ixD n) = Ak4 n := by
 by_cases h : n < 128
 · have : ∀ m, m < 128 → decide (0 ≤ ixD m) = Ak4 m := by decide
   exact this n h
 · have e : ixD n = -1 := by unfold ixD; rw [if_neg h]
   rw [e];have : ¬ (n = 46 ∨ n = 95 ∨ n = 45) := by omega
   simp [Ak4]; omega
theorem H0 (n : Nat) (hn : n < 2147483648) {h d} : FunOk Try.prog 71 [.pv (.s [46, 95, 45]), .pv (.i .i32 n)] h d (.pv (.b (Ak4 n))) [] := by
 refine Ax An fn71 (by simp) rfl rfl fun F => ?_;have e := Avm n;simp (disch := omega) only [ir71, go_sem];refine Aa (Abd n hn) ?_;simp (disch := omega) only [e, go_sem]
def Abs (n : Nat) : Bool := decide ((97 ≤ n ∧ n ≤ 122) ∨ (65 ≤ n ∧ n ≤ 90))
theorem Aba (n : Nat) {h d} : FunOk Try.prog 70 [.pv (.i .i32 n)] h d (.pv (.b (Abs n))) [] := by
 refine Ax An fn70 (by simp) rfl rfl fun F => ?_;have : n < 65 ∨ (65 ≤ n ∧ n ≤ 90) ∨ (91 ≤ n ∧ n ≤ 96) ∨ (97 ≤ n ∧ n ≤ 122) ∨ 123 ≤ n := by omega
 rcases this with h1 | h1 | h1 | h1 | h1
 · have e : Abs n = false := decide_eq_false (by omega);simp (disch := omega) only [ir70, e, go_sem]
 · have e : Abs n = true := decide_eq_true (by omega);simp (disch := omega) only [ir70, e, go_sem]
 · have e : Abs n = false := decide_eq_false (by omega);simp (disch := omega) only [ir70, e, go_sem]
 · have e : Abs n = true := decide_eq_true (by omega);simp (disch := omega) only [ir70, e, go_sem]
 · have e : Abs n = false := decide_eq_false (by omega);simp (disch := omega) only [ir70, e, go_sem]
theorem Abj {s : List UInt8} {k : Nat} (hk : k < s.length) (h : Un (s.getD k 0) = false) : Eu s = false := by
 have hm : s.getD k 0 ∈ s := by rw [List.getD_eq_getElem?_getD, List.getElem?_eq_getElem hk]; exact List.getElem_mem hk
 unfold Eu;rw [show s.all Un = false from by rw [List.all_eq_false]; exact ⟨_, hm, by rw [h]; decide⟩, Bool.and_false]
theorem Ajn {s : List UInt8} (h1 : 1 ≤ s.length) (h2 : s.length ≤ 12) (h3 : s ≠ [46]) (h4 : s ≠ [46, 46]) (h : ∀ k, k < s.length → Un (s.getD k 0) = true) : Eu s = true := by
 unfold Eu;rw [decide_eq_true ⟨h1, h2, h3, h4⟩, Bool.true_and, List.all_eq_true];intro b hb;obtain ⟨k, hk, rfl⟩ := List.getElem_of_mem hb;have := h k hk
 rwa [List.getD_eq_getElem?_getD, List.getElem?_eq_getElem hk] at this
theorem Zd {s : List UInt8} (h : ¬ (1 ≤ s.length ∧ s.length ≤ 12 ∧ s ≠ [46] ∧ s ≠ [46, 46])) : Eu s = false := by
 unfold Eu; rw [decide_eq_false h, Bool.false_and]
def Yp (s : List UInt8) (k : Nat) : FS := mk [(22, .p 22 0), (0, .pv (.s s))] [(22, some (.it s k))]
set_option maxHeartbeats 4000000 in
theorem Ad8 (s : List UInt8) {h d} : FunOk Try.prog 61 [.pv (.s s)] h d (.pv (.b (Eu s))) [] := by
 refine Ax An fn61 (by simp) rfl rfl fun F => ?_;by_cases h1 : s = []
 · subst h1;have e : Eu [] = false := Zd (by simp);have hl0 : (([] : List UInt8).length : Int) = 0 := rfl;simp (disch := omega) only [ir61, hl0, e, go_sem]
 have h1' : 1 ≤ s.length := List.length_pos_iff.2 h1;by_cases h2 : 12 < (s.length : Int)
 · have e : Eu s = false := Zd (by omega);simp (disch := omega) only [ir61, h1, h2, e, go_sem]
 by_cases h3 : s = [46]
 · subst h3;have e : Eu [46] = false := Zd (fun h => h.2.2.1 rfl);have hl0 : (([46] : List UInt8).length : Int) = 1 := rfl;simp (disch := omega) only [ir61, h1, hl0, e, go_sem]
 by_cases h4 : s = [46, 46]
 · subst h4;have e : Eu [46, 46] = false := Zd (fun h => h.2.2.2 rfl);have hl0 : (([46, 46] : List UInt8).length : Int) = 2 := rfl;simp (disch := omega) only [ir61, h1, h3, hl0, e, go_sem]
 simp (disch := omega) only [ir61, h1, h2, h3, h4, go_sem];refine Bc An (Yp s) (fun k => k ≤ s.length ∧ ∀ j, j < k → Un (s.getD j 0) = true) (fun k => s.length - k) 0 (by simp) (A2 ?_ ?_) fun k hk => ?_
 · simp (disch := omega) only [go_sem]
 · simp (disch := omega) only [go_sem]
 obtain ⟨hk1, hk2⟩ := hk;by_cases hlt : k < s.length
 · by_cases ha : (s.getD k 0).toNat < 128
   · have hd := Ak7 hlt ha;have hgo : Un (s.getD k 0) = true → (k + 1 ≤ s.length ∧ ∀ j, j < k + 1 → Un (s.getD j 0) = true) := fun h => ⟨hlt, fun j hj => by
      by_cases e : j = k
      · subst e; exact h
      · exact hk2 j (by omega)⟩
     have hbad := fun h => Abj (s := s) hlt h;generalize hb : s.getD k 0 = b at *;simp (disch := omega) only [Yp, hd, go_sem];refine Aa (Aba _) ?_;cases hL : Abs b.toNat with
     | true =>
       have hL' : (97 ≤ b.toNat ∧ b.toNat ≤ 122) ∨ (65 ≤ b.toNat ∧ b.toNat ≤ 90) := of_decide_eq_true hL;simp (disch := omega) only [hL, go_sem];refine Av (k + 1) _ _ rfl (hgo (decide_eq_true (by omega))) (by omega) ?_ ?_
       · simp (disch := omega) only [go_sem]
       · simp (disch := omega) only [go_sem]
     | false =>
       have hL' : ¬ ((97 ≤ b.toNat ∧ b.toNat ≤ 122) ∨ (65 ≤ b.toNat ∧ b.toNat ≤ 90)) := of_decide_eq_false hL;by_cases hdg : 48 ≤ b.toNat ∧ b.toNat ≤ 57
       · simp (disch := omega) only [hL, go_sem];refine Av (k + 1) _ _ rfl (hgo (decide_eq_true (by omega))) (by omega) ?_ ?_
         · simp (disch := omega) only [go_sem]
         · simp (disch := omega) only [go_sem]
       · have ht : b.toNat < 48 ∨ (48 ≤ b.toNat ∧ 57 < b.toNat) := by omega
         cases hdt : Ak4 b.toNat with
         | true =>
           have hdt' : b.toNat = 46 ∨ b.toNat = 95 ∨ b.toNat = 45 := of_decide_eq_true hdt;have hg := hgo (decide_eq_true (by omega));rcases ht with ht | ht
           all_goals simp (disch := omega) only [hL, go_sem]
           all_goals refine Aa (H0 b.toNat (by omega)) ?_
           all_goals simp (disch := omega) only [hdt, go_sem]
           all_goals refine Av (k + 1) _ _ rfl hg (by omega) ?_ ?_
           all_goals simp (disch := omega) only [go_sem]
         | false =>
           have hdt' : ¬ (b.toNat = 46 ∨ b.toNat = 95 ∨ b.toNat = 45) := of_decide_eq_false hdt;have hg := hbad (decide_eq_false (by omega));rcases ht with ht | ht
           all_goals simp (disch := omega) only [hL, go_sem]
           all_goals refine Aa (H0 b.toNat (by omega)) ?_
           all_goals simp (disch := omega) only [hdt, hg, go_sem]
   · obtain ⟨hd1, hd2⟩ := Awq hlt ha;have hg := Abj (s := s) hlt (decide_eq_false (by omega));generalize hc : (P0 s k).1 = c at *;have hL : Abs c = false := decide_eq_false (by omega);have hdt : Ak4 c = false := decide_eq_false (by omega);simp (disch := omega) only [Yp, hc, go_sem];refine Aa (Aba _) ?_;simp (disch := omega) only [hL, go_sem];refine Aa (H0 c hd2) ?_;simp (disch := omega) only [hdt, hg, go_sem]
 · obtain rfl : k = s.length := by omega
   have e := Ajn h1' (by omega) h3 h4 hk2;simp (disch := omega) only [Yp, e, go_sem]
end Go.Proofs.Ythmjebkldgdeiaa.Fw
namespace Go.Proofs.Ythmjebkldgdeiaa.Fw
open Go.RowKit Go.Proofs
def Wf (e : Evt) : Prop := 1 ≤ e.rep ∧ e.rep ≤ 8 ∧ 1 ≤ e.seq ∧ e.seq ≤ 1048576 ∧ e.dep (e.rep - 1).toNat + 1 = e.seq ∧ 1 ≤ e.kind ∧ e.kind ≤ 9
def Al1 (e : Evt) : Prop := ∀ i, i < 8 → e.dep i ≤ 1048576
def Cv (b : Evt) : Bool := Gn b.orep b.oseq && (Gn b.drep b.dseq && (decide (b.name = []) && (decide ((b.gone.l.length : Int) = 0) && (decide ((b.base.l.length : Int) = 0) && (decide (b.off = 0) && (decide (b.data = []) && decide (b.ward = 0)))))))
noncomputable def Ev (e : Evt) : Bool :=
 if e.kind = 1 ∨ e.kind = 2 then (Ey e && (Eu e.name))
 else if e.kind = 3 then (A4 e.dep e.orep e.oseq && (Fl e.base.l 1 e.dep && (Df (e.off) && (decide ((1 : Int) ≤ (e.data.length : Int)) && (Df ((e.data.length : Int)) && (Df (e.off + (e.data.length : Int))))))))
 else if e.kind = 4 then (A4 e.dep e.orep e.oseq && (Fl e.base.l 1 e.dep && (Df (e.off))))
 else if e.kind = 5 then (A4 e.dep e.orep e.oseq && (Fl e.base.l 8 e.dep && (decide ((2 : Int) ≤ (e.base.l.length : Int)) && (Df ((e.data.length : Int))))))
 else if e.kind = 6 then (A4 e.dep e.orep e.oseq && (Fl e.gone.l 8 e.dep))
 else if e.kind = 7 then (A4 e.dep e.orep e.oseq && (Fl e.gone.l 8 e.dep && (Ey e && (Eu e.name))))
 else if e.kind = 8 then (decide (1 ≤ e.ward) && (decide (e.ward ≤ 4)))
 else true
open Classical in
noncomputable def Bz (e : Evt) : Bool := decide (Wf e) && (decide (Al1 e) && (Cv (Cl e) && Ev e))
theorem K2 {e : Evt} (h : ¬ Wf e) : Bz e = false := by simp [Bz, h]
theorem Aww {e : Evt} (h : ¬ Al1 e) : Bz e = false := by simp [Bz, h]
theorem Awu {e : Evt} (h : Cv (Cl e) = false) : Bz e = false := by simp [Bz, h]
theorem Awv {e : Evt} (h1 : Wf e) (h2 : Al1 e) (h3 : Cv (Cl e) = true) : Bz e = Ev e := by simp [Bz, h1, h2, h3]
def ev (e : Evt) : Prop := e.gone.ok ∧ e.base.ok ∧ e.gone.l.length ≤ 1000 ∧ e.base.l.length ≤ 1000 ∧ e.data.length ≤ 100000
theorem Ahb {e : Evt} (h : e.kind = 1) : Ev e = (Ey e && (Eu e.name)) := by simp [Ev, h]
theorem Avi {e : Evt} (h : e.kind = 2) : Ev e = (Ey e && (Eu e.name)) := by simp [Ev, h]
theorem M5 {e : Evt} (h : e.kind = 3) : Ev e = (A4 e.dep e.orep e.oseq && (Fl e.base.l 1 e.dep && (Df (e.off) && (decide ((1 : Int) ≤ (e.data.length : Int)) && (Df ((e.data.length : Int)) && (Df (e.off + (e.data.length : Int)))))))) := by simp [Ev, h]
theorem S0 {e : Evt} (h : e.kind = 4) : Ev e = (A4 e.dep e.orep e.oseq && (Fl e.base.l 1 e.dep && (Df (e.off)))) := by simp [Ev, h]
theorem Sz {e : Evt} (h : e.kind = 5) : Ev e = (A4 e.dep e.orep e.oseq && (Fl e.base.l 8 e.dep && (decide ((2 : Int) ≤ (e.base.l.length : Int)) && (Df ((e.data.length : Int)))))) := by simp [Ev, h]
theorem Zl {e : Evt} (h : e.kind = 6) : Ev e = (A4 e.dep e.orep e.oseq && (Fl e.gone.l 8 e.dep)) := by simp [Ev, h]
theorem Zk {e : Evt} (h : e.kind = 7) : Ev e = (A4 e.dep e.orep e.oseq && (Fl e.gone.l 8 e.dep && (Ey e && (Eu e.name)))) := by simp [Ev, h]
theorem Avh {e : Evt} (h : e.kind = 8) : Ev e = (decide (1 ≤ e.ward) && (decide (e.ward ≤ 4))) := by simp [Ev, h]
theorem Avg {e : Evt} (h : e.kind = 9) : Ev e = (true) := by simp [Ev, h]
def Agf (e : Evt) (k : Nat) : FS := mk [(55, .pv (.i .i64 k)), (54, .vec 8 (vE e.dep)), (1, .p 1 0)] [(1, some (.var (.vec 21 (Bo e))))]
set_option maxHeartbeats 16000000 in
theorem Aun (e : Evt) (he : ev e) {h d} : FunOk Try.prog 48 [.vec 21 (Bo e)] h d (.pv (.b (Bz e))) [] := by
 refine Ax An fn48 (by simp) rfl rfl fun F => ?_;have hl := Bn e;obtain ⟨hg, hb, hgn, hbn, hdl⟩ := he;by_cases r1 : e.rep < 1
 · have eb := K2 (e := e) fun h => by have := h.1; omega
   simp (disch := omega) only [ir48, G6, r1, eb, go_sem]
 by_cases r2 : 8 < e.rep
 · have eb := K2 (e := e) fun h => by have := h.2.1; omega
   simp (disch := omega) only [ir48, G6, r1, r2, eb, go_sem]
 by_cases r3 : (e.seq : Int) < 1
 · have eb := K2 (e := e) fun h => by have := h.2.2.1; omega
   simp (disch := omega) only [ir48, G6, N6, r1, r2, r3, eb, go_sem]
 by_cases r4 : 1048576 < (e.seq : Int)
 · have eb := K2 (e := e) fun h => by have := h.2.2.2.1; omega
   simp (disch := omega) only [ir48, G6, N6, r1, r2, r3, r4, eb, go_sem]
 obtain ⟨k, hk⟩ : ∃ k : Nat, e.rep = (k : Int) + 1 := ⟨(e.rep - 1).toNat, by omega⟩
 have hk8 : k < 8 := by omega
 have ek : ((k : Int) + 1 - 1) = (k : Int) := by omega
 have ekn : (e.rep - 1).toNat = k := by omega
 by_cases r5 : (e.dep k : Int) = (e.seq : Int) - 1;rotate_left
 · have eb := K2 (e := e) fun h => by have := h.2.2.2.2.1; rw [ekn] at this; omega
   simp (disch := omega) only [ir48, G6, N6, Kp, hk, ek, r3, r4, r5, eb, go_sem]
 by_cases r6 : e.kind < 1
 · have eb := K2 (e := e) fun h => by have := h.2.2.2.2.2.1; omega
   simp (disch := omega) only [ir48, G6, N6, Az, Kp, hk, ek, r3, r4, r5, r6, eb, go_sem]
 by_cases r7 : 9 < e.kind
 · have eb := K2 (e := e) fun h => by have := h.2.2.2.2.2.2; omega
   simp (disch := omega) only [ir48, G6, N6, Az, Kp, hk, ek, r3, r4, r5, r6, r7, eb, go_sem]
 have hB : Wf e := ⟨by omega, by omega, by omega, by omega, by rw [ekn]; omega, by omega, by omega⟩
 simp (disch := omega) only [ir48, G6, N6, Az, Jt, Kp, hk, ek, r3, r4, r5, r6, r7, go_sem];refine Bc An (Agf e) (fun k => k ≤ 8 ∧ ∀ i, i < k → e.dep i ≤ 1048576) (fun k => 8 - k) 0 (by simp) (A2 ?_ ?_) fun j hj => ?_
 · simp (disch := omega) only [go_sem]
 · simp (disch := omega) only [go_sem]
 obtain ⟨hj1, hj2⟩ := hj;by_cases hlt : j < 8
 · by_cases hd : 1048576 < (e.dep j : Int)
   · have eb := Aww (e := e) fun h => by have := h j hlt; omega
     simp (disch := omega) only [Agf, hd, eb, go_sem]
   · simp (disch := omega) only [Agf, hd, go_sem];refine Av (j + 1) _ _ rfl ⟨by omega, fun i hi => ?_⟩ (by omega) ?_ ?_
     · by_cases e : i = j
       · subst e; omega
       · exact hj2 i (by omega)
     · simp (disch := omega) only [go_sem]
     · simp (disch := omega) only [go_sem]
 obtain rfl : j = 8 := by omega
 have hD : Al1 e := hj2;simp (disch := omega) only [Agf, Bq, go_sem];refine Aa (Az8 e) ?_;have cz := Awu (e := e);have ck := fun h3 => Awv (e := e) hB hD h3;have hbl := Bn (Cl e);generalize Cl e = b at *

 by_cases z1' : Gn b.orep b.oseq = false
 · have eb := cz (by simp only [Cv, z1', decide_true, decide_false, Bool.true_and, Bool.false_and, Bool.and_true, Bool.and_false, Bool.and_self]);simp (disch := omega) only [Am, Aj, Ai, Dr, hl, hbl, z1', eb, go_sem]
 have z1 : Gn b.orep b.oseq = true := by simpa using z1'
 by_cases z2' : Gn b.drep b.dseq = false
 · have eb := cz (by simp only [Cv, z1, z2', decide_true, decide_false, Bool.true_and, Bool.false_and, Bool.and_true, Bool.and_false, Bool.and_self]);simp (disch := omega) only [Am, Aj, Ai, Dr, hl, hbl, z1, z2', eb, go_sem]
 have z2 : Gn b.drep b.dseq = true := by simpa using z2'
 by_cases z3 : b.name = [];rotate_left
 · have eb := cz (by simp only [Cv, z1, z2, z3, decide_true, decide_false, Bool.true_and, Bool.false_and, Bool.and_true, Bool.and_false, Bool.and_self]);simp (disch := omega) only [Am, Aj, Ai, Dr, hl, hbl, z1, z2, z3, eb, go_sem]
 by_cases z4 : (b.gone.l.length : Int) = 0;rotate_left
 · have eb := cz (by simp only [Cv, z1, z2, z3, z4, decide_true, decide_false, Bool.true_and, Bool.false_and, Bool.and_true, Bool.and_false, Bool.and_self]);simp (disch := omega) only [Am, Aj, Ai, Dr, hl, hbl, z1, z2, z3, z4, eb, go_sem]
 by_cases z5 : (b.base.l.length : Int) = 0;rotate_left
 · have eb := cz (by simp only [Cv, z1, z2, z3, z4, z5, decide_true, decide_false, Bool.true_and, Bool.false_and, Bool.and_true, Bool.and_false, Bool.and_self]);simp (disch := omega) only [Am, Aj, Ai, Dr, hl, hbl, z1, z2, z3, z4, z5, eb, go_sem]
 by_cases z6 : b.off = 0;rotate_left
 · have eb := cz (by simp only [Cv, z1, z2, z3, z4, z5, z6, decide_true, decide_false, Bool.true_and, Bool.false_and, Bool.and_true, Bool.and_false, Bool.and_self]);simp (disch := omega) only [Am, Aj, Ai, Dr, hl, hbl, z1, z2, z3, z4, z5, z6, eb, go_sem]
 by_cases z7 : b.data = [];rotate_left
 · have eb := cz (by simp only [Cv, z1, z2, z3, z4, z5, z6, z7, decide_true, decide_false, Bool.true_and, Bool.false_and, Bool.and_true, Bool.and_false, Bool.and_self]);simp (disch := omega) only [Am, Aj, Ai, Dr, hl, hbl, z1, z2, z3, z4, z5, z6, z7, eb, go_sem]
 by_cases z8 : b.ward = 0;rotate_left
 · have eb := cz (by simp only [Cv, z1, z2, z3, z4, z5, z6, z7, z8, decide_true, decide_false, Bool.true_and, Bool.false_and, Bool.and_true, Bool.and_false, Bool.and_self]);simp (disch := omega) only [Am, Aj, Ai, Dr, hl, hbl, z1, z2, z3, z4, z5, z6, z7, z8, eb, go_sem]
 have ez := ck (by simp only [Cv, z1, z2, z3, z4, z5, z6, z7, z8, decide_true, decide_false, Bool.true_and, Bool.false_and, Bool.and_true, Bool.and_false, Bool.and_self]);have hkk : e.kind = 1 ∨ e.kind = 2 ∨ e.kind = 3 ∨ e.kind = 4 ∨ e.kind = 5 ∨ e.kind = 6 ∨ e.kind = 7 ∨ e.kind = 8 ∨ e.kind = 9 := by omega
 rcases hkk with hki | hki | hki | hki | hki | hki | hki | hki | hki
 · rw [Ahb hki] at ez;simp (disch := omega) only [Am, Aj, Ai, Dr, hl, hbl, z1, z2, z3, z4, z5, z6, z7, z8, hki, go_sem];refine Aa (Y7 e) ?_;by_cases s0' : Ey e = false
   · simp only [s0', decide_true, decide_false, Bool.true_and, Bool.false_and, Bool.and_true, Bool.and_false, Bool.and_self] at ez;simp (disch := omega) only [Am, Aj, Ai, s0', ez, go_sem]
   have s0 : Ey e = true := by simpa using s0'
   simp (disch := omega) only [Am, Aj, Ai, s0, go_sem];refine Aa (Ad8 _) ?_;by_cases s1' : Eu e.name = false
   · simp only [s0, s1', decide_true, decide_false, Bool.true_and, Bool.false_and, Bool.and_true, Bool.and_false, Bool.and_self] at ez;simp (disch := omega) only [Am, Aj, Ai, s0, s1', ez, go_sem]
   have s1 : Eu e.name = true := by simpa using s1'
   simp only [s0, s1, decide_true, decide_false, Bool.true_and, Bool.false_and, Bool.and_true, Bool.and_false, Bool.and_self] at ez;simp (disch := omega) only [Am, Aj, Ai, s0, s1, ez, go_sem]
 · rw [Avi hki] at ez;simp (disch := omega) only [Am, Aj, Ai, Dr, hl, hbl, z1, z2, z3, z4, z5, z6, z7, z8, hki, go_sem];refine Aa (Y7 e) ?_;by_cases s0' : Ey e = false
   · simp only [s0', decide_true, decide_false, Bool.true_and, Bool.false_and, Bool.and_true, Bool.and_false, Bool.and_self] at ez;simp (disch := omega) only [Am, Aj, Ai, s0', ez, go_sem]
   have s0 : Ey e = true := by simpa using s0'
   simp (disch := omega) only [Am, Aj, Ai, s0, go_sem];refine Aa (Ad8 _) ?_;by_cases s1' : Eu e.name = false
   · simp only [s0, s1', decide_true, decide_false, Bool.true_and, Bool.false_and, Bool.and_true, Bool.and_false, Bool.and_self] at ez;simp (disch := omega) only [Am, Aj, Ai, s0, s1', ez, go_sem]
   have s1 : Eu e.name = true := by simpa using s1'
   simp only [s0, s1, decide_true, decide_false, Bool.true_and, Bool.false_and, Bool.and_true, Bool.and_false, Bool.and_self] at ez;simp (disch := omega) only [Am, Aj, Ai, s0, s1, ez, go_sem]
 · rw [M5 hki] at ez;simp (disch := omega) only [Am, Aj, Ai, Dr, hl, hbl, z1, z2, z3, z4, z5, z6, z7, z8, hki, go_sem];refine Aa (Fb _ _ _) ?_;by_cases s0' : A4 e.dep e.orep e.oseq = false
   · simp only [s0', decide_true, decide_false, Bool.true_and, Bool.false_and, Bool.and_true, Bool.and_false, Bool.and_self] at ez;simp (disch := omega) only [Am, Aj, Ai, s0', ez, go_sem]
   have s0 : A4 e.dep e.orep e.oseq = true := by simpa using s0'
   simp (disch := omega) only [Am, Aj, Ai, s0, go_sem];refine Aa (Abe (l := e.base.l) (most := 1) hb hbn) ?_;by_cases s1' : Fl e.base.l 1 e.dep = false
   · simp only [s0, s1', decide_true, decide_false, Bool.true_and, Bool.false_and, Bool.and_true, Bool.and_false, Bool.and_self] at ez;simp (disch := omega) only [Am, Aj, Ai, s0, s1', ez, go_sem]
   have s1 : Fl e.base.l 1 e.dep = true := by simpa using s1'
   simp (disch := omega) only [Am, Aj, Ai, s0, s1, go_sem];refine Aa (Uj (e.off)) ?_;by_cases s2' : Df (e.off) = false
   · simp only [s0, s1, s2', decide_true, decide_false, Bool.true_and, Bool.false_and, Bool.and_true, Bool.and_false, Bool.and_self] at ez;simp (disch := omega) only [Am, Aj, Ai, s0, s1, s2', ez, go_sem]
   have s2 : Df (e.off) = true := by simpa using s2'
   have s2b := of_decide_eq_true s2;by_cases s3 : (1 : Int) ≤ (e.data.length : Int);rotate_left
   · simp only [s0, s1, s2, s3, decide_true, decide_false, Bool.true_and, Bool.false_and, Bool.and_true, Bool.and_false, Bool.and_self] at ez;simp (disch := omega) only [Am, Aj, Ai, s0, s1, s2, s3, ez, go_sem]
   simp (disch := omega) only [Am, Aj, Ai, s0, s1, s2, s3, go_sem];refine Aa (Uj ((e.data.length : Int))) ?_;by_cases s4' : Df ((e.data.length : Int)) = false
   · simp only [s0, s1, s2, s3, s4', decide_true, decide_false, Bool.true_and, Bool.false_and, Bool.and_true, Bool.and_false, Bool.and_self] at ez;simp (disch := omega) only [Am, Aj, Ai, s0, s1, s2, s3, s4', ez, go_sem]
   have s4 : Df ((e.data.length : Int)) = true := by simpa using s4'
   have s4b := of_decide_eq_true s4;simp (disch := omega) only [Am, Aj, Ai, s0, s1, s2, s3, s4, go_sem];refine Aa (Uj (e.off + (e.data.length : Int))) ?_;by_cases s5' : Df (e.off + (e.data.length : Int)) = false
   · simp only [s0, s1, s2, s3, s4, s5', decide_true, decide_false, Bool.true_and, Bool.false_and, Bool.and_true, Bool.and_false, Bool.and_self] at ez;simp (disch := omega) only [Am, Aj, Ai, s0, s1, s2, s3, s4, s5', ez, go_sem]
   have s5 : Df (e.off + (e.data.length : Int)) = true := by simpa using s5'
   have s5b := of_decide_eq_true s5;simp only [s0, s1, s2, s3, s4, s5, decide_true, decide_false, Bool.true_and, Bool.false_and, Bool.and_true, Bool.and_false, Bool.and_self] at ez;simp (disch := omega) only [Am, Aj, Ai, s0, s1, s2, s3, s4, s5, ez, go_sem]
 · rw [S0 hki] at ez;simp (disch := omega) only [Am, Aj, Ai, Dr, hl, hbl, z1, z2, z3, z4, z5, z6, z7, z8, hki, go_sem];refine Aa (Fb _ _ _) ?_;by_cases s0' : A4 e.dep e.orep e.oseq = false
   · simp only [s0', decide_true, decide_false, Bool.true_and, Bool.false_and, Bool.and_true, Bool.and_false, Bool.and_self] at ez;simp (disch := omega) only [Am, Aj, Ai, s0', ez, go_sem]
   have s0 : A4 e.dep e.orep e.oseq = true := by simpa using s0'
   simp (disch := omega) only [Am, Aj, Ai, s0, go_sem];refine Aa (Abe (l := e.base.l) (most := 1) hb hbn) ?_;by_cases s1' : Fl e.base.l 1 e.dep = false
   · simp only [s0, s1', decide_true, decide_false, Bool.true_and, Bool.false_and, Bool.and_true, Bool.and_false, Bool.and_self] at ez;simp (disch := omega) only [Am, Aj, Ai, s0, s1', ez, go_sem]
   have s1 : Fl e.base.l 1 e.dep = true := by simpa using s1'
   simp (disch := omega) only [Am, Aj, Ai, s0, s1, go_sem];refine Aa (Uj (e.off)) ?_;by_cases s2' : Df (e.off) = false
   · simp only [s0, s1, s2', decide_true, decide_false, Bool.true_and, Bool.false_and, Bool.and_true, Bool.and_false, Bool.and_self] at ez;simp (disch := omega) only [Am, Aj, Ai, s0, s1, s2', ez, go_sem]
   have s2 : Df (e.off) = true := by simpa using s2'
   have s2b := of_decide_eq_true s2;simp only [s0, s1, s2, decide_true, decide_false, Bool.true_and, Bool.false_and, Bool.and_true, Bool.and_false, Bool.and_self] at ez;simp (disch := omega) only [Am, Aj, Ai, s0, s1, s2, ez, go_sem]
 · rw [Sz hki] at ez;simp (disch := omega) only [Am, Aj, Ai, Dr, hl, hbl, z1, z2, z3, z4, z5, z6, z7, z8, hki, go_sem];refine Aa (Fb _ _ _) ?_;by_cases s0' : A4 e.dep e.orep e.oseq = false
   · simp only [s0', decide_true, decide_false, Bool.true_and, Bool.false_and, Bool.and_true, Bool.and_false, Bool.and_self] at ez;simp (disch := omega) only [Am, Aj, Ai, s0', ez, go_sem]
   have s0 : A4 e.dep e.orep e.oseq = true := by simpa using s0'
   simp (disch := omega) only [Am, Aj, Ai, s0, go_sem];refine Aa (Abe (l := e.base.l) (most := 8) hb hbn) ?_;by_cases s1' : Fl e.base.l 8 e.dep = false
   · simp only [s0, s1', decide_true, decide_false, Bool.true_and, Bool.false_and, Bool.and_true, Bool.and_false, Bool.and_self] at ez;simp (disch := omega) only [Am, Aj, Ai, s0, s1', ez, go_sem]
   have s1 : Fl e.base.l 8 e.dep = true := by simpa using s1'
   by_cases s2 : (2 : Int) ≤ (e.base.l.length : Int);rotate_left
   · simp only [s0, s1, s2, decide_true, decide_false, Bool.true_and, Bool.false_and, Bool.and_true, Bool.and_false, Bool.and_self] at ez;simp (disch := omega) only [Am, Aj, Ai, s0, s1, s2, ez, go_sem]
   simp (disch := omega) only [Am, Aj, Ai, s0, s1, s2, go_sem];refine Aa (Uj ((e.data.length : Int))) ?_;by_cases s3' : Df ((e.data.length : Int)) = false
   · simp only [s0, s1, s2, s3', decide_true, decide_false, Bool.true_and, Bool.false_and, Bool.and_true, Bool.and_false, Bool.and_self] at ez;simp (disch := omega) only [Am, Aj, Ai, s0, s1, s2, s3', ez, go_sem]
   have s3 : Df ((e.data.length : Int)) = true := by simpa using s3'
   have s3b := of_decide_eq_true s3;simp only [s0, s1, s2, s3, decide_true, decide_false, Bool.true_and, Bool.false_and, Bool.and_true, Bool.and_false, Bool.and_self] at ez;simp (disch := omega) only [Am, Aj, Ai, s0, s1, s2, s3, ez, go_sem]
 · rw [Zl hki] at ez;simp (disch := omega) only [Am, Aj, Ai, Dr, hl, hbl, z1, z2, z3, z4, z5, z6, z7, z8, hki, go_sem];refine Aa (Fb _ _ _) ?_;by_cases s0' : A4 e.dep e.orep e.oseq = false
   · simp only [s0', decide_true, decide_false, Bool.true_and, Bool.false_and, Bool.and_true, Bool.and_false, Bool.and_self] at ez;simp (disch := omega) only [Am, Aj, Ai, s0', ez, go_sem]
   have s0 : A4 e.dep e.orep e.oseq = true := by simpa using s0'
   simp (disch := omega) only [Am, Aj, Ai, s0, go_sem];refine Aa (Abe (l := e.gone.l) (most := 8) hg hgn) ?_;by_cases s1' : Fl e.gone.l 8 e.dep = false
   · simp only [s0, s1', decide_true, decide_false, Bool.true_and, Bool.false_and, Bool.and_true, Bool.and_false, Bool.and_self] at ez;simp (disch := omega) only [Am, Aj, Ai, s0, s1', ez, go_sem]
   have s1 : Fl e.gone.l 8 e.dep = true := by simpa using s1'
   simp only [s0, s1, decide_true, decide_false, Bool.true_and, Bool.false_and, Bool.and_true, Bool.and_false, Bool.and_self] at ez;simp (disch := omega) only [Am, Aj, Ai, s0, s1, ez, go_sem]
 · rw [Zk hki] at ez;simp (disch := omega) only [Am, Aj, Ai, Dr, hl, hbl, z1, z2, z3, z4, z5, z6, z7, z8, hki, go_sem];refine Aa (Fb _ _ _) ?_;by_cases s0' : A4 e.dep e.orep e.oseq = false
   · simp only [s0', decide_true, decide_false, Bool.true_and, Bool.false_and, Bool.and_true, Bool.and_false, Bool.and_self] at ez;simp (disch := omega) only [Am, Aj, Ai, s0', ez, go_sem]
   have s0 : A4 e.dep e.orep e.oseq = true := by simpa using s0'
   simp (disch := omega) only [Am, Aj, Ai, s0, go_sem];refine Aa (Abe (l := e.gone.l) (most := 8) hg hgn) ?_;by_cases s1' : Fl e.gone.l 8 e.dep = false
   · simp only [s0, s1', decide_true, decide_false, Bool.true_and, Bool.false_and, Bool.and_true, Bool.and_false, Bool.and_self] at ez;simp (disch := omega) only [Am, Aj, Ai, s0, s1', ez, go_sem]
   have s1 : Fl e.gone.l 8 e.dep = true := by simpa using s1'
   simp (disch := omega) only [Am, Aj, Ai, s0, s1, go_sem];refine Aa (Y7 e) ?_;by_cases s2' : Ey e = false
   · simp only [s0, s1, s2', decide_true, decide_false, Bool.true_and, Bool.false_and, Bool.and_true, Bool.and_false, Bool.and_self] at ez;simp (disch := omega) only [Am, Aj, Ai, s0, s1, s2', ez, go_sem]
   have s2 : Ey e = true := by simpa using s2'
   simp (disch := omega) only [Am, Aj, Ai, s0, s1, s2, go_sem];refine Aa (Ad8 _) ?_;by_cases s3' : Eu e.name = false
   · simp only [s0, s1, s2, s3', decide_true, decide_false, Bool.true_and, Bool.false_and, Bool.and_true, Bool.and_false, Bool.and_self] at ez;simp (disch := omega) only [Am, Aj, Ai, s0, s1, s2, s3', ez, go_sem]
   have s3 : Eu e.name = true := by simpa using s3'
   simp only [s0, s1, s2, s3, decide_true, decide_false, Bool.true_and, Bool.false_and, Bool.and_true, Bool.and_false, Bool.and_self] at ez;simp (disch := omega) only [Am, Aj, Ai, s0, s1, s2, s3, ez, go_sem]
 · rw [Avh hki] at ez;by_cases s0 : 1 ≤ e.ward;rotate_left
   · simp only [s0, decide_true, decide_false, Bool.true_and, Bool.false_and, Bool.and_true, Bool.and_false, Bool.and_self] at ez;simp (disch := omega) only [Am, Aj, Ai, Dr, hl, hbl, z1, z2, z3, z4, z5, z6, z7, z8, hki, s0, ez, go_sem]
   by_cases s1 : e.ward ≤ 4;rotate_left
   · simp only [s0, s1, decide_true, decide_false, Bool.true_and, Bool.false_and, Bool.and_true, Bool.and_false, Bool.and_self] at ez;simp (disch := omega) only [Am, Aj, Ai, Dr, hl, hbl, z1, z2, z3, z4, z5, z6, z7, z8, hki, s0, s1, ez, go_sem]
   simp only [s0, s1, decide_true, decide_false, Bool.true_and, Bool.false_and, Bool.and_true, Bool.and_false, Bool.and_self] at ez;simp (disch := omega) only [Am, Aj, Ai, Dr, hl, hbl, z1, z2, z3, z4, z5, z6, z7, z8, hki, s0, s1, ez, go_sem]
 · rw [Avg hki] at ez;simp (disch := omega) only [Am, Aj, Ai, Dr, hl, hbl, z1, z2, z3, z4, z5, z6, z7, z8, hki, ez, go_sem]
theorem Arj {e : Evt} (h1 : Wf e) (h2 : Al1 e) : Bz e = (Cv (Cl e) && Ev e) := by simp [Bz, h1, h2]
theorem Ti : Gn 0 0 = true := rfl
theorem A3e {e : Evt} (h : e.kind = 1) : Cv (Cl e) = H2 e false true false false false false false := by simp [Cv, Cl, H2, h, Ti, SlI.nil, Bool.and_assoc]
theorem A8g {e : Evt} (h : e.kind = 2) : Cv (Cl e) = H2 e false true false false false false false := by simp [Cv, Cl, H2, h, Ti, SlI.nil, Bool.and_assoc]
theorem A8f {e : Evt} (h : e.kind = 4) : Cv (Cl e) = H2 e true false false true true false false := by simp [Cv, Cl, H2, h, Ti, SlI.nil, Bool.and_assoc]
theorem A8e {e : Evt} (h : e.kind = 8) : Cv (Cl e) = H2 e false false false false false false true := by simp [Cv, Cl, H2, h, Ti, SlI.nil, Bool.and_assoc]
theorem A8d {e : Evt} (h : e.kind = 9) : Cv (Cl e) = H2 e false false false false false false false := by simp [Cv, Cl, H2, h, Ti, SlI.nil, Bool.and_assoc]
end Go.Proofs.Ythmjebkldgdeiaa.Fw
namespace Go.Proofs.Ythmjebkldgdeiaa.Fw
open Go.RowKit Go.Proofs
def zs (n : Nat) : List UInt8 := List.replicate n 0
theorem Ac7 (n : Nat) : (zs n).length = n := by simp [zs]
theorem Asv (n : Nat) : zs (n + 1) = zs n ++ [0] := by simp [zs, List.replicate_succ']
theorem A8b : zs 0 = [] := rfl
theorem A3x (l : List UInt8) : A3 l ++ [[.i .u8 0]] = A3 (l ++ [0]) := by
 rw [← Sd]; rfl
def Kk (data : List UInt8) (o : Nat) (s : List UInt8) : List UInt8 :=
 (data ++ zs (o + s.length - data.length)).take o ++ s ++ (data ++ zs (o + s.length - data.length)).drop (o + s.length)
def E3 (data : List UInt8) (off : Int) (s : List UInt8) : Prop := off < 0 ∨ 200 < off ∨ 200 < (data.length : Int) ∨ 200 - off < s.length
open Classical in
noncomputable def Qt (data : List UInt8) (off : Int) (s : List UInt8) : SV := if E3 data off s then .tup [.pv (.s []), .pv (.i .i64 4)] else .tup [.pv (.s (Kk data off.toNat s)), .pv (.i .i64 0)]
theorem Kj {data off s} (h : E3 data off s) : Qt data off s = .tup [.pv (.s []), .pv (.i .i64 4)] := by unfold Qt; rw [if_pos h]
theorem Qs {data off s} (h : ¬ E3 data off s) : Qt data off s = .tup [.pv (.s (Kk data off.toNat s)), .pv (.i .i64 0)] := by unfold Qt; rw [if_neg h]
def Yo (data s : List UInt8) (o k : Nat) : FS := mk [(8, .os 60), (2, .pv (.s s)), (1, .pv (.i .i64 o))] [(60, some (.row 1 (A3 (data ++ zs k))))]
set_option maxHeartbeats 2000000 in
theorem Agw (data s : List UInt8) (off : Int) {h d} : FunOk Try.prog 83 [.pv (.s data), .pv (.i .i64 off), .pv (.s s)] h d (Qt data off s) [] := by
 refine Ax An fn83 (by simp) rfl (by unfold Qt; split <;> rfl) fun F => ?_;by_cases h1 : off < 0
 · rw [Kj (.inl h1)];simp (disch := omega) only [ir83, go_sem]
 by_cases h2 : 200 < off
 · rw [Kj (.inr (.inl h2))];simp (disch := omega) only [ir83, go_sem]
 by_cases h3 : 200 < (data.length : Int)
 · rw [Kj (.inr (.inr (.inl h3)))];simp (disch := omega) only [ir83, go_sem]
 by_cases h4 : 200 - off < (s.length : Int)
 · rw [Kj (.inr (.inr (.inr h4)))];simp (disch := omega) only [ir83, go_sem]
 have hok : ¬ E3 data off s := by unfold E3; omega
 obtain ⟨o, rfl⟩ : ∃ o : Nat, off = o := ⟨off.toNat, by omega⟩
 rw [Qs hok];simp (disch := omega) only [ir83, go_sem];refine Bc An (Yo data s o) (fun k => k ≤ o + s.length - data.length) (fun k => o + s.length - data.length - k) 0 (by omega) (J6 28 60 (by decide) rfl (A2 ?_ ?_)) fun k hk => ?_
 · simp (disch := omega) only [go_sem]
 · simp (disch := omega) only [A8b, go_sem]
 have hl : (data ++ zs k).length = data.length + k := by simp [zs]
 by_cases hlt : data.length + k < o + s.length
 · simp (disch := omega) only [Yo, hl, A3x, go_sem];refine ⟨k + 1, by omega, by omega, J6 38 60 (by decide) rfl (A2 ?_ ?_)⟩
   · simp (disch := omega) only [go_sem]
   · simp (disch := omega) only [Asv, List.append_assoc, go_sem]
 · obtain rfl : k = o + s.length - data.length := by omega
   have hp : Kk data o s = (data ++ zs (o + s.length - data.length)).take o ++ s ++ (data ++ zs (o + s.length - data.length)).drop (o + s.length) := rfl;generalize hX : data ++ zs (o + s.length - data.length) = X at *;have hle : o + s.length ≤ X.length := by omega
   have e1 : min s.length (X.length - o) = s.length := by omega
   have e2 : s.take (X.length - o) = s := List.take_of_length_le (by omega);simp (disch := omega) only [Yo, hX, e1, e2, hp, go_sem]
def Sp (data : List UInt8) (n : Nat) : List UInt8 := if n < data.length then data.take n else data ++ zs (n - data.length)
open Classical in
noncomputable def X3 (data : List UInt8) (n : Int) : SV := if n < 0 ∨ 200 < n then .tup [.pv (.s []), .pv (.i .i64 4)] else .tup [.pv (.s (Sp data n.toNat)), .pv (.i .i64 0)]
theorem X2 {data n} (h : n < 0 ∨ 200 < n) : X3 data n = .tup [.pv (.s []), .pv (.i .i64 4)] := by unfold X3; rw [if_pos h]
theorem Vt {data n} (h : ¬ (n < 0 ∨ 200 < n)) : X3 data n = .tup [.pv (.s (Sp data n.toNat)), .pv (.i .i64 0)] := by unfold X3; rw [if_neg h]
theorem A8c (n : Nat) : List.replicate n [PV.i .u8 0] = A3 (zs n) := by simp [zs, A3]
set_option maxHeartbeats 2000000 in
theorem Axz (data : List UInt8) (n : Int) (hd : data.length ≤ 1000) {h d} : FunOk Try.prog 82 [.pv (.s data), .pv (.i .i64 n)] h d (X3 data n) [] := by
 refine Ax An fn82 (by simp) rfl (by unfold X3; split <;> rfl) fun F => ?_;by_cases h1 : n < 0
 · rw [X2 (.inl h1)];simp (disch := omega) only [ir82, go_sem]
 by_cases h2 : 200 < n
 · rw [X2 (.inr h2)];simp (disch := omega) only [ir82, go_sem]
 rw [Vt (by omega)];obtain ⟨o, rfl⟩ : ∃ o : Nat, n = o := ⟨n.toNat, by omega⟩
 by_cases hlt : o < data.length
 · have e : Sp data o = data.take o := by unfold Sp; rw [if_pos hlt]
   simp (disch := omega) only [ir82, e, go_sem]
 · have e : Sp data o = data ++ zs (o - data.length) := by unfold Sp; rw [if_neg hlt]
   have e1 : ((o : Int) - (data.length : Int)).toNat = o - data.length := by omega
   have hz := Ac7 (o - data.length);simp (disch := omega) only [ir82, e, e1, A8c, hz, go_sem]
theorem A4b {m n lo hi : Nat} {es fs : List (List PV)} {h} (hm : h m = some (.row 11 fs)) (hn : h n = some (.row 11 es)) (hne : m ≠ n) (hfs : fs ≠ []) (hes : es ≠ []) (hlt : lo < hi) : Yg Try.prog 94 [.os m, .ov n 11 lo hi] h (.pv (.b false)) := by
 intro F N ρ s a w hR hh vs hc;simp only [ConcL] at hc;obtain ⟨v, us, rfl, hv, u, us', rfl, hu, rfl⟩ := hc;have hsm := (hh m (by simp [Aw, tn])).trans hm;have hsn := (hh n (by simp [Aw, tn])).trans hn;refine ⟨.bool false, ?_, Dx⟩;rw [run_callFunc_extern (fn := (Try.prog.funcs[94]?).getD default) (by kernel_rfl) (by kernel_rfl) (by kernel_rfl) (by kernel_rfl) (e := Extern.SlicesOverlaps.overlaps #[82, 82] #[4]) (by kernel_rfl)];rw [Hy (tS := 82) (e := 95) (by kernel_rfl) (by kernel_rfl) (by decide) hR hsm hsn hne hfs hes hlt hv hu];rfl
set_option maxHeartbeats 4000000 in
theorem Abc (es : List (List PV)) (cs : List PV) (i : Nat) (hi : i ≤ es.length) (hb : es.length ≤ 1000) (hes : ∀ c ∈ es, c.length = 11) (hcs : cs.length = 11) {h d} (h1 : h 16 = some (.row 11 es)) (h2 : h 55 = some (.row 11 [cs])) : FunOk Try.prog 85 [.os 16, .pv (.i .i64 i), .os 55] h d (.os d) [.del 16, .del 55, .new d (.row 11 (es.take i ++ cs :: es.drop i))] := by
 refine Zt An fn85 (by simp) rfl fun F => ?_;simp only [B9];by_cases he : i = es.length
 · subst he;have e1 : es.take es.length ++ cs :: es.drop es.length = es ++ [cs] := by simp
   rw [e1];simp (disch := omega) only [ir85, h1, h2, go_sem]
 · have hne : es ≠ [] := by intro e; subst e; simp at hi; exact he (by simpa using hi)
   simp (disch := omega) only [ir85, h1, h2, go_sem];intro c hc;by_cases hcap : c < es.length + 1
   · have hp : ((c : Int) < (es.length : Int) + ((1 : Nat) : Int)) = True := eq_true (by omega);have ek : ((es.length : Int) + ((1 : Nat) : Int) - (i : Int)).toNat = es.length + 1 - i := by omega
     (try simp only [Ii, Ih, Ig, Ie, Ic, Ib, Ia, H9]); simp (disch := omega) only [hp, ek, go_sem]
     generalize hT : List.take i es ++ List.replicate (es.length + 1 - i) _ = T;have hTl : T.length = es.length + 1 := by rw [← hT]; simp; omega
     have t1 : T.take i = es.take i := by
      rw [← hT, List.take_append_of_le_length (by simp; omega), List.take_take, Nat.min_self]
     have hi' : (es.take i).length = i := by simp; omega
     have m1 : min 1 (es.length + 1 - i) = 1 := by omega
     have m2 : [cs].take (es.length + 1 - i) = [cs] := List.take_of_length_le (by simp; omega);have hU : (es.take i ++ [cs] ++ T.drop (i + 1)).length = es.length + 1 := by simp [hTl]; omega
     have e1 : ((i : Int) + ((1 : Nat) : Int)).toNat = i + 1 := by omega
     have u1 : (es.take i ++ [cs] ++ T.drop (i + 1)).take (i + 1) = es.take i ++ [cs] := by
      rw [List.take_append_of_le_length (by simp; omega)];exact List.take_of_length_le (by simp; omega)
     have u2 : (es.take es.length).drop i = es.drop i := by rw [List.take_length]
     have u3 : min (es.drop i).length (es.length + 1 - (i + 1)) = es.length - i := by simp
     have u4 : (es.drop i).take (es.length + 1 - (i + 1)) = es.drop i := List.take_of_length_le (by simp);have u5 : (es.take i ++ [cs] ++ T.drop (i + 1)).drop (i + 1 + (es.length - i)) = [] := List.drop_of_length_le (by rw [hU]; omega);have u6 : es.take i ++ cs :: es.drop i = es.take i ++ [cs] ++ es.drop i := by simp
     simp only [hTl, t1, m1, m2, e1, List.length_singleton];simp only [hU, u1, u2, u3, u4, u5, u6, List.append_nil];exact ⟨by omega, by omega, trivial⟩
   · have hp : ((c : Int) < (es.length : Int) + ((1 : Nat) : Int)) = False := eq_false (by omega)
     (try simp only [Ii, Ih, Ig, Ie, Ic, Ib, Ia, H9]); simp (disch := omega) only [hp, go_sem]
     intro g hg hgs;have hg1 : g.length = 1 := by omega
     have e1 : ((i : Int) + ((1 : Nat) : Int)).toNat = i + 1 := by omega
     have hE : (es ++ g).length = es.length + 1 := by simp [hg1]
     refine ⟨by omega, ?_⟩;rw [e1];refine P4 (A4b (es := es ++ g) (fs := [cs]) rfl rfl (by decide) (by simp) (by simp [hne]) (by omega)) ?_;have v1 : ((es ++ g).take (es ++ g).length).drop i = (es ++ g).drop i := by rw [List.take_length]
     have v2 : min ((es ++ g).drop i).length ((es ++ g).length - (i + 1)) = es.length - i := by simp [hg1]; omega
     have v3 : ((es ++ g).drop i).take ((es ++ g).length - (i + 1)) = es.drop i := by
      rw [hE, List.drop_append_of_le_length hi, show es.length + 1 - (i + 1) = (es.drop i).length from by simp];exact List.take_left
     have v4 : (es ++ g).drop (i + 1 + (es.length - i)) = [] := List.drop_of_length_le (by omega);have v5 : ((es ++ g).take (i + 1) ++ es.drop i).length = es.length + 1 := by simp [hg1]; omega
     have v6 : ((es ++ g).take (i + 1) ++ es.drop i).take i = es.take i := by
      rw [List.take_append_of_le_length (by simp; omega), List.take_take, Nat.min_eq_left (by omega), List.take_append_of_le_length hi]
     have v7 : ((es ++ g).take (i + 1) ++ es.drop i).drop (i + 1) = es.drop i := by
      rw [List.drop_append_of_le_length (by simp; omega), List.drop_of_length_le (by simp; omega), List.nil_append]
     have m1 : min 1 (es.length + 1 - i) = 1 := by omega
     have m2 : [cs].take (es.length + 1 - i) = [cs] := List.take_of_length_le (by simp; omega);have u6 : es.take i ++ cs :: es.drop i = es.take i ++ [cs] ++ es.drop i := by simp
     simp (disch := omega) only [e1, v1, v2, v3, v4, v5, v6, v7, m1, m2, u6, go_sem]
theorem Aum {x : SV} {f : Bool} {z : Nat} {es : List (List PV)} {h d} (hx : Da h [x] = [.pv (.sl f z es)]) (hl : Bh [x] = true) (hz : es = [] ∨ z = 11) (hb : es.length ≤ 1000) (hs : SV.closedL [x] = true) :
 FunOk Try.prog 47 [x] h d (.os d) [.new d (.row 11 es)] := by
 refine Ab9 An fn47 (by simp) hl (.inl hs) fun F => ?_;rw [hx];simp (disch := omega) only [ir47, go_sem];intro b hb';cases b
 · simp (disch := omega) only [go_sem]
 · have he : es = [] := by
    cases es with
    | nil => rfl
    | cons c l => exact absurd (hb' (by simp)) (by simp)
   subst he
   (try simp only [Ii, Ih, Ig, Ie, Ic, Ib, Ia, H9]); simp (disch := omega) only [go_sem]
   decide
structure Ver where
 rep : Int
 seq : Nat
 data : List UInt8
 gone : Vc
def Bk (v : Ver) : List PV := .i .i64 v.rep :: .i .u32 v.seq :: .s v.data :: vE v.gone
def P5 : List Ver → Int → Nat → Nat → Nat × Bool
 | [], _, _, k => (k, false)
 | v :: l, r, q, k => if v.rep = r ∧ v.seq = q then (k, true) else if Ca r q v.rep v.seq = true then (k, false) else P5 l r q (k + 1)
theorem Pg (v : Ver) (K : KK) : LoadK (some (Bk v)) 0 2 true K = K (.vec 2 [.i .i64 v.rep, .i .u32 v.seq]) [] := by
 simp only [LoadK, Fz, eq_iff_iff];exact ⟨fun h => h.2.2, fun h => ⟨by simp [Bk], .inl trivial, h⟩⟩
theorem Aem (v : Ver) (K : KK) : LoadK (some (Bk v)) 0 11 true K = K (.vec 11 (Bk v)) [] := by
 simp only [LoadK, Fz, eq_iff_iff];have e : ((Bk v).drop 0).take 11 = Bk v := List.take_of_length_le (by simp [Bk, vE, Br]);rw [e];exact ⟨fun h => h.2.2, fun h => ⟨by simp [Bk, vE, Br], .inl trivial, h⟩⟩
theorem Ae5 (r : Int) (q : Nat) : C6 [K1.int .i64, K1.int .u32] [.i .i64 r, .i .u32 q] = True := eq_true rfl
def Ato (f : Bool) (l : List Ver) (r : Int) (q k : Nat) : FS := mk [(10, .pv (.i .i64 k)), (9, .pv (.i .i64 l.length)), (8, .pv (.sl f 11 (l.map Bk))), (3, .p 3 0), (0, .pv (.sl f 11 (l.map Bk)))] [(3, some (.var (.vec 2 [.i .i64 r, .i .u32 q])))]
set_option maxHeartbeats 1000000 in
theorem Az9 {x : SV} {f : Bool} {l : List Ver} (r : Int) (q : Nat) {h d} (hx : Da h [x, .vec 2 [.i .i64 r, .i .u32 q]] = [.pv (.sl f 11 (l.map Bk)), .vec 2 [.i .i64 r, .i .u32 q]]) (hl : Bh [x, .vec 2 [.i .i64 r, .i .u32 q]] = true) (hn : l.length ≤ 1000) :
 FunOk Try.prog 84 [x, .vec 2 [.i .i64 r, .i .u32 q]] h d (.tup [.pv (.i .i64 (P5 l r q 0).1), .pv (.b (P5 l r q 0).2)]) [] := by
 refine Dd An fn84 (by simp) hl rfl fun F => ?_;rw [hx];simp (disch := omega) only [ir84, List.length_map, go_sem];refine Bc An (Ato f l r q) (fun k => k ≤ l.length ∧ P5 l r q 0 = P5 (l.drop k) r q k) (fun k => l.length - k) 0 (by simp) (A2 ?_ ?_) fun k hk => ?_
 · simp (disch := omega) only [go_sem]
 · simp (disch := omega) only [go_sem]
 obtain ⟨hk1, hk2⟩ := hk;by_cases hlt : k < l.length
 · have hd : l.drop k = l[k] :: l.drop (k + 1) := List.drop_eq_getElem_cons hlt;have he : (l.map Bk)[k]? = some (Bk l[k]) := by simp [hlt]
   rw [hd] at hk2;generalize l[k] = v at *;simp only [P5] at hk2;by_cases hid : v.rep = r ∧ v.seq = q
   · rw [if_pos hid] at hk2;have hp := Agr hid;simp (disch := omega) only [Ato, List.length_map, he, Aem, Pg, Ae5, hp, hk2, go_sem]
   · rw [if_neg hid] at hk2;have hp := Su hid;simp (disch := omega) only [Ato, List.length_map, he, Aem, Pg, Ae5, hp, go_sem];refine Aa (Lw _ _ _ _) ?_;by_cases hl : Ca r q v.rep v.seq = true
     · rw [if_pos hl] at hk2;simp (disch := omega) only [hl, hk2, go_sem]
     · rw [if_neg hl] at hk2;have hl' : Ca r q v.rep v.seq = false := by simpa using hl
       simp (disch := omega) only [hl', go_sem];refine Av (k + 1) _ _ rfl ⟨by omega, hk2⟩ (by omega) ?_ ?_
       · simp (disch := omega) only [List.length_map, go_sem]
       · simp (disch := omega) only [go_sem]
 · have : k = l.length := by omega
   subst this;rw [List.drop_length] at hk2;simp only [P5] at hk2;rw [hk2]
   (try simp only [Ii, Ih, Ig, Ie, Ic, Ib, Ia, H9]); simp (disch := omega) only [Ato, List.length_map, go_sem]
theorem Apg (v : Ver) (K : KK) : LoadK (some (Bk v)) 3 8 true K = K (.vec 8 (vE v.gone)) [] := by
 simp only [LoadK, Fz, eq_iff_iff];have e : ((Bk v).drop 3).take 8 = vE v.gone := List.take_of_length_le (by simp [Bk, vE, Br]);rw [e];exact ⟨fun h => h.2.2, fun h => ⟨by simp [Bk, vE, Br], .inl trivial, h⟩⟩
theorem Tp (v : Ver) : (Bk v).length = 11 := by simp [Bk, vE, Br]
theorem Aqn (v : Ver) : C6 [K1.int .i64, K1.int .u32, .str, .int .u32, .int .u32, .int .u32, .int .u32, .int .u32, .int .u32, .int .u32, .int .u32] (Bk v) = True := eq_true rfl
theorem Aa3 (c : List PV) : Wn c c = true := by simp [Wn]
def Ado (f g : Bool) (l m : List Ver) (k : Nat) : FS := mk [(5, .pv (.i .i64 k)), (0, .pv (.sl f 11 (l.map Bk))), (1, .pv (.sl g 11 (m.map Bk)))] []
theorem Az0 {x y : SV} {f g : Bool} {l m : List Ver} {h d} (hx : Da h [x, y] = [.pv (.sl f 11 (l.map Bk)), .pv (.sl g 11 (m.map Bk))]) (hl : Bh [x, y] = true) (he : l.map Bk = m.map Bk) (hn : l.length ≤ 1000) :
 FunOk Try.prog 38 [x, y] h d (.pv (.b true)) [] := by
 refine Dd An fn38 (by simp) hl rfl fun F => ?_;have hlen : l.length = m.length := by simpa using congrArg List.length he
 rw [hx];simp (disch := omega) only [ir38, List.length_map, hlen, go_sem];refine Bc An (Ado f g l m) (fun k => k ≤ m.length) (fun k => m.length - k) 0 (by simp) (A2 ?_ ?_) fun k hk => ?_
 · simp (disch := omega) only [go_sem]
 · simp (disch := omega) only [go_sem]
 by_cases hlt : k < m.length
 · have h2 : (m.map Bk)[k]? = some (Bk m[k]) := by simp [hlt]
   have h1 : (l.map Bk)[k]? = some (Bk m[k]) := by rw [he]; exact h2
   generalize m[k] = v at *;have hp := Aa3 (Bk v);have hf := Aqn v;simp (disch := omega) only [Ado, List.length_map, hlen, h1, h2, Aem, hp, hf, go_sem];refine Av (k + 1) _ _ rfl (by omega) (by omega) ?_ ?_
   · simp (disch := omega) only [go_sem]
   · simp (disch := omega) only [go_sem]
 · simp (disch := omega) only [Ado, List.length_map, hlen, go_sem]
def Cq : List Ver → Int → Nat → Option Ver
 | [], _, _ => none
 | v :: l, r, q => if v.rep = r ∧ v.seq = q then some v else Cq l r q
def Ls (v : Ver) (r : Int) (q : Nat) : Prop := v.rep = r ∧ v.seq = q
instance (v : Ver) (r : Int) (q : Nat) : Decidable (Ls v r q) := inferInstanceAs (Decidable (_ ∧ _))
theorem Ael (v : Ver) (K : KK) : LoadK (some (Bk v)) 2 1 false K = K (.pv (.s v.data)) [] := by
 simp only [LoadK, Fz, eq_iff_iff];exact ⟨fun h => h.2.2, fun h => ⟨by simp [Bk], .inr trivial, h⟩⟩
theorem Vb {r : Int} {q : Nat} {r' : Int} {q' : Nat} : Ca r q r' q' = true ↔ (q < q' ∨ q = q' ∧ r < r') := by simp [Ca]
theorem N8 {r : Int} {q : Nat} {r' : Int} {q' : Nat} {r'' : Int} {q'' : Nat} (h : Ca r q r' q' = true) (k : Ca r' q' r'' q'' = true) : Ca r q r'' q'' = true := by
 rw [Vb] at *; omega
theorem Zs {r : Int} {q : Nat} {r' : Int} {q' : Nat} (h : Ca r q r' q' = true) : ¬ (r = r' ∧ q = q') := by
 rw [Vb] at h; omega
theorem Ap0 {r : Int} {q : Nat} {r' : Int} {q' : Nat} (h : ¬ (r = r' ∧ q = q')) (k : ¬ Ca r q r' q' = true) : Ca r' q' r q = true := by
 rw [Vb] at *; omega
def Cg (l : List Ver) : Prop := l.Pairwise fun a b => Ca a.rep a.seq b.rep b.seq = true
theorem H4 : ∀ {l : List Ver} {r q k i}, P5 l r q k = (i, true) → k ≤ i ∧ ∃ v, l[i - k]? = some v ∧ Ls v r q ∧ Cq l r q = some v
 | [], r, q, k, i, h => by simp [P5] at h
 | v :: l, r, q, k, i, h => by
   simp only [P5] at h;split at h
   · rename_i hs;cases h;exact ⟨Nat.le_refl _, v, by simp, hs, by simp [Cq, hs]⟩
   · rename_i hs;split at h
     · cases h
     · obtain ⟨h1, u, h2, h3, h4⟩ := H4 h;refine ⟨by omega, u, ?_, h3, by simp only [Cq]; rw [if_neg hs]; exact h4⟩;rw [show i - k = (i - (k + 1)) + 1 by omega, List.getElem?_cons_succ]; exact h2
theorem Ht : ∀ {l : List Ver} {r q k i}, Cg l → P5 l r q k = (i, false) → k ≤ i ∧ i - k ≤ l.length ∧ Cq l r q = none ∧ (∀ v ∈ l, ¬ Ls v r q) ∧ (∀ v ∈ l.take (i - k), Ca v.rep v.seq r q = true) ∧ ∀ v ∈ l.drop (i - k), Ca r q v.rep v.seq = true
 | [], r, q, k, i, _, h => by simp only [P5] at h; cases h; simp [Cq]
 | v :: l, r, q, k, i, hs, h => by
   obtain ⟨h1, h2⟩ := List.pairwise_cons.1 hs;simp only [P5] at h;split at h
   · cases h
   · rename_i hn;split at h
     · rename_i hlt;cases h;have hall : ∀ u ∈ v :: l, Ca r q u.rep u.seq = true := fun u hu => by
        rcases List.mem_cons.1 hu with rfl | hu
        · exact hlt
        · exact N8 hlt (h1 u hu)
       have hno : ∀ u ∈ v :: l, ¬ Ls u r q := fun u hu e => Zs (hall u hu) ⟨e.1.symm, e.2.symm⟩;refine ⟨Nat.le_refl _, by simp, ?_, hno, by simp, by simpa using hall⟩;have : ∀ m : List Ver, (∀ u ∈ m, ¬ Ls u r q) → Cq m r q = none := fun m hm => by
        induction m with
        | nil => rfl
        | cons u m ih => simp only [Cq]; rw [if_neg (show ¬ (u.rep = r ∧ u.seq = q) from hm u List.mem_cons_self)]; exact ih fun x hx => hm x (List.mem_cons_of_mem _ hx)
       exact this _ hno
     · rename_i hge;obtain ⟨g1, g2, g3, g4, g5, g6⟩ := Ht h2 h;have e : i - k = (i - (k + 1)) + 1 := by omega
       refine ⟨by omega, by rw [e]; simpa using g2, by simp only [Cq]; rw [if_neg hn]; exact g3, fun u hu => ?_, ?_, ?_⟩
       · rcases List.mem_cons.1 hu with rfl | hu
         · exact hn
         · exact g4 u hu
       · rw [e, List.take_succ_cons];intro u hu;rcases List.mem_cons.1 hu with rfl | hu
         · exact Ap0 (fun e => hn ⟨e.1.symm, e.2.symm⟩) hge
         · exact g5 u hu
       · rw [e, List.drop_succ_cons]; exact g6
theorem Ky {l : List Ver} {r : Int} {q : Nat} : Cq l r q = none ↔ ∀ v ∈ l, ¬ Ls v r q := by
 induction l with
 | nil => simp [Cq]
 | cons u m ih =>
   simp only [Cq];by_cases h : u.rep = r ∧ u.seq = q
   · rw [if_pos h];exact ⟨fun e => (nomatch e), fun e => absurd h (e u List.mem_cons_self)⟩
   · rw [if_neg h, ih];simp only [List.mem_cons, forall_eq_or_imp];exact ⟨fun e => ⟨h, e⟩, fun e => e.2⟩
theorem Xw {l : List Ver} {r : Int} {q : Nat} {v : Ver} (h : Cq l r q = some v) : v ∈ l ∧ Ls v r q := by
 induction l with
 | nil => simp [Cq] at h
 | cons u m ih =>
   simp only [Cq] at h;by_cases e : u.rep = r ∧ u.seq = q
   · rw [if_pos e] at h; cases h; exact ⟨List.mem_cons_self, e⟩
   · rw [if_neg e] at h; exact ⟨List.mem_cons_of_mem _ (ih h).1, (ih h).2⟩
def C3 (l : List Ver) (r : Int) (q : Nat) : List UInt8 × Int := if r = 0 ∧ q = 0 then ([], 0) else match Cq l r q with
 | some v => (v.data, 0)
 | none => ([], 2)
theorem Z3 {l : List Ver} {r : Int} {q : Nat} (h : r = 0 ∧ q = 0) : C3 l r q = ([], 0) := by simp [C3, h]
theorem Z2 {l : List Ver} {r : Int} {q : Nat} {v : Ver} (h : ¬ (r = 0 ∧ q = 0)) (k : Cq l r q = some v) : C3 l r q = (v.data, 0) := by unfold C3; rw [if_neg h, k]
theorem Awr {l : List Ver} {r : Int} {q : Nat} (h : ¬ (r = 0 ∧ q = 0)) (k : Cq l r q = none) : C3 l r q = ([], 2) := by unfold C3; rw [if_neg h, k]
theorem Azx : Wn [.i .i64 0, .i .u32 0] [.i .i64 0, .i .u32 0] = true := by simp [Wn]
theorem Azy {r : Int} {q : Nat} (h : ¬ (r = 0 ∧ q = 0)) : Wn [.i .i64 r, .i .u32 q] [.i .i64 0, .i .u32 0] = false := Su (q' := 0) fun e => h e
theorem Aht : C6 [K1.int .i64, K1.int .u32] [.i .i64 0, .i .u32 0] = True := eq_true rfl
set_option maxHeartbeats 1000000 in
theorem Aog {x : SV} {f : Bool} {l : List Ver} (r : Int) (q : Nat) {h d} (hx : Da h [x, .vec 2 [.i .i64 r, .i .u32 q]] = [.pv (.sl f 11 (l.map Bk)), .vec 2 [.i .i64 r, .i .u32 q]]) (hl : Bh [x, .vec 2 [.i .i64 r, .i .u32 q]] = true) (hs : Cg l) (hn : l.length ≤ 1000) :
 FunOk Try.prog 81 [x, .vec 2 [.i .i64 r, .i .u32 q]] h d (.tup [.pv (.s (C3 l r q).1), .pv (.i .i64 (C3 l r q).2)]) [] := by
 refine Dd An fn81 (by simp) hl rfl fun F => ?_;rw [hx];by_cases hz : r = 0 ∧ q = 0
 · have e := Z3 (l := l) hz;rw [e];obtain ⟨rfl, rfl⟩ := hz;have e1 := Azx;have e2 := Aht
   (try simp only [Ii, Ih, Ig, Ie, Ic, Ib, Ia, H9]); simp (disch := omega) only [ir81, e1, e2, Int.natCast_zero, go_sem]
 · have hp := Azy hz;simp (disch := omega) only [ir81, Aht, Ae5, hp, go_sem];refine Aa (Az9 (l := l) r q rfl rfl hn) ?_;rcases ha : P5 l r q 0 with ⟨i, b⟩
   cases b with
   | true =>
     obtain ⟨_, v, h2, h3, h4⟩ := H4 ha;rw [Z2 hz h4];have he : (l.map Bk)[i]? = some (Bk v) := by rw [List.getElem?_map, show l[i]? = some v from by simpa using h2]; rfl
     have hi : i < l.length := by
      have := (List.getElem?_eq_some_iff.1 h2).1; simpa using this
     (try simp only [Ii, Ih, Ig, Ie, Ic, Ib, Ia, H9]); simp (disch := omega) only [List.length_map, he, Ael, go_sem]
   | false =>
     obtain ⟨_, _, h3, _⟩ := Ht hs ha;rw [Awr hz h3]
     (try simp only [Ii, Ih, Ig, Ie, Ic, Ib, Ia, H9]); simp (disch := omega) only [go_sem]
theorem A5s (b : Bb) (K : KK) : LoadK (some (H5 b)) 0 2 true K = K (.vec 2 [.i .i64 b.1, .i .u32 b.2]) [] := by
 simp only [LoadK, Fz, eq_iff_iff];exact ⟨fun h => h.2.2, fun h => ⟨by simp [H5], .inl trivial, h⟩⟩
def R4 (v : Ver) (r : Int) (q : Nat) : Ver := { v with gone := A9 v.gone r q }
def C9 (l : List Ver) (bs : List Bb) (r : Int) (q : Nat) : List Ver := l.map fun x => if (x.rep, x.seq) ∈ bs then R4 x r q else x
theorem Ac9 (g : Vc) (r : Int) (q : Nat) : A9 (A9 g r q) r q = A9 g r q := by
 unfold A9;split
 · funext i;simp only [C4];split <;> simp
 · rfl
theorem M2 (l : List Ver) (r : Int) (q : Nat) : C9 l [] r q = l := by simp [C9]
theorem Ajr (l : List Ver) (bs) (r : Int) (q : Nat) : (C9 l bs r q).length = l.length := by simp [C9]
theorem Hh (x : Ver) (bs : List Bb) (r : Int) (q : Nat) : (if (x.rep, x.seq) ∈ bs then R4 x r q else x).rep = x.rep ∧ (if (x.rep, x.seq) ∈ bs then R4 x r q else x).seq = x.seq := by split <;> exact ⟨rfl, rfl⟩
theorem Pc {l : List Ver} {bs} {r : Int} {q : Nat} (h : Cg l) : Cg (C9 l bs r q) := by
 unfold C9 Cg;rw [List.pairwise_map];refine List.Pairwise.imp (fun {a b} hab => ?_) h;rw [(Hh a bs r q).1, (Hh a bs r q).2, (Hh b bs r q).1, (Hh b bs r q).2]; exact hab
theorem Acq (bs : List Bb) (r : Int) (q : Nat) (r' : Int) (q' : Nat) : ∀ (l : List Ver) (k : Nat), P5 (C9 l bs r q) r' q' k = P5 l r' q' k
 | [], k => rfl
 | x :: l, k => by
   have ih := Acq bs r q r' q' l (k + 1);unfold C9 at ih ⊢;simp only [List.map_cons, P5, ih, (Hh x bs r q).1, (Hh x bs r q).2]
theorem Aar {l : List Ver} (h : Cg l) {i j : Nat} {a b : Ver} (hi : l[i]? = some a) (hj : l[j]? = some b) (he : a.rep = b.rep ∧ a.seq = b.seq) : i = j := by
 obtain ⟨h1, rfl⟩ := List.getElem?_eq_some_iff.1 hi;obtain ⟨h2, rfl⟩ := List.getElem?_eq_some_iff.1 hj;rcases Nat.lt_trichotomy i j with h3 | h3 | h3
 · exact absurd he (Zs (List.pairwise_iff_getElem.1 h i j h1 h2 h3))
 · exact h3
 · exact absurd ⟨he.1.symm, he.2.symm⟩ (Zs (List.pairwise_iff_getElem.1 h j i h2 h1 h3))
theorem Ao6 {l : List Ver} (h : Cg l) {bs : List Bb} {b : Bb} {r : Int} {q : Nat} {i : Nat} {u : Ver} (hi : (C9 l bs r q)[i]? = some u) (hu : Ls u b.1 b.2) :
 (C9 l bs r q).set i (R4 u r q) = C9 l (bs ++ [b]) r q := by
 apply List.ext_getElem?;intro j;have hi' := hi;unfold C9 at hi';rw [List.getElem?_map] at hi';obtain ⟨x, hx, rfl⟩ := Option.map_eq_some_iff.1 hi';have hxi : (x.rep, x.seq) = b := by
  have h1 := (Hh x bs r q).1;have h2 := (Hh x bs r q).2;obtain ⟨g1, g2⟩ := hu;rw [h1] at g1; rw [h2] at g2;rw [g1, g2]
 by_cases hij : i = j
 · subst hij;rw [List.getElem?_set_self (List.getElem?_eq_some_iff.1 hi).1];unfold C9;rw [List.getElem?_map, hx];simp only [Option.map_some, List.mem_append, List.mem_singleton, hxi, or_true, if_true, Option.some.injEq];split
   · simp only [R4, Ac9]
   · rfl
 · rw [List.getElem?_set_ne hij];unfold C9;rw [List.getElem?_map, List.getElem?_map];cases hy : l[j]? with
   | none => rfl
   | some y =>
     have hne : ¬ (y.rep, y.seq) = b := fun e => hij (Aar h hx hy (by rw [← e] at hxi; simpa using hxi));simp only [Option.map_some, List.mem_append, List.mem_singleton, hne, or_false]
def Ds (l : List Ver) (bs : List Bb) : Prop := ∃ b ∈ bs, Cq l b.1 b.2 = none
def Fj (l : List Ver) (bs : List Bb) (v : Ver) : List Ver := (C9 l bs v.rep v.seq).take (P5 l v.rep v.seq 0).1 ++ v :: (C9 l bs v.rep v.seq).drop (P5 l v.rep v.seq 0).1
theorem Ads (u : Ver) (g : Vc) : splice (Bk u) 3 (vE g) = Bk { u with gone := g } := by
 simp [splice, Bk, vE, Br]
def Amu (f : Bool) (l : List Ver) (g : Bool) (bs : List Bb) (v : Ver) (k : Nat) : FS := mk [(19, .pv (.i .i64 k)), (18, .pv (.i .i64 bs.length)), (17, .pv (.sl g 2 (bs.map H5))), (8, .os 16), (5, .p 5 0)]
 [(5, some (.var (.vec 11 (Bk v)))), (16, some (.row 11 ((C9 l (bs.take k) v.rep v.seq).map Bk)))]
set_option maxHeartbeats 2000000 in
theorem Ah1 {F : Fr} {f : Bool} {l : List Ver} {g : Bool} {bs : List Bb} {v : Ver} {R : SV → (Nat → Option Blk) → Prop} (hs : Cg l) (hn : l.length ≤ 900) (hbn : bs.length ≤ 900)
 (h1 : Ds l bs → ∀ h, R (.tup [.pv (.sl true 0 []), .pv (.i .i64 2)]) h)
 (h2 : ¬ Ds l bs → (Cq l v.rep v.seq).isSome = true → ∀ h, R (.tup [.pv (.sl true 0 []), .pv (.i .i64 11)]) h)
 (h3 : ¬ Ds l bs → Cq l v.rep v.seq = none → ∀ h n, h n = some (.row 11 ((Fj l bs v).map Bk)) → R (.tup [.os n, .pv (.i .i64 0)]) h) :
 sx (Oc Try.prog F 57) ir69 (Rl [.t 6, .t 7] R) (mk (Cp 0 [.pv (.sl f 11 (l.map Bk)), .pv (.sl g 2 (bs.map H5)), .vec 11 (Bk v)]) []) := by
 have hv := Tp v;simp (disch := omega) only [ir69, List.length_map, go_sem];refine Aa (Aum (es := l.map Bk) rfl rfl (.inr rfl) (by simp; omega) rfl) ?_;simp (disch := omega) only [List.length_map, go_sem];refine Bc An (Amu f l g bs v) (fun k => k ≤ bs.length ∧ ∀ b ∈ bs.take k, Cq l b.1 b.2 ≠ none) (fun k => bs.length - k) 0 (by simp) (A2 ?_ ?_) fun k hk => ?_
 · simp (disch := omega) only [go_sem]
 · simp (disch := omega) only [List.take_zero, M2, go_sem]
 obtain ⟨hk1, hk2⟩ := hk;have hsM := Pc (bs := bs.take k) (r := v.rep) (q := v.seq) hs;have hlM := Ajr l (bs.take k) v.rep v.seq;have haM := fun r q => Acq (bs.take k) v.rep v.seq r q l 0;by_cases hlt : k < bs.length
 · have he : (bs.map H5)[k]? = some (H5 bs[k]) := by simp [hlt]
   have ht : bs.take (k + 1) = bs.take k ++ [bs[k]] := by rw [List.take_add_one, List.getElem?_eq_getElem hlt]; rfl
   have hb : bs[k] ∈ bs := List.getElem_mem hlt;generalize bs[k] = b at *;simp (disch := omega) only [Amu, List.length_map, he, A5s, go_sem];refine Aa (Az9 (l := C9 l (bs.take k) v.rep v.seq) b.1 b.2 rfl rfl (by omega)) ?_;rcases ha : P5 (C9 l (bs.take k) v.rep v.seq) b.1 b.2 0 with ⟨i, is⟩
   have ha' := ha;rw [haM] at ha';cases is with
   | false =>
     obtain ⟨_, _, g3, _⟩ := Ht hs ha'
     (try simp only [Ii, Ih, Ig, Ie, Ic, Ib, Ia, H9]); simp (disch := omega) only [go_sem]
     exact h1 ⟨b, hb, g3⟩ _
   | true =>
     obtain ⟨_, u, g2, g3, g4⟩ := H4 ha;obtain ⟨_, u', _, _, g5⟩ := H4 ha';have hu : (C9 l (bs.take k) v.rep v.seq)[i]? = some u := by simpa using g2
     have hi : i < (C9 l (bs.take k) v.rep v.seq).length := (List.getElem?_eq_some_iff.1 hu).1;have heu : ((C9 l (bs.take k) v.rep v.seq).map Bk)[i]? = some (Bk u) := by rw [List.getElem?_map, hu]; rfl
     have hm := Ao6 (b := b) hs hu g3;have hgd : ((C9 l (bs.take k) v.rep v.seq).map Bk).getD i [] = Bk u := by rw [List.getD_eq_getElem?_getD, heu]; rfl
     (try simp only [Ii, Ih, Ig, Ie, Ic, Ib, Ia, H9]); simp (disch := omega) only [List.length_map, heu, Apg, Pg, go_sem]
     refine Aa (Y6 _ _ _) ?_;have hw : splice (Bk u) 3 (vE (A9 u.gone v.rep v.seq)) = Bk (R4 u v.rep v.seq) := Ads _ _;simp (disch := omega) only [List.length_map, heu, hgd, hw, go_sem];refine Av (k + 1) _ _ rfl ⟨by omega, fun c hc => ?_⟩ (by omega) ?_ ?_
     · rw [ht] at hc;rcases List.mem_append.1 hc with hc | hc
       · exact hk2 c hc
       · simp at hc; subst hc; rw [g5]; simp
     · simp (disch := omega) only [List.length_map, go_sem]
     · simp (disch := omega) only [go_sem];rw [ht, ← hm, List.map_set]
 · obtain rfl : k = bs.length := by omega
   have hmiss : ¬ Ds l bs := fun ⟨b, hb, e⟩ => hk2 b (by rw [List.take_length]; exact hb) e;rw [List.take_length] at hsM hlM haM;have e := List.take_length (l := bs);simp (disch := omega) only [Amu, e, Pg, go_sem];refine Aa (Az9 (l := C9 l bs v.rep v.seq) v.rep v.seq rfl rfl (by omega)) ?_;rcases ha : P5 (C9 l bs v.rep v.seq) v.rep v.seq 0 with ⟨i, is⟩
   have ha' := ha;rw [haM] at ha';cases is with
   | true =>
     obtain ⟨_, u', _, _, g5⟩ := H4 ha'
     (try simp only [Ii, Ih, Ig, Ie, Ic, Ib, Ia, H9]); simp (disch := omega) only [go_sem]
     exact h2 hmiss (by rw [g5]; rfl) _
   | false =>
     obtain ⟨_, g2, g3, _⟩ := Ht hs ha'
     (try simp only [Ii, Ih, Ig, Ie, Ic, Ib, Ia, H9]); simp (disch := omega) only [hv, go_sem]
     refine Aa (Abc ((C9 l bs v.rep v.seq).map Bk) (Bk v) i (by simp [hlM]; omega) (by simp [hlM]; omega) (by intro c hc; obtain ⟨x, _, rfl⟩ := List.mem_map.1 hc; exact Tp x) hv rfl rfl) ?_;simp (disch := omega) only [go_sem];refine h3 hmiss g3 _ _ ?_;simp (disch := omega) only [go_sem];simp [Fj, ha', List.map_take, List.map_drop]
theorem Aef {x y : SV} {f g : Bool} {l : List Ver} {bs : List Bb} {v : Ver} {h d} (hx : Da h [x, y, .vec 11 (Bk v)] = [.pv (.sl f 11 (l.map Bk)), .pv (.sl g 2 (bs.map H5)), .vec 11 (Bk v)]) (hl : Bh [x, y, .vec 11 (Bk v)] = true)
 (hs : Cg l) (hn : l.length ≤ 900) (hbn : bs.length ≤ 900) (hm : Ds l bs) :
 FunOk Try.prog 69 [x, y, .vec 11 (Bk v)] h d (.tup [.pv (.sl true 0 []), .pv (.i .i64 2)]) [] := by
 refine Dd An fn69 (by simp) hl rfl fun F => ?_;rw [hx];exact Ah1 hs hn hbn (fun _ _ => rfl) (fun h => absurd hm h) (fun h => absurd hm h)
end Go.Proofs.Ythmjebkldgdeiaa.Fw
namespace Go.Proofs.Ythmjebkldgdeiaa.Fw
open Go.RowKit Go.Proofs
variable {P : Program} {F : Fr} {N : Nat} {ρ ρ' : Nat → Value} {s : FS} {a : Act} {w w' : World} {V V' : View}
def PImp (x y : PV) : Prop := ∀ (V : View) (v : Value), PConc V x v → PConc V y v
theorem PImp.refl (x : PV) : PImp x x := fun _ _ h => h
def PImpL : List PV → List PV → Prop
 | [], [] => True
 | x :: l, y :: m => PImp x y ∧ PImpL l m
 | _, _ => False
def PImpR : List (List PV) → List (List PV) → Prop
 | [], [] => True
 | x :: l, y :: m => PImpL x y ∧ PImpR l m
 | _, _ => False
theorem PImpL.refl : ∀ l : List PV, PImpL l l
 | [] => trivial
 | x :: l => ⟨.refl x, PImpL.refl l⟩
theorem PImpR.refl : ∀ l : List (List PV), PImpR l l
 | [] => trivial
 | x :: l => ⟨.refl x, PImpR.refl l⟩
theorem PImpL.len : ∀ {l m : List PV}, PImpL l m → l.length = m.length
 | [], [], _ => rfl
 | x :: l, y :: m, h => by simp [PImpL.len h.2]
 | [], _ :: _, h => h.elim
 | _ :: _, [], h => h.elim
theorem PImpR.len : ∀ {l m : List (List PV)}, PImpR l m → l.length = m.length
 | [], [], _ => rfl
 | x :: l, y :: m, h => by simp [PImpR.len h.2]
 | [], _ :: _, h => h.elim
 | _ :: _, [], h => h.elim
theorem PImpL.get : ∀ {l m : List PV} {j : Nat} {y : PV}, PImpL l m → m[j]? = some y → ∃ x, l[j]? = some x ∧ PImp x y
 | x :: l, z :: m, 0, y, h, hy => by simp at hy; subst hy; exact ⟨x, by simp, h.1⟩
 | x :: l, z :: m, j + 1, y, h, hy => by
   obtain ⟨u, h1, h2⟩ := PImpL.get (j := j) h.2 (by simpa using hy);exact ⟨u, by simpa using h1, h2⟩
 | [], [], j, y, _, hy => by simp at hy
 | [], _ :: _, _, _, h, _ => h.elim
 | _ :: _, [], _, _, h, _ => h.elim
theorem PImpR.get : ∀ {l m : List (List PV)} {j : Nat} {y : List PV}, PImpR l m → m[j]? = some y → ∃ x, l[j]? = some x ∧ PImpL x y
 | x :: l, z :: m, 0, y, h, hy => by simp at hy; subst hy; exact ⟨x, by simp, h.1⟩
 | x :: l, z :: m, j + 1, y, h, hy => by
   obtain ⟨u, h1, h2⟩ := PImpR.get (j := j) h.2 (by simpa using hy);exact ⟨u, by simpa using h1, h2⟩
 | [], [], j, y, _, hy => by simp at hy
 | [], _ :: _, _, _, h, _ => h.elim
 | _ :: _, [], _, _, h, _ => h.elim
theorem PImpL.app : ∀ {a b c d : List PV}, PImpL a b → PImpL c d → PImpL (a ++ c) (b ++ d)
 | [], [], c, d, _, k => k
 | x :: a, y :: b, c, d, h, k => ⟨h.1, PImpL.app h.2 k⟩
 | [], _ :: _, _, _, h, _ => h.elim
 | _ :: _, [], _, _, h, _ => h.elim
theorem PImpR.app : ∀ {a b c d : List (List PV)}, PImpR a b → PImpR c d → PImpR (a ++ c) (b ++ d)
 | [], [], c, d, _, k => k
 | x :: a, y :: b, c, d, h, k => ⟨h.1, PImpR.app h.2 k⟩
 | [], _ :: _, _, _, h, _ => h.elim
 | _ :: _, [], _, _, h, _ => h.elim
theorem Hg {f f' : Bool} {z z' : Nat} {es es' : List (List PV)} (hf : f' = true → f = true) (hz : es = [] ∨ z = z') (h : PImpR es es') : PImp (.sl f z es) (.sl f' z' es') := by
 intro V v hv;cases hv with
 | sl full sz es a cap cs bl off arr hcap hfull hsz ha hcs hel =>
   have hl := h.len;have hne : es' ≠ [] → es ≠ [] := fun e1 e2 => by subst e2; exact e1 (List.eq_nil_of_length_eq_zero hl.symm)
   rw [hl];refine .sl f' z' es' a cap cs bl off arr (by omega) (fun e => by rw [hfull (hf e)]; exact hl) (fun c hc => ?_) (fun e => ha (hne e)) (fun i j hi hj => ?_) fun i j c x hi hx => ?_
   · obtain ⟨j, hj⟩ := List.mem_iff_getElem?.1 hc;obtain ⟨u, h1, h2⟩ := h.get hj;rw [← h2.len, hsz u (List.mem_of_getElem? h1)];exact hz.resolve_left (hne (List.ne_nil_of_mem hc))
   · have e : z = z' := hz.resolve_left (hne fun e => by subst e; simp at hi);subst e;exact hcs i j (by omega) hj
   · obtain ⟨u, h1, h2⟩ := h.get hi;obtain ⟨y, h3, h4⟩ := h2.get hx;exact h4 V _ (hel i j u y h1 h3)
theorem U7 {x y : PV} (h : PImp x y) : Imp (.pv x) (.pv y) := fun V ρ v hv => by simp only [Conc] at hv ⊢; exact h V v hv
def ImpS : List SV → List SV → Prop
 | [], [] => True
 | x :: l, y :: m => (Imp x y ∧ x.width = y.width) ∧ ImpS l m
 | _, _ => False
theorem ImpS.cells : ∀ {l m : List SV} {vs : List Value}, ImpS l m → Cells V ρ l vs → Cells V ρ m vs
 | [], [], vs, _, h => h
 | x :: l, y :: m, vs, h, k => by
   simp only [Cells] at k ⊢;obtain ⟨u, us, rfl, k1, k2, k3, k4⟩ := k;exact ⟨u, us, rfl, h.1.1 V ρ u k1, by rw [← h.1.2]; exact k2, k3, h.2.cells k4⟩
 | [], _ :: _, _, h, _ => h.elim
 | _ :: _, [], _, h, _ => h.elim
theorem U9 {l m : List SV} (h : ImpS l m) : Imp (.agg l) (.agg m) := fun V ρ v hv => by
 simp only [Conc] at hv ⊢;obtain ⟨vs, h1, h2⟩ := hv;exact ⟨vs, h1, h.cells h2⟩
theorem Avt {l m : List SV} (h : ImpL l m) : Imp (.tup l) (.tup m) := fun V ρ v hv => by
 simp only [Conc] at hv ⊢;obtain ⟨vs, h1, h2⟩ := hv;exact ⟨vs, h1, h.conc h2⟩
theorem Akp (hm : P.follows .mixedOrders = true) {f N' : Nat} {rs : List Rv} {c : C} (hf : A6 P f = some (N', rs, c)) {args : List SV} {h : Nat → Option Blk} {d : Nat} {x : SV} (hlen : args.length ≤ N')
 (hargs : SV.closedL args = true) (hx : x.closed = true) (hrun : ∀ F, sx (Oc P F N') c (Alz rs fun y _ => Imp y x) (mk (Cp 0 args) [])) : FunOk P f args h d x [] := by
 obtain ⟨h1, h2, h3⟩ := Bx hargs;refine ⟨Cc hf, fun F N ρ s a w hR hh vs hc => ?_⟩;refine Calls.mono (De hm hf (h := h) hlen h2 Yx (by rw [h3]; exact hrun) hR hh hc) fun e w' he => ?_;obtain ⟨v, rfl, hg, N'', ρ', s', a', y, hR', hy, hyx⟩ := he;rw [h1, C7] at hR' hy;exact ⟨v, ρ, rfl, hR.grew hg, Bj (D1 hR') hx (hyx _ _ _ hy)⟩
theorem Ub {N' : Nat} {a' : Act} {s' : FS} (hR' : RelR ⟨w, fun _ => False, F.out ρ s.h, fun _ => undef, []⟩ N' ρ' s' a' w') {n sz : Nat} {es : List (List PV)} (hn : s'.h n = some (.row sz es)) : PConc (vw F w' ρ s) (.sl false sz es) (ρ' n) :=
 (Kf hR' hn).mono (A8 fun b c ho hc => ⟨fun hb => ho (.inr hb), hc⟩)
theorem Vi (hm : P.follows .mixedOrders = true) {f N' : Nat} {rs : List Rv} {c : C} (hf : A6 P f = some (N', rs, c)) {args : List SV} {h : Nat → Option Blk} {d : Nat} {sz : Nat} {es : List (List PV)} (hlen : args.length ≤ N')
 (hargs : SV.closedL args = true) (hrun : ∀ F, sx (Oc P F N') c (Rl rs fun y g => (∃ n, y = .os n ∧ g n = some (.row sz es)) ∨ ∃ z, y = .pv (.sl true z []) ∧ es = [] ∧ 0 < sz) (mk (Cp 0 args) [])) :
 FunOk P f args h d (.pv (.sl false sz es)) [] := by
 obtain ⟨h1, h2, h3⟩ := Bx hargs;refine ⟨Cc hf, fun F N ρ s a w hR hh vs hc => ?_⟩;refine Calls.mono (De hm hf (h := h) hlen h2 Kh (by rw [h3]; exact hrun) hR hh hc) fun e w' he => ?_;obtain ⟨v, rfl, hg, N'', ρ', s', a', y, hR', hy, hyy⟩ := he;rw [h1, C7] at hR' hy;refine ⟨v, ρ, rfl, hR.grew hg, ?_⟩;rcases hyy with ⟨n, rfl, hn⟩ | ⟨z, rfl, rfl, hsz⟩
 · simp only [Conc] at hy ⊢;rw [hy.1];exact Ub hR' hn
 · simp only [Conc] at hy ⊢;exact (Hg (by simp) (.inl rfl) (.refl [])) _ _ (hy.mono (D1 hR'))
theorem Xt (hm : P.follows .mixedOrders = true) {f N' : Nat} {rs : List Rv} {c : C} (hf : A6 P f = some (N', rs, c)) {args : List SV} {h : Nat → Option Blk} {d : Nat} {sz : Nat} {es : List (List PV)} {z0 : SV} (hlen : args.length ≤ N')
 (hargs : SV.closedL args = true) (hz : z0.closed = true) (hrun : ∀ F, sx (Oc P F N') c (Rl rs fun y g => (∃ n, y = .tup [.os n, z0] ∧ g n = some (.row sz es)) ∨ ∃ z, y = .tup [.pv (.sl true z []), z0] ∧ es = []) (mk (Cp 0 args) [])) :
 FunOk P f args h d (.tup [.pv (.sl false sz es), z0]) [] := by
 obtain ⟨h1, h2, h3⟩ := Bx hargs;refine ⟨Cc hf, fun F N ρ s a w hR hh vs hc => ?_⟩;refine Calls.mono (De hm hf (h := h) hlen h2 Kh (by rw [h3]; exact hrun) hR hh hc) fun e w' he => ?_;obtain ⟨v, rfl, hg, N'', ρ', s', a', y, hR', hy, hyy⟩ := he;rw [h1, C7] at hR' hy;refine ⟨v, ρ, rfl, hR.grew hg, ?_⟩;rcases hyy with ⟨n, rfl, hn⟩ | ⟨z, rfl, rfl⟩
 · simp only [Conc, ConcL] at hy ⊢;obtain ⟨vs, rfl, u, us, rfl, hu, u2, us2, rfl, hu2, rfl⟩ := hy;refine ⟨_, rfl, u, _, rfl, ?_, u2, _, rfl, Bj (D1 hR') hz hu2, rfl⟩;rw [hu.1]; exact Ub hR' hn
 · simp only [Conc, ConcL] at hy ⊢;obtain ⟨vs, rfl, u, us, rfl, hu, u2, us2, rfl, hu2, rfl⟩ := hy;exact ⟨_, rfl, u, _, rfl, (Hg (by simp) (.inl rfl) (.refl [])) _ _ (hu.mono (D1 hR')), u2, _, rfl, Bj (D1 hR') hz hu2, rfl⟩
theorem DeepOk.frz {f : Nat} {args args' : List SV} {h h' : Nat → Option Blk} {d d' : Nat} {x : SV} {u : List HU} {n sz : Nat} {es : List (List PV)} (hn : h n = some (.row sz es)) (ha : SV.frzL n (.sl false sz es) args = args')
 (hh' : ∀ k ∈ Aw args', (if k = n then none else (h k).map (Blk.frz n (.sl false sz es))) = h' k) (hf : FunOk P f args' h' d' x u) : DeepOk P f args h d x (.frz n (.sl false sz es) :: u) := by
 refine ⟨hf.1, fun F N ρ s a w hR hh vs hv => ?_⟩;subst ha;have hs : s.h n = some (.row sz es) := by rw [hh]; exact hn
 obtain ⟨hR', hV, hV2⟩ := hR.frz hs;have hp := (Kf hR hs).mono hV2;exact hf.2 F N ρ (s.frz n (.sl false sz es)) a w hR' (fun k hk => by rw [← hh' k hk]; simp only [FS.frz, hh]) vs (ConcL.frz hV hp hv)
end Go.Proofs.Ythmjebkldgdeiaa.Fw
namespace Go.Proofs.Ythmjebkldgdeiaa.Fw
open Go.RowKit Go.Proofs
structure Obj where
 id : Bb
 dir : Bool
 last : Bb
 name : List UInt8
 seen : Vc
 vers : List Ver
def D6 (f : Bool) (z : Nat) (o : Obj) : List PV := [.i .i64 o.id.1, .i .u32 o.id.2, .b o.dir, .i .i64 o.last.1, .i .u32 o.last.2, .s o.name] ++ vE o.seen ++ [.sl f z (o.vers.map Bk)]
def A1 (o : Obj) : List PV := D6 false 11 o
theorem Di (f z) (o : Obj) : (D6 f z o).length = 15 := by simp [D6, Ce]
theorem Uq (o : Obj) : (A1 o).length = 15 := Di _ _ o
theorem Aup {f : Bool} {z : Nat} (o : Obj) (h : o.vers = [] ∨ z = 11) : PImpL (D6 f z o) (A1 o) := by
 refine PImpL.app (PImpL.refl _) ⟨Hg (by simp) (h.imp (fun e => by rw [e]; rfl) id) (.refl _), trivial⟩
theorem Ajy (f : Bool) (z : Nat) (o : Obj) (K : KK) : LoadK (some (D6 f z o)) 0 2 true K = K (.vec 2 ([.i .i64 o.id.1, .i .u32 o.id.2])) [] := by
 simp only [LoadK, Fz, eq_iff_iff];have e : ((D6 f z o).drop 0).take 2 = [.i .i64 o.id.1, .i .u32 o.id.2] := by
  obtain ⟨i, b, l, n, s, v⟩ := o;simp only [D6, vE, Br]; rfl
 rw [e];exact ⟨fun h => h.2.2, fun h => ⟨by simp [Di], .inl trivial, h⟩⟩
theorem Abx (f : Bool) (z : Nat) (o : Obj) (K : KK) : LoadK (some (D6 f z o)) 3 2 true K = K (.vec 2 ([.i .i64 o.last.1, .i .u32 o.last.2])) [] := by
 simp only [LoadK, Fz, eq_iff_iff];have e : ((D6 f z o).drop 3).take 2 = [.i .i64 o.last.1, .i .u32 o.last.2] := by
  obtain ⟨i, b, l, n, s, v⟩ := o;simp only [D6, vE, Br]; rfl
 rw [e];exact ⟨fun h => h.2.2, fun h => ⟨by simp [Di], .inl trivial, h⟩⟩
theorem Abv (f : Bool) (z : Nat) (o : Obj) (K : KK) : LoadK (some (D6 f z o)) 6 8 true K = K (.vec 8 (vE o.seen)) [] := by
 simp only [LoadK, Fz, eq_iff_iff];have e : ((D6 f z o).drop 6).take 8 = vE o.seen := by
  obtain ⟨i, b, l, n, s, v⟩ := o;simp only [D6, vE, Br]; rfl
 rw [e];exact ⟨fun h => h.2.2, fun h => ⟨by simp [Di], .inl trivial, h⟩⟩
theorem Aek (f : Bool) (z : Nat) (o : Obj) (K : KK) : LoadK (some (D6 f z o)) 2 1 false K = K (.pv (.b o.dir)) [] := by
 simp only [LoadK, Fz, eq_iff_iff];have e : (D6 f z o).getD 2 (.b false) = .b o.dir := by
  obtain ⟨i, b, l, n, s, v⟩ := o;simp only [D6, vE, Br]; rfl
 rw [e];exact ⟨fun h => h.2.2, fun h => ⟨by simp [Di], .inr trivial, h⟩⟩
theorem Abw (f : Bool) (z : Nat) (o : Obj) (K : KK) : LoadK (some (D6 f z o)) 5 1 false K = K (.pv (.s o.name)) [] := by
 simp only [LoadK, Fz, eq_iff_iff];have e : (D6 f z o).getD 5 (.b false) = .s o.name := by
  obtain ⟨i, b, l, n, s, v⟩ := o;simp only [D6, vE, Br]; rfl
 rw [e];exact ⟨fun h => h.2.2, fun h => ⟨by simp [Di], .inr trivial, h⟩⟩
theorem Abu (f : Bool) (z : Nat) (o : Obj) (K : KK) : LoadK (some (D6 f z o)) 14 1 false K = K (.pv (.sl f z (o.vers.map Bk))) [] := by
 simp only [LoadK, Fz, eq_iff_iff];have e : (D6 f z o).getD 14 (.b false) = .sl f z (o.vers.map Bk) := by
  obtain ⟨i, b, l, n, s, v⟩ := o;simp only [D6, vE, Br]; rfl
 rw [e];exact ⟨fun h => h.2.2, fun h => ⟨by simp [Di], .inr trivial, h⟩⟩
theorem Avc (f : Bool) (z : Nat) (o : Obj) (K : KK) : LoadK (some (D6 f z o)) 0 15 true K = K (.vec 15 (D6 f z o)) [] := by
 simp only [LoadK, Fz, eq_iff_iff];have e : ((D6 f z o).drop 0).take 15 = D6 f z o := List.take_of_length_le (by simp [Di]);rw [e];exact ⟨fun h => h.2.2, fun h => ⟨by simp [Di], .inl trivial, h⟩⟩
theorem U5 (o : Obj) (K : KK) : LoadK (some (A1 o)) 0 2 true K = K (.vec 2 [.i .i64 o.id.1, .i .u32 o.id.2]) [] := Ajy _ _ o K
theorem U4 (o : Obj) (K : KK) : LoadK (some (A1 o)) 3 2 true K = K (.vec 2 [.i .i64 o.last.1, .i .u32 o.last.2]) [] := Abx _ _ o K
theorem U3 (o : Obj) (K : KK) : LoadK (some (A1 o)) 6 8 true K = K (.vec 8 (vE o.seen)) [] := Abv _ _ o K
theorem Ge (o : Obj) (K : KK) : LoadK (some (A1 o)) 2 1 false K = K (.pv (.b o.dir)) [] := Aek _ _ o K
theorem Aen (o : Obj) (K : KK) : LoadK (some (A1 o)) 5 1 false K = K (.pv (.s o.name)) [] := Abw _ _ o K
theorem Ei (o : Obj) (K : KK) : LoadK (some (A1 o)) 14 1 false K = K (.pv (.sl false 11 (o.vers.map Bk))) [] := Abu _ _ o K
theorem Q1 (o : Obj) (K : KK) : LoadK (some (A1 o)) 0 15 true K = K (.vec 15 (A1 o)) [] := Avc _ _ o K
theorem Amy (o : Obj) (i : Bb) : splice (A1 o) 3 ([.i .i64 i.1, .i .u32 i.2]) = A1 { o with last := i } := by
 obtain ⟨i, b, l, n, s, v⟩ := o;simp only [splice, A1, D6, vE, Br]; rfl
theorem Amx (o : Obj) (s : List UInt8) : splice (A1 o) 5 ([.s s]) = A1 { o with name := s } := by
 obtain ⟨i, b, l, n, s, v⟩ := o;simp only [splice, A1, D6, vE, Br]; rfl
theorem Amw (o : Obj) (v : Vc) : splice (A1 o) 6 (vE v) = A1 { o with seen := v } := by
 obtain ⟨i, b, l, n, s, v⟩ := o;simp only [splice, A1, D6, vE, Br]; rfl
theorem Aaq (o : Obj) (f : Bool) (z : Nat) (l : List Ver) : splice (A1 o) 14 ([.sl f z (l.map Bk)]) = D6 f z { o with vers := l } := by
 obtain ⟨i, b, l, n, s, v⟩ := o;simp only [splice, A1, D6, vE, Br]; rfl
def obN (o : Obj) : Ent := ⟨o.id, (0, 0), [], (0, 0), fun _ => 0⟩
def Dl (l : List Obj) : Prop := Cu (l.map obN)
def Cb (l : List Obj) (i : Bb) : Nat := Er (l.map obN) i
def isO (l : List Obj) (i : Bb) : Bool := Pn (l.map obN) i
structure St where
 known : Vc
 objs : List Obj
 ents : List Ent
 wards : Nat → Int
 ret : Nat → Bool
def A7 (s : St) (x y : SV) : List SV := [.vec 8 (vE s.known), x, y, .vec 8 (iE s.wards), .vec 8 (wE s.ret)]
def Bl (s : St) : List SV := A7 s (.pv (.sl false 15 (s.objs.map A1))) (.pv (.sl false 15 (s.ents.map Bm)))
def st0 : St := ⟨fun _ => 0, [], [], fun _ => 0, fun _ => false⟩
theorem Agi {s : St} {f g : Bool} {y z : Nat} {es fs : List (List PV)} (hy : es = [] ∨ y = 15) (hz : fs = [] ∨ z = 15) (he : PImpR es (s.objs.map A1)) (hf : PImpR fs (s.ents.map Bm)) : Imp (.agg (A7 s (.pv (.sl f y es)) (.pv (.sl g z fs)))) (.agg (Bl s)) :=
 U9 ⟨⟨Imp.refl _, rfl⟩, ⟨U7 (Hg (by simp) hy he), rfl⟩, ⟨U7 (Hg (by simp) hz hf), rfl⟩, ⟨Imp.refl _, rfl⟩, ⟨Imp.refl _, rfl⟩, trivial⟩
theorem Lr : Imp (.agg [.vec 8 (List.replicate 8 (.i .u32 0)), .pv (.sl true 0 []), .pv (.sl true 0 []), .vec 8 (List.replicate 8 (.i .i64 0)), .vec 8 (List.replicate 8 (.b false))]) (.agg (Bl st0)) :=
 Agi (s := st0) (.inl rfl) (.inl rfl) trivial trivial
theorem Az1 {m n lo hi : Nat} {es fs : List (List PV)} {h} (hm : h m = some (.row 15 fs)) (hn : h n = some (.row 15 es)) (hne : m ≠ n) (hfs : fs ≠ []) (hes : es ≠ []) (hlt : lo < hi) : Yg Try.prog 75 [.os m, .ov n 15 lo hi] h (.pv (.b false)) := by
 intro F N ρ s a w hR hh vs hc;simp only [ConcL] at hc;obtain ⟨v, us, rfl, hv, u, us', rfl, hu, rfl⟩ := hc;have hsm := (hh m (by simp [Aw, tn])).trans hm;have hsn := (hh n (by simp [Aw, tn])).trans hn;refine ⟨.bool false, ?_, Dx⟩;rw [run_callFunc_extern (fn := (Try.prog.funcs[75]?).getD default) (by kernel_rfl) (by kernel_rfl) (by kernel_rfl) (by kernel_rfl) (e := Extern.SlicesOverlaps.overlaps #[30, 30] #[4]) (by kernel_rfl)];rw [Hy (tS := 30) (e := 84) (by kernel_rfl) (by kernel_rfl) (by decide) hR hsm hsn hne hfs hes hlt hv hu];rfl
set_option maxHeartbeats 4000000 in
theorem Uk (es : List (List PV)) (cs : List PV) (i : Nat) (hi : i ≤ es.length) (hb : es.length ≤ 1000) (hes : ∀ c ∈ es, c.length = 15) (hcs : cs.length = 15) {h d} (h1 : h 900 = some (.row 15 es)) (h2 : h 901 = some (.row 15 [cs])) : FunOk Try.prog 65 [.os 900, .pv (.i .i64 i), .os 901] h d (.os d) [.del 900, .del 901, .new d (.row 15 (es.take i ++ cs :: es.drop i))] := by
 refine Zt An fn65 (by simp) rfl fun F => ?_;simp only [B9];by_cases he : i = es.length
 · subst he;have e1 : es.take es.length ++ cs :: es.drop es.length = es ++ [cs] := by simp
   rw [e1];simp (disch := omega) only [ir65, h1, h2, go_sem]
 · have hne : es ≠ [] := by intro e; subst e; simp at hi; exact he (by simpa using hi)
   simp (disch := omega) only [ir65, h1, h2, go_sem];intro c hc;by_cases hcap : c < es.length + 1
   · have hp : ((c : Int) < (es.length : Int) + ((1 : Nat) : Int)) = True := eq_true (by omega);have ek : ((es.length : Int) + ((1 : Nat) : Int) - (i : Int)).toNat = es.length + 1 - i := by omega
     (try simp only [Ii, Ih, Ig, Ie, Ic, Ib, Ia, H9]); simp (disch := omega) only [hp, ek, go_sem]
     generalize hT : List.take i es ++ List.replicate (es.length + 1 - i) _ = T;have hTl : T.length = es.length + 1 := by rw [← hT]; simp; omega
     have t1 : T.take i = es.take i := by
      rw [← hT, List.take_append_of_le_length (by simp; omega), List.take_take, Nat.min_self]
     have hi' : (es.take i).length = i := by simp; omega
     have m1 : min 1 (es.length + 1 - i) = 1 := by omega
     have m2 : [cs].take (es.length + 1 - i) = [cs] := List.take_of_length_le (by simp; omega);have hU : (es.take i ++ [cs] ++ T.drop (i + 1)).length = es.length + 1 := by simp [hTl]; omega
     have e1 : ((i : Int) + ((1 : Nat) : Int)).toNat = i + 1 := by omega
     have u1 : (es.take i ++ [cs] ++ T.drop (i + 1)).take (i + 1) = es.take i ++ [cs] := by
      rw [List.take_append_of_le_length (by simp; omega)];exact List.take_of_length_le (by simp; omega)
     have u2 : (es.take es.length).drop i = es.drop i := by rw [List.take_length]
     have u3 : min (es.drop i).length (es.length + 1 - (i + 1)) = es.length - i := by simp
     have u4 : (es.drop i).take (es.length + 1 - (i + 1)) = es.drop i := List.take_of_length_le (by simp);have u5 : (es.take i ++ [cs] ++ T.drop (i + 1)).drop (i + 1 + (es.length - i)) = [] := List.drop_of_length_le (by rw [hU]; omega);have u6 : es.take i ++ cs :: es.drop i = es.take i ++ [cs] ++ es.drop i := by simp
     simp only [hTl, t1, m1, m2, e1, List.length_singleton];simp only [hU, u1, u2, u3, u4, u5, u6, List.append_nil];exact ⟨by omega, by omega, trivial⟩
   · have hp : ((c : Int) < (es.length : Int) + ((1 : Nat) : Int)) = False := eq_false (by omega)
     (try simp only [Ii, Ih, Ig, Ie, Ic, Ib, Ia, H9]); simp (disch := omega) only [hp, go_sem]
     intro g hg hgs;have hg1 : g.length = 1 := by omega
     have e1 : ((i : Int) + ((1 : Nat) : Int)).toNat = i + 1 := by omega
     have hE : (es ++ g).length = es.length + 1 := by simp [hg1]
     refine ⟨by omega, ?_⟩;rw [e1];refine P4 (Az1 (es := es ++ g) (fs := [cs]) rfl rfl (by decide) (by simp) (by simp [hne]) (by omega)) ?_;have v1 : ((es ++ g).take (es ++ g).length).drop i = (es ++ g).drop i := by rw [List.take_length]
     have v2 : min ((es ++ g).drop i).length ((es ++ g).length - (i + 1)) = es.length - i := by simp [hg1]; omega
     have v3 : ((es ++ g).drop i).take ((es ++ g).length - (i + 1)) = es.drop i := by
      rw [hE, List.drop_append_of_le_length hi, show es.length + 1 - (i + 1) = (es.drop i).length from by simp];exact List.take_left
     have v4 : (es ++ g).drop (i + 1 + (es.length - i)) = [] := List.drop_of_length_le (by omega);have v5 : ((es ++ g).take (i + 1) ++ es.drop i).length = es.length + 1 := by simp [hg1]; omega
     have v6 : ((es ++ g).take (i + 1) ++ es.drop i).take i = es.take i := by
      rw [List.take_append_of_le_length (by simp; omega), List.take_take, Nat.min_eq_left (by omega), List.take_append_of_le_length hi]
     have v7 : ((es ++ g).take (i + 1) ++ es.drop i).drop (i + 1) = es.drop i := by
      rw [List.drop_append_of_le_length (by simp; omega), List.drop_of_length_le (by simp; omega), List.nil_append]
     have m1 : min 1 (es.length + 1 - i) = 1 := by omega
     have m2 : [cs].take (es.length + 1 - i) = [cs] := List.take_of_length_le (by simp; omega);have u6 : es.take i ++ cs :: es.drop i = es.take i ++ [cs] ++ es.drop i := by simp
     simp (disch := omega) only [e1, v1, v2, v3, v4, v5, v6, v7, m1, m2, u6, go_sem]
theorem An6 {m n : Nat} (es : List (List PV)) (cs : List PV) (i : Nat) (hi : i ≤ es.length) (hb : es.length ≤ 1000) (hes : ∀ c ∈ es, c.length = 15) (hcs : cs.length = 15) (hmn : m ≠ n) (hm : m < 900) (hn : n < 900) {h d} (hd : d ≠ m ∧ d ≠ n ∧ d < 900) (h1 : h m = some (.row 15 es)) (h2 : h n = some (.row 15 [cs])) : FunOk Try.prog 65 [.os m, .pv (.i .i64 i), .os n] h d (.os d) [.del m, .del n, .new d (.row 15 (es.take i ++ cs :: es.drop i))] := by
 have hπ := Aga (a := 900) (m := m) (b := 901) (n := n) (by omega) (by omega) (by omega) hmn;have e1 : Ym 900 m 901 n 900 = m := by unfold Ym; simp
 have e2 : Ym 900 m 901 n 901 = n := by unfold Ym; repeat' split <;> (try omega)
 have e3 : Ym 900 m 901 n d = d := by unfold Ym; repeat' split <;> (try omega)
 have := (Uk es cs i hi hb hes hcs (h := fun k => (h (Ym 900 m 901 n k))) (d := d) (by rw [← h1, e1]) (by rw [← h2, e2])).rn (π := Ym 900 m 901 n) hπ (d' := d);simp only [SV.rnL, SV.rn, HU.rn, Blk.rn, List.map_cons, List.map_nil, e1, e2, e3] at this;refine this.at fun k hk => ?_;simp only [Aw, tn, List.append_nil, List.nil_append, List.mem_append, List.mem_singleton] at hk;simp only [hπ];rcases hk with rfl | rfl
 · rw [h1]; rfl
 · rw [h2]; rfl
theorem Aol (x : Obj) (b : Bb) {h d} : FunOk Try.prog 74 [.vec 15 (A1 x), .vec 2 [.i .i64 b.1, .i .u32 b.2]] h d (.pv (.i .i64 (G9 x.id b))) [] := by
 refine Ax An fn74 (by simp) rfl rfl fun F => ?_;simp (disch := omega) only [ir74, U5, go_sem];refine Aa (Lw _ _ _ _) ?_;by_cases h1 : Ca x.id.1 x.id.2 b.1 b.2 = true
 · have e : G9 x.id b = -1 := if_pos h1;simp (disch := omega) only [h1, e, go_sem]
 · have h1' : Ca x.id.1 x.id.2 b.1 b.2 = false := by simpa using h1
   simp (disch := omega) only [h1', U5, go_sem];refine Aa (Lw _ _ _ _) ?_;by_cases h2 : Ca b.1 b.2 x.id.1 x.id.2 = true
   · have e : G9 x.id b = 1 := by unfold G9; rw [if_neg h1, if_pos h2]
     simp (disch := omega) only [h2, e, go_sem]
   · have h2' : Ca b.1 b.2 x.id.1 x.id.2 = false := by simpa using h2
     have e : G9 x.id b = 0 := by unfold G9; rw [if_neg h1, if_neg h2]
     simp (disch := omega) only [h2', e, go_sem]
theorem Ag5 {l : List Obj} {j : Nat} {y : Ent} (h : (l.map obN)[j]? = some y) : ∃ o, l[j]? = some o ∧ y.id = o.id := by
 rw [List.getElem?_map] at h;obtain ⟨o, h1, h2⟩ := Option.map_eq_some_iff.1 h;exact ⟨o, h1, by rw [← h2]; rfl⟩
theorem S6 {l : List Obj} {j : Nat} {o : Obj} (h : l[j]? = some o) : (l.map obN)[j]? = some (obN o) := by rw [List.getElem?_map, h]; rfl
theorem F9 {l : List Obj} (hs : Dl l) {j m : Nat} {x v : Obj} (hj : l[j]? = some x) (hm : l[m]? = some v) (h : j < m) : G1 x.id v.id = true := T4 (l := l.map obN) hs (S6 hj) (S6 hm) h
theorem Auc {l : List Obj} {i : Bb} {k : Nat} (hk : k ≤ l.length) (h1 : ∀ j x, j < k → l[j]? = some x → G1 x.id i = true) (h2 : ∀ x, l[k]? = some x → ¬ G1 x.id i = true) : Cb l i = k :=
 Agq (l := l.map obN) (by simpa using hk) (fun j x hj hx => by
  obtain ⟨o, h3, h4⟩ := Ag5 hx;rw [h4]; exact h1 j o hj h3) fun x hx => by
  obtain ⟨o, h3, h4⟩ := Ag5 hx;rw [h4]; exact h2 o h3
theorem Y0 (l : List Obj) (i : Bb) : Cb l i ≤ l.length := by have := Y1 (l.map obN) i; simpa [Cb] using this
theorem Pm {l : List Obj} (hs : Dl l) (i : Bb) : isO l i = match l[Cb l i]? with | some x => decide (x.id = i) | none => false := by
 have h := Pd (l := l.map obN) hs i;unfold isO Pn;rw [h];show _ = match l[Cb l i]? with | some x => decide (x.id = i) | none => false
 unfold Cb;cases hx : l[Er (l.map obN) i]? with
 | none => rw [List.getElem?_map, hx]; rfl
 | some x =>
   rw [List.getElem?_map, hx];show (if x.id = i then some (obN x) else none).isSome = decide (x.id = i);by_cases e : x.id = i <;> simp [e]
theorem A03 {l : List Obj} (hs : Dl l) {i : Bb} (h : isO l i = true) : ∃ o, l[Cb l i]? = some o ∧ o.id = i := by
 rw [Pm hs] at h;cases hx : l[Cb l i]? with
 | none => rw [hx] at h; cases h
 | some x => rw [hx] at h; exact ⟨x, rfl, by simpa using h⟩
def Yr (f : Bool) (l : List Obj) (i : Bb) (p : Nat × Nat) : FS := mk [(9, .pv (.i .i64 p.1)), (10, .pv (.i .i64 p.2)), (8, .pv (.i .i64 l.length)), (0, .pv (.sl f 15 (l.map A1))), (2, .fn (.func 74) []), (4, .p 4 0)] [(4, some (.var (.vec 2 [.i .i64 i.1, .i .u32 i.2])))]
set_option maxHeartbeats 1000000 in
theorem Az7 {x : SV} {f : Bool} {l : List Obj} (i : Bb) {h d} (hx : Da h [x, .vec 2 [.i .i64 i.1, .i .u32 i.2], .fn (.func 74) []] = [.pv (.sl f 15 (l.map A1)), .vec 2 [.i .i64 i.1, .i .u32 i.2], .fn (.func 74) []]) (hl : Bh [x, .vec 2 [.i .i64 i.1, .i .u32 i.2], .fn (.func 74) []] = true) (hs : Dl l) (hn : l.length ≤ 1000) :
 FunOk Try.prog 73 [x, .vec 2 [.i .i64 i.1, .i .u32 i.2], .fn (.func 74) []] h d (.tup [.pv (.i .i64 (Cb l i)), .pv (.b (isO l i))]) [] := by
 refine Dd An fn73 (by simp) hl rfl fun F => ?_;rw [hx];simp (disch := omega) only [ir73, List.length_map, go_sem];refine Bc An (Yr f l i) (fun p => p.1 ≤ p.2 ∧ p.2 ≤ l.length ∧ (∀ j x, j < p.1 → l[j]? = some x → G1 x.id i = true) ∧ ∀ j x, p.2 ≤ j → l[j]? = some x → ¬ G1 x.id i = true) (fun p => p.2 - p.1) (0, l.length) ⟨by simp, by simp, by simp, fun j x hj hx => by simp only at hj; rw [List.getElem?_eq_none hj] at hx; cases hx⟩ (A2 ?_ ?_) fun p hp => ?_
 · (try simp only [Ii, Ih, Ig, Ie, Ic, Ib, Ia, H9]); simp (disch := omega) only [go_sem]
 · simp (disch := omega) only [go_sem]
 obtain ⟨a, b⟩ := p;obtain ⟨p1, p2, p3, p4⟩ := hp;simp only at p1 p2 p3 p4;by_cases hlt : a < b
 · have hm : (a + b) / 2 < l.length := by omega
   have hx : l[(a + b) / 2]? = some l[(a + b) / 2] := List.getElem?_eq_getElem hm;have he : (l.map A1)[(a + b) / 2]? = some (A1 l[(a + b) / 2]) := by rw [List.getElem?_map, hx]; rfl
   have e1 : ((a : Int) + (b : Int)).fdiv (2 ^ min (Int.toNat 1) 64) = (((a + b) / 2 : Nat) : Int) := by
    rw [show (2 : Int) ^ min (Int.toNat 1) 64 = 2 from rfl, Int.fdiv_eq_ediv_of_nonneg _ (by omega)]; omega
   have hm1 : a ≤ (a + b) / 2 := by omega
   have hm2 : (a + b) / 2 < b := by omega
   generalize l[(a + b) / 2] = v at *;generalize (a + b) / 2 = m at *;simp (disch := omega) only [Yr, List.length_map, e1, he, Q1, go_sem];refine Aa (Aol v i) ?_;by_cases hc : G1 v.id i = true
   · have e2 : (G9 v.id i < 0) = True := by rw [Ta]; exact eq_true hc
     simp (disch := omega) only [e2, go_sem];refine Av (x := (a, b)) (m + 1, b) _ _ rfl ⟨by show m + 1 ≤ b; omega, p2, fun j x hj hx' => ?_, p4⟩ (by show b - (m + 1) < b - a; omega) ?_ ?_
     · by_cases e : j = m
       · subst e; rw [hx] at hx'; cases hx'; exact hc
       · exact D5 (F9 hs hx' hx (by simp only at hj; omega)) hc
     · (try simp only [Ii, Ih, Ig, Ie, Ic, Ib, Ia, H9]); simp (disch := omega) only [go_sem]
     · simp (disch := omega) only [go_sem]
   · have e2 : (G9 v.id i < 0) = False := by rw [Ta]; exact eq_false hc
     simp (disch := omega) only [e2, go_sem];refine Av (x := (a, b)) (a, m) _ _ rfl ⟨by show a ≤ m; omega, by show m ≤ _; omega, p3, fun j x hj hx' => ?_⟩ (by show m - a < b - a; omega) ?_ ?_
     · by_cases e : j = m
       · subst e; rw [hx] at hx'; cases hx'; exact hc
       · exact fun q => hc (D5 (F9 hs hx hx' (by simp only at hj; omega)) q)
     · (try simp only [Ii, Ih, Ig, Ie, Ic, Ib, Ia, H9]); simp (disch := omega) only [go_sem]
     · simp (disch := omega) only [go_sem]
 · obtain rfl : a = b := by omega
   have hpos : Cb l i = a := Auc p2 p3 fun x hx' => p4 a x (Nat.le_refl a) hx';have hk := Pm hs i;rw [hpos] at hk;by_cases hal : a < l.length
   · have hx' : l[a]? = some l[a] := List.getElem?_eq_getElem hal;have he : (l.map A1)[a]? = some (A1 l[a]) := by rw [List.getElem?_map, hx']; rfl
     rw [hx'] at hk;simp only at hk;generalize l[a] = v at *;simp (disch := omega) only [Yr, hal, he, Q1, List.length_map, go_sem];refine Aa (Aol v i) ?_;by_cases hv : v.id = i
     · have e2 : (G9 v.id i = 0) = True := by rw [Tc]; exact eq_true hv
       have e3 : isO l i = true := by rw [hk]; simp [hv]
       simp (disch := omega) only [e2, e3, hpos, go_sem]
     · have e2 : (G9 v.id i = 0) = False := by rw [Tc]; exact eq_false hv
       have e3 : isO l i = false := by rw [hk]; simp [hv]
       simp (disch := omega) only [e2, e3, hpos, go_sem]
   · rw [List.getElem?_eq_none (by omega)] at hk;simp (disch := omega) only [Yr, hal, hpos, hk, go_sem]
theorem Ly {x : SV} {f : Bool} {l : List Obj} (i : Bb) {h d} (hx : Da h [x, .vec 2 [.i .i64 i.1, .i .u32 i.2]] = [.pv (.sl f 15 (l.map A1)), .vec 2 [.i .i64 i.1, .i .u32 i.2]]) (hl : Bh [x, .vec 2 [.i .i64 i.1, .i .u32 i.2]] = true) (hs : Dl l) (hn : l.length ≤ 1000) :
 FunOk Try.prog 64 [x, .vec 2 [.i .i64 i.1, .i .u32 i.2]] h d (.tup [.pv (.i .i64 (Cb l i)), .pv (.b (isO l i))]) [] := by
 refine Dd An fn64 (by simp) hl rfl fun F => ?_;rw [hx];simp (disch := omega) only [ir64, go_sem];refine Aa (Az7 (l := l) i rfl rfl hs hn) ?_;simp (disch := omega) only [go_sem]
def H8 (l : List Obj) (i : Bb) : Int := if i = (0, 0) then 0 else match l[Cb l i]? with
 | some o => if o.id = i then (if o.dir = true then 0 else 22) else 2
 | none => 2
theorem A1x {l : List Obj} (hs : Dl l) {i : Bb} (h : i ≠ (0, 0)) (k : isO l i = false) : H8 l i = 2 := by
 unfold H8; rw [if_neg h];rw [Pm hs] at k;cases hx : l[Cb l i]? with
 | none => rfl
 | some x => rw [hx] at k; simp only at k ⊢; rw [if_neg (by simpa using k)]
theorem A1w {l : List Obj} {i : Bb} {o : Obj} (h : i ≠ (0, 0)) (k : l[Cb l i]? = some o) (ho : o.id = i) : H8 l i = if o.dir = true then 0 else 22 := by
 unfold H8; rw [if_neg h, k]; simp only; rw [if_pos ho]
theorem Al6 {i : Bb} (h : i = (0, 0)) : i.1 = 0 ∧ i.2 = 0 := by subst h; exact ⟨rfl, rfl⟩
theorem An8 {s : St} (i : Bb) {h d} (hs : Dl s.objs) (hn : s.objs.length ≤ 1000) : FunOk Try.prog 63 [.agg (Bl s), .vec 2 [.i .i64 i.1, .i .u32 i.2]] h d (.pv (.i .i64 (H8 s.objs i))) [] := by
 refine Ax An fn63 (by simp) rfl rfl fun F => ?_;by_cases h0 : i = (0, 0)
 · have e : H8 s.objs i = 0 := if_pos h0;have hz : Gn i.1 i.2 = true := decide_eq_true (Al6 h0);simp (disch := omega) only [ir63, Bl, A7, Am, Aj, Ai, hz, e, go_sem]
 · have hz : Gn i.1 i.2 = false := decide_eq_false fun e => h0 (Prod.ext e.1 e.2);simp (disch := omega) only [ir63, Bl, A7, Am, Aj, Ai, hz, go_sem];refine Aa (Ly (l := s.objs) i rfl rfl hs hn) ?_;by_cases hi : isO s.objs i = true
   · obtain ⟨o, h1, h2⟩ := A03 hs hi;have e := A1w h0 h1 h2;have hlt := (List.getElem?_eq_some_iff.1 h1).1;have he : (s.objs.map A1)[Cb s.objs i]? = some (A1 o) := by rw [List.getElem?_map, h1]; rfl
     by_cases hd : o.dir = true
     · rw [if_pos hd] at e;simp (disch := omega) only [hi, List.length_map, he, Ge, hd, e, go_sem]
     · rw [if_neg hd] at e;have hd' : o.dir = false := by simpa using hd
       simp (disch := omega) only [hi, List.length_map, he, Ge, hd', e, go_sem]
   · have hi' : isO s.objs i = false := by simpa using hi
     have e := A1x hs h0 hi';simp (disch := omega) only [hi', e, go_sem]
theorem Aqi {P : Program} (hm : P.follows .mixedOrders = true) {f N' : Nat} {rs : List Rv} {c : C} (hf : A6 P f = some (N', rs, c)) {args : List SV} {h : Nat → Option Blk} {d : Nat} {sz : Nat} {es : List (List PV)} {X : Nat → SV} (hlen : args.length ≤ N')
 (hargs : SV.closedL args = true) (hX : ∀ (V V' : View) (ρ ρ' : Nat → Value) (n d : Nat) (v : Value), View.le V V' → ρ' d = ρ n → Conc V ρ (X n) v → Conc V' ρ' (X d) v)
 (hrun : ∀ F, sx (Oc P F N') c (Rl rs fun y g => ∃ n, y = X n ∧ g n = some (.row sz es)) (mk (Cp 0 args) [])) :
 FunOk P f args h d (X d) [.new d (.row sz es)] := by
 obtain ⟨h1, h2, h3⟩ := Bx hargs;refine ⟨Cc hf, fun F N ρ s a w hR hh vs hc => ?_⟩;refine Calls.mono (De hm hf (h := h) hlen h2 Kh (by rw [h3]; exact hrun) hR hh hc) fun e w' he => ?_;obtain ⟨v, rfl, hg, N'', ρ', s', a', y, hR', hy, n, rfl, hn⟩ := he;rw [h1, C7] at hR' hy;obtain ⟨base, cap, g1, g2, g3, g4, g5⟩ := hR'.own n _ hn;have hown : ∀ b, B0 (ρ' n) = some b → w.heap.size ≤ b ∧ b < w'.heap.size := fun b hb => by
  have ho : Bu ρ' s'.h b := ⟨n, _, hn, hb⟩
  exact ⟨(hR'.may b ho).resolve_right id, hR'.lt ho⟩
 have hnew := hR.adopt hg d (.row sz es) (ρ' n) hown fun _ => by
  refine ⟨base, cap, by rw [Aq]; exact g1, g2, g3, g4, fun hcap => ?_⟩;obtain ⟨b, vs', ty, fr, k1, k2, k3, k4, k5, k6⟩ := g5 hcap;refine ⟨b, vs', ty, fr, k1, k2, k3, k4, k5, fun i c hi => (k6 i c hi).mono (A8 fun b' c' ho hc' => ⟨fun hb' => ?_, hc'⟩)⟩;rcases hb' with ⟨m, z, hm1, hm2⟩ | hb'
  · by_cases hmd : m = d
    · subst hmd;rw [Aq] at hm2;exact ho (.inl ⟨n, _, hn, hm2⟩)
    · rw [Bd hmd] at hm2;simp only [FS.hup, FS.seth, FS.kill, hmd, if_false] at hm1;obtain ⟨z', hz', _⟩ := Option.map_eq_some_iff.1 hm1;exact ho (.inr (.inl ⟨m, z', hz', hm2⟩))
  · exact ho (.inr (.inr hb'))
 refine ⟨v, _, rfl, hnew.1, hX _ _ _ _ _ _ _ (A8 fun b' c' ho hc' => ⟨fun hb' => ?_, hc'⟩) Aq hy⟩;rcases hb' with ⟨m, z, hm1, hm2⟩ | hb'
 · by_cases hmd : m = d
   · subst hmd;rw [Aq] at hm2;exact ho (.inl ⟨n, _, hn, hm2⟩)
   · rw [Bd hmd] at hm2;simp only [FS.hup, FS.seth, FS.kill, hmd, if_false] at hm1;obtain ⟨z', hz', _⟩ := Option.map_eq_some_iff.1 hm1;exact ho (.inr (.inl ⟨m, z', hz', hm2⟩))
 · exact ho (.inr (.inr hb'))
theorem Aje {f : Bool} {z : Nat} {es : List (List PV)} {h d} (hz : es = [] ∨ z = 15) (hb : es.length ≤ 1000) : FunOk Try.prog 46 [.pv (.sl f z es)] h d (.pv (.sl false 15 es)) [] := by
 refine Vi An fn46 (by simp) rfl fun F => ?_;simp (disch := omega) only [ir46, go_sem];intro b hb';cases b
 · simp (disch := omega) only [go_sem]
 · have he : es = [] := by
    cases es with
    | nil => rfl
    | cons c l => exact absurd (hb' (by simp)) (by simp)
   subst he
   (try simp only [Ii, Ih, Ig, Ie, Ic, Ib, Ia, H9]); simp (disch := omega) only [go_sem]
   decide
theorem Ajd {f : Bool} {z : Nat} {es : List (List PV)} {h d} (hz : es = [] ∨ z = 11) (hb : es.length ≤ 1000) : FunOk Try.prog 47 [.pv (.sl f z es)] h d (.pv (.sl false 11 es)) [] := by
 refine Vi An fn47 (by simp) rfl fun F => ?_;simp (disch := omega) only [ir47, go_sem];intro b hb';cases b
 · simp (disch := omega) only [go_sem]
 · have he : es = [] := by
    cases es with
    | nil => rfl
    | cons c l => exact absurd (hb' (by simp)) (by simp)
   subst he
   (try simp only [Ii, Ih, Ig, Ie, Ic, Ib, Ia, H9]); simp (disch := omega) only [go_sem]
   decide
theorem Aci {V V' : View} {ρ ρ' : Nat → Value} {n d : Nat} {a b : List SV} {v : Value} (hV : V.le V') (he : ρ' d = ρ n) (ha : SV.closedL a = true) (hb : SV.closedL b = true) (h : Conc V ρ (.agg (a ++ .os n :: b)) v) : Conc V' ρ' (.agg (a ++ .os d :: b)) v := by
 simp only [Conc] at h ⊢;obtain ⟨vs, rfl, hc⟩ := h;obtain ⟨va, vb, rfl, h1, h2⟩ := I3 hc;simp only [Cells] at h2;obtain ⟨u, ub, rfl, h3, h4, h5, h6⟩ := h2;refine ⟨_, rfl, K3 (Dc hV ha h1) ?_⟩;simp only [Cells];refine ⟨u, ub, rfl, ?_, h4, h5, Dc hV hb h6⟩;simp only [Conc] at h3 ⊢;rw [he]; exact h3
def cpS (k : Nat) : SV := if k = 0 then .pv (.sl true 0 []) else .os 40
def cpK (l : List Obj) (k : Nat) : Option Blk := if k = 0 then none else some (.row 15 ((l.take k).map A1))
theorem Ard : cpS 0 = .pv (.sl true 0 []) := rfl
theorem Ahw {k : Nat} (h : k ≠ 0) : cpS k = .os 40 := if_neg h
theorem Are (l : List Obj) : cpK l 0 = none := rfl
theorem Ahx {l : List Obj} {k : Nat} (h : k ≠ 0) : cpK l k = some (.row 15 ((l.take k).map A1)) := if_neg h
def Rn : SV := .agg [.vec 8 (List.replicate 8 (.i .u32 0)), .pv (.sl true 0 []), .pv (.sl true 0 []), .vec 8 (List.replicate 8 (.i .i64 0)), .vec 8 (List.replicate 8 (.b false))]
def D4 (s : St) : SV := .pv (.sl false 15 (s.ents.map Bm))
def Atn (s : St) (k : Nat) : FS := mk [(15, .pv (.i .i64 k)), (14, .pv (.i .i64 s.objs.length)), (13, .pv (.sl false 15 (s.objs.map A1))), (3, .p 3 0), (2, .p 2 0)] [(3, some (.var (.agg (A7 s (cpS k) (D4 s))))), (2, some (.var Rn)), (40, cpK s.objs k)]
theorem F8 {α : Type} {l : List α} {k : Nat} {y : α} (h : l[k]? = some y) : l.take (k + 1) = l.take k ++ [y] := by
 rw [List.take_add_one, h]; rfl
theorem Xe (l : List Obj) : ∀ c ∈ l.map A1, c.length = 15 := fun c hc => by
 obtain ⟨o, _, rfl⟩ := List.mem_map.1 hc;exact Uq o
set_option maxHeartbeats 4000000 in
theorem Re {s : St} (hn : s.objs.length ≤ 1000) (hv : ∀ o ∈ s.objs, o.vers.length ≤ 1000) (he : s.ents.length ≤ 1000) {F : Fr} {R : SV → (Nat → Option Blk) → Prop}
 (h1 : s.objs = [] → ∀ h, R (.agg (A7 s (.pv (.sl true 0 [])) (D4 s))) h) (h2 : s.objs ≠ [] → ∀ h, h 40 = some (.row 15 (s.objs.map A1)) → R (.agg (A7 s (.os 40) (D4 s))) h) :
 sx (Oc Try.prog F 31) ir28 (Rl [.c 2 26 true] R) (mk (Cp 0 [.agg (Bl s)]) []) := by
 simp (disch := omega) only [ir28, Bl, A7, go_sem];refine Aa (Aje (es := s.ents.map Bm) (.inr rfl) (by simpa using he)) ?_;simp (disch := omega) only [List.length_map, go_sem];refine Bc An (Atn s) (fun k => k ≤ s.objs.length) (fun k => s.objs.length - k) 0 (by simp) (A2 ?_ ?_) fun k hk => ?_
 · simp (disch := omega) only [go_sem]
 · simp (disch := omega) only [Ard, Are, A7, D4, Rn, go_sem]
 by_cases hlt : k < s.objs.length
 · have hx : s.objs[k]? = some s.objs[k] := List.getElem?_eq_getElem hlt;have hel : (s.objs.map A1)[k]? = some (A1 s.objs[k]) := by rw [List.getElem?_map, hx]; rfl
   have ht := F8 hx;have hvk := hv _ (List.getElem_mem hlt);generalize s.objs[k] = o at *;have hsp : splice (A1 o) 14 [.sl false 11 (o.vers.map Bk)] = A1 o := Aaq o false 11 o.vers;have hol := Uq o;have htm : (s.objs.take (k + 1)).map A1 = (s.objs.take k).map A1 ++ [A1 o] := by rw [ht]; simp
   have hkl : ((s.objs.take k).map A1).length = k := by simp; omega
   simp (disch := omega) only [Atn, A7, List.length_map, hel, Q1, go_sem];simp (disch := omega) only [Ei, go_sem];refine Aa (Ajd (es := o.vers.map Bk) (.inr rfl) (by simpa using hvk)) ?_;by_cases h0 : k = 0
   · subst h0;simp (disch := omega) only [hsp, Ard, Are, Q1, hol, A7, D4, Rn, go_sem];have hS := Ahw (k := 1) (by omega);have hK := Ahx (l := s.objs) (k := 1) (by omega);refine ⟨fun _ => trivial, (1 : Nat), by omega, by show _ - 1 < _ - 0; omega, J6 27 40 (by decide) rfl (A2 ?_ ?_)⟩
     · simp (disch := omega) only [go_sem]
     · simp (disch := omega) only [hS, hK, htm, A7, D4, Rn, go_sem];rfl
   · have hS := Ahw h0;have hK := Ahx (l := s.objs) h0;simp (disch := omega) only [hsp, hS, hK, Q1, hol, A7, D4, Rn, hkl, go_sem];have hS' := Ahw (k := k + 1) (by omega);have hK' := Ahx (l := s.objs) (k := k + 1) (by omega);refine ⟨k + 1, by omega, by omega, J6 27 40 (by decide) rfl (A2 ?_ ?_)⟩
     · simp (disch := omega) only [go_sem]
     · simp (disch := omega) only [hS', hK', htm, A7, D4, Rn, go_sem]
 · obtain rfl : k = s.objs.length := by omega
   by_cases h0 : s.objs = []
   · have := h1 h0;have e : s.objs.length = 0 := by rw [h0]; rfl
     simp (disch := omega) only [Atn, A7, e, Ard, Are, D4, Rn, go_sem];exact this _
   · have e : s.objs.length ≠ 0 := fun e => h0 (List.eq_nil_of_length_eq_zero e);have hS := Ahw e;have hK := Ahx (l := s.objs) e;simp (disch := omega) only [Atn, A7, hS, hK, D4, Rn, go_sem];exact h2 h0 _ (by simp [mk, lk])
theorem Ako {P : Program} (hm : P.follows .mixedOrders = true) {f N' : Nat} {rs : List Rv} {c : C} (hf : A6 P f = some (N', rs, c)) {args : List SV} {h : Nat → Option Blk} {d : Nat} {sz : Nat} {es : List (List PV)} {l r : List SV} (hlen : args.length ≤ N')
 (hargs : SV.closedL args = true) (hl : SV.closedL l = true) (hr : SV.closedL r = true) (hrun : ∀ F, sx (Oc P F N') c (Rl rs fun y g => (∃ n, y = .agg (l ++ .os n :: r) ∧ g n = some (.row sz es)) ∨ ∃ z, y = .agg (l ++ .pv (.sl true z []) :: r) ∧ es = []) (mk (Cp 0 args) [])) :
 FunOk P f args h d (.agg (l ++ .pv (.sl false sz es) :: r)) [] := by
 obtain ⟨h1, h2, h3⟩ := Bx hargs;refine ⟨Cc hf, fun F N ρ s a w hR hh vs hc => ?_⟩;refine Calls.mono (De hm hf (h := h) hlen h2 Kh (by rw [h3]; exact hrun) hR hh hc) fun e w' he => ?_;obtain ⟨v, rfl, hg, N'', ρ', s', a', y, hR', hy, hyy⟩ := he;rw [h1, C7] at hR' hy;refine ⟨v, ρ, rfl, hR.grew hg, ?_⟩;have key : ∀ (x : SV), x.width = 1 → y = .agg (l ++ x :: r) → (∀ u, Conc (vw ⟨w, fun _ => False, F.out ρ s.h, fun _ => undef, []⟩ w' ρ' s') ρ' x u → PConc (vw F w' ρ s) (.sl false sz es) u) → Conc (vw F w' ρ (s.hup [])) ρ (.agg (l ++ .pv (.sl false sz es) :: r)) v := fun x hw e k => by
  subst e;simp only [Conc] at hy ⊢;obtain ⟨vs, rfl, hc⟩ := hy;obtain ⟨va, vb, rfl, g1, g2⟩ := I3 hc;simp only [Cells] at g2;obtain ⟨u, ub, rfl, g3, g4, g5, g6⟩ := g2;refine ⟨_, rfl, K3 (Dc (D1 hR') hl g1) ?_⟩;simp only [Cells];exact ⟨u, ub, rfl, by simp only [Conc]; exact k u g3, g4.trans hw, g5, Dc (D1 hR') hr g6⟩
 rcases hyy with ⟨n, e, hn⟩ | ⟨z, e, rfl⟩
 · refine key _ rfl e fun u hu => ?_;simp only [Conc] at hu;rw [hu.1]; exact Ub hR' hn
 · refine key _ rfl e fun u hu => ?_;simp only [Conc] at hu;exact (Hg (by simp) (.inl rfl) (.refl [])) _ _ (hu.mono (D1 hR'))
structure Fine (s : St) : Prop where
 on : s.objs.length ≤ 500
 ov : ∀ o ∈ s.objs, o.vers.length ≤ 500
 en : s.ents.length ≤ 500
theorem Aoi {s : St} (hs : Fine s) {h d} : FunOk Try.prog 28 [.agg (Bl s)] h d (.agg (A7 s (.os d) (D4 s))) [.new d (.row 15 (s.objs.map A1))] := by
 have a1 : s.objs.length ≤ 1000 := Nat.le_trans hs.on (by omega);have a2 : ∀ o ∈ s.objs, o.vers.length ≤ 1000 := fun o ho => Nat.le_trans (hs.ov o ho) (by omega);have a3 : s.ents.length ≤ 1000 := Nat.le_trans hs.en (by omega);by_cases h0 : s.objs = []
 · rw [h0];refine FunOk.nilos (a := [.vec 8 (vE s.known)]) (b := [D4 s, .vec 8 (iE s.wards), .vec 8 (wE s.ret)]) (z := 0) (sz := 15) ?_ rfl rfl (by omega);refine Ax An fn28 (by simp) rfl rfl fun F => ?_;exact Re a1 a2 a3 (fun _ _ => rfl) fun e => absurd h0 e
 · refine Aqi (X := fun n => .agg (A7 s (.os n) (D4 s))) An fn28 (by simp) rfl (fun V V' ρ ρ' n d v hV he hc => Aci (a := [.vec 8 (vE s.known)]) (b := [D4 s, .vec 8 (iE s.wards), .vec 8 (wE s.ret)]) hV he rfl rfl hc) fun F => ?_;exact Re a1 a2 a3 (fun e => absurd e h0) fun _ h hh => ⟨40, rfl, hh⟩
theorem Xc {s : St} (hs : Fine s) {h d} : FunOk Try.prog 28 [.agg (Bl s)] h d (.agg (Bl s)) [] := by
 have a1 : s.objs.length ≤ 1000 := Nat.le_trans hs.on (by omega);have a2 : ∀ o ∈ s.objs, o.vers.length ≤ 1000 := fun o ho => Nat.le_trans (hs.ov o ho) (by omega);have a3 : s.ents.length ≤ 1000 := Nat.le_trans hs.en (by omega);refine Ako (l := [.vec 8 (vE s.known)]) (r := [D4 s, .vec 8 (iE s.wards), .vec 8 (wE s.ret)]) An fn28 (by simp) rfl rfl rfl fun F => ?_;exact Re a1 a2 a3 (fun e h => .inr ⟨0, rfl, by rw [e]; rfl⟩) fun _ h hh => .inl ⟨40, rfl, hh⟩
def Ah3 : List SV → List PV → Prop
 | [], cs => cs = []
 | .pv x :: l, cs => ∃ r, cs = x :: r ∧ Ah3 l r
 | .vec n c :: l, cs => c.length = n ∧ ∃ r, cs = c ++ r ∧ Ah3 l r
 | _ :: _, _ => False
theorem Rf {V : View} {ρ : Nat → Value} : ∀ {l : List SV} {cs : List PV} {vs : List Value}, Ah3 l cs → PCells V cs vs → Cells V ρ l vs
 | [], cs, vs, h, hp => by
   have h : cs = [] := h;subst h;simp only [Cells];exact List.eq_nil_of_length_eq_zero hp.1.symm
 | .pv x :: l, cs, vs, h, hp => by
   obtain ⟨r, rfl, h⟩ := h;simp only [Cells];obtain ⟨v, hv, hx⟩ := hp.2 0 x rfl;cases vs with
   | nil => cases hv
   | cons u us =>
     have : u = v := by simpa using hv
     subst this;have hf : Ao u = [u] := by have := hx.one; cases u <;> simp_all [Ao, Ay]
     refine ⟨u, us, by rw [hf]; rfl, by simp only [Conc]; exact hx, by rw [hf]; rfl, fun c hc => ?_, Rf h ⟨by simpa using hp.1, fun j y hy => by simpa using hp.2 (j + 1) y (by simpa using hy)⟩⟩;rw [hf] at hc;rw [List.mem_singleton.1 hc];exact hx.one
 | .vec n c :: l, cs, vs, h, hp => by
   obtain ⟨hn, r, rfl, h⟩ := h;simp only [Cells];have hl : c.length + r.length = vs.length := by simpa using hp.1
   have hA : PCells V c (vs.take n) := ⟨by simp; omega, fun j y hy => by
    have hj := (List.getElem?_eq_some_iff.1 hy).1;obtain ⟨v, h1, h2⟩ := hp.2 j y (by rw [List.getElem?_append_left hj]; exact hy);exact ⟨v, by rw [List.getElem?_take_of_lt (by omega)]; exact h1, h2⟩⟩
   refine ⟨.agg ⟨vs.take n⟩, vs.drop n, (List.take_append_drop n vs).symm, by simp only [Conc]; exact ⟨_, rfl, by simp; omega, hA⟩, by simp [Ao, SV.width]; omega, fun x hx => hA.one x hx, Rf h ⟨by simp; omega, fun j y hy => by
    obtain ⟨v, h1, h2⟩ := hp.2 (n + j) y (by rw [List.getElem?_append_right (by omega)]; simpa [hn] using hy);exact ⟨v, by rw [List.getElem?_drop]; exact h1, h2⟩⟩⟩
 | .agg _ :: _, _, _, h, _ => h.elim
 | .tup _ :: _, _, _, h, _ => h.elim
 | .p _ _ :: _, _, _, h, _ => h.elim
 | .ps _ _ :: _, _, _, h, _ => h.elim
 | .pr _ _ _ _ :: _, _, _, h, _ => h.elim
 | .pi _ _ _ _ :: _, _, _, h, _ => h.elim
 | .os _ :: _, _, _, h, _ => h.elim
 | .ov _ _ _ _ :: _, _, _, h, _ => h.elim
 | .fn _ _ :: _, _, _, h, _ => h.elim
 | .dead :: _, _, _, h, _ => h.elim
theorem Avu {l : List SV} {cs : List PV} {n : Nat} (h : Ah3 l cs) : Imp (.vec n cs) (.agg l) := by
 intro V ρ v hv;simp only [Conc] at hv ⊢;obtain ⟨vs, rfl, _, hp⟩ := hv;exact ⟨vs, rfl, Rf h hp⟩
def Agd (a b : Vc) (k : Nat) : FS := mk [(8, .pv (.i .i64 k)), (7, .vec 8 (vE a)), (4, .pv (.b false)), (3, .p 3 0)] [(3, some (.var (.vec 8 (vE b))))]
theorem Axy (a b : Vc) {h d} : FunOk Try.prog 32 [.vec 8 (vE a), .vec 8 (vE b)] h d (.pv (.b (decide (Mr a b)))) [] := by
 refine Ax An fn32 (by simp) rfl rfl fun F => ?_;simp (disch := omega) only [ir32, go_sem];refine Bc An (Agd a b) (fun k => k ≤ 8 ∧ ∀ i, i < k → a i ≤ b i) (fun k => 8 - k) 0 (by simp) (A2 ?_ ?_) fun k hk => ?_
 · simp (disch := omega) only [go_sem]
 · simp (disch := omega) only [go_sem]
 obtain ⟨hk, hle⟩ := hk;by_cases hlt : k < 8
 · by_cases hc : a k ≤ b k
   · simp (disch := omega) only [Agd, go_sem];refine Av (k + 1) _ _ rfl ⟨by omega, fun i hi => ?_⟩ (by omega) ?_ ?_
     · by_cases e : i = k
       · subst e; exact hc
       · exact hle i (by omega)
     · simp (disch := omega) only [go_sem]
     · simp (disch := omega) only [go_sem]
   · have hn : ¬ Mr a b := fun h => hc (h k hlt);simp (disch := omega) only [Agd, hn, go_sem]
 · have hn : Mr a b := fun i hi => hle i (by omega);simp (disch := omega) only [Agd, hn, go_sem]
theorem Ys (g : SlI) (h : g.ok) : Imp (.pv g.pv) (.pv (.sl g.f 2 (g.l.map H5))) := U7 (Hg id (h.imp (fun e => by rw [e]; rfl) id) (.refl _))
def Qg (r : Int) (q : Nat) (s : List UInt8) : Ver := ⟨r, q, s, fun _ => 0⟩
theorem Af6 (r : Int) (q : Nat) (s : List UInt8) : Imp (.agg [.vec 2 [.i .i64 r, .i .u32 q], .pv (.s s), .vec 8 (vE fun _ => 0)]) (.vec 11 (Bk (Qg r q s))) := Pp (by rfl) (Tp _)
theorem Auo {l : List Ver} {g : SlI} {r : Int} {q : Nat} {s : List UInt8} {h d} (hg : g.ok) (hs : Cg l) (hn : l.length ≤ 900) (hbn : g.l.length ≤ 900) (hm : ¬ Ds l g.l) (ho : Cq l r q = none) :
 FunOk Try.prog 69 [.pv (.sl false 11 (l.map Bk)), .pv g.pv, .agg [.vec 2 [.i .i64 r, .i .u32 q], .pv (.s s), .vec 8 (vE fun _ => 0)]] h d (.tup [.pv (.sl false 11 ((Fj l g.l (Qg r q s)).map Bk)), .pv (.i .i64 0)]) [] := by
 refine FunOk.imp (args' := [.pv (.sl false 11 (l.map Bk)), .pv (.sl g.f 2 (g.l.map H5)), .vec 11 (Bk (Qg r q s))]) ?_ ⟨Imp.refl _, Ys g hg, Af6 r q s, trivial⟩ (by simp [Aw, tn]);refine Xt An fn69 (by simp) rfl rfl fun F => ?_;exact Ah1 hs hn hbn (fun h => absurd h hm) (fun _ h => by
  have ho' : Cq l (Qg r q s).rep (Qg r q s).seq = none := ho;rw [ho'] at h; cases h) (fun _ _ g n hg => .inl ⟨n, rfl, hg⟩)
theorem Abg {l : List Ver} {g : SlI} {r : Int} {q : Nat} {s : List UInt8} {h d} (hg : g.ok) (hs : Cg l) (hn : l.length ≤ 900) (hbn : g.l.length ≤ 900) (hm : Ds l g.l) :
 FunOk Try.prog 69 [.pv (.sl false 11 (l.map Bk)), .pv g.pv, .agg [.vec 2 [.i .i64 r, .i .u32 q], .pv (.s s), .vec 8 (vE fun _ => 0)]] h d (.tup [.pv (.sl true 0 []), .pv (.i .i64 2)]) [] := by
 refine FunOk.imp (args' := [.pv (.sl false 11 (l.map Bk)), .pv (.sl g.f 2 (g.l.map H5)), .vec 11 (Bk (Qg r q s))]) ?_ ⟨Imp.refl _, Ys g hg, Af6 r q s, trivial⟩ (by simp [Aw, tn]);exact Aef rfl rfl hs hn hbn hm
def Dg (e : Evt) : Bb := match e.base.l with
 | [] => (0, 0)
 | b :: _ => b
def D7 (l : List Ver) (e : Evt) : List UInt8 :=
 if e.kind = 5 then e.data
 else if e.kind = 4 then Sp (C3 l (Dg e).1 (Dg e).2).1 e.off.toNat
 else Kk (C3 l (Dg e).1 (Dg e).2).1 e.off.toNat e.data
structure FitsW (l : List Ver) (e : Evt) : Prop where
 k : e.kind = 3 ∨ e.kind = 4 ∨ e.kind = 5
 off : e.kind ≠ 5 → 0 ≤ e.off ∧ e.off ≤ 200
 len : e.kind = 3 → e.off + e.data.length ≤ 200
 data : ∀ v ∈ l, v.data.length ≤ 200
theorem X0 {l : List Ver} (h : ∀ v ∈ l, v.data.length ≤ 200) (r : Int) (q : Nat) : (C3 l r q).1.length ≤ 200 := by
 unfold C3;split
 · simp
 · split
   · rename_i v hv; exact h v (Xw hv).1
   · simp
theorem X1 (l : List Ver) (r : Int) (q : Nat) : (C3 l r q).2 = 0 ∨ (C3 l r q).2 = 2 := by
 unfold C3;split
 · exact .inl rfl
 · split
   · exact .inl rfl
   · exact .inr rfl
set_option maxHeartbeats 2000000 in
theorem Ag1 {l : List Ver} {e : Evt} (he : ev e) (hf : FitsW l e) (hs : Cg l) (hn : l.length ≤ 900) {h d} :
 FunOk Try.prog 68 [.pv (.sl false 11 (l.map Bk)), .vec 21 (Bo e)] h d (if e.kind = 5 ∨ (C3 l (Dg e).1 (Dg e).2).2 = 0 then .tup [.pv (.s (D7 l e)), .pv (.i .i64 0)] else .tup [.pv (.s []), .pv (.i .i64 2)]) [] := by
 refine Ax An fn68 (by simp) rfl (by split <;> rfl) fun F => ?_;by_cases h5 : e.kind = 5
 · rw [if_pos (.inl h5)];have hb : D7 l e = e.data := if_pos h5;simp (disch := omega) only [ir68, Az, h5, Ix, hb, go_sem]
 · have hz : (if e.kind = 5 ∨ (C3 l (Dg e).1 (Dg e).2).2 = 0 then (SV.tup [.pv (.s (D7 l e)), .pv (.i .i64 0)]) else .tup [.pv (.s []), .pv (.i .i64 2)]) = if (C3 l (Dg e).1 (Dg e).2).2 = 0 then (SV.tup [.pv (.s (D7 l e)), .pv (.i .i64 0)]) else .tup [.pv (.s []), .pv (.i .i64 2)] := by
    by_cases hd : (C3 l (Dg e).1 (Dg e).2).2 = 0
    · rw [if_pos (.inr hd), if_pos hd]
    · rw [if_neg (fun q => q.elim h5 hd), if_neg hd]
   rw [hz];have hoff := hf.off h5;have hdl := X0 hf.data (Dg e).1 (Dg e).2;have hpv : e.base.pv = .sl e.base.f e.base.z (e.base.l.map H5) := rfl;cases hbl : e.base.l with
   | nil =>
     obtain ⟨b, hb⟩ : ∃ b : Bb, b = (0, 0) := ⟨_, rfl⟩
     have hbi : Dg e = b := by unfold Dg; rw [hbl, hb]
     simp (disch := omega) only [ir68, Az, h5, Hi, hpv, hbl, List.map_nil, go_sem];rw [hbi] at hdl ⊢;have hde := X1 l b.1 b.2;have hbv : D7 l e = if e.kind = 4 then Sp (C3 l b.1 b.2).1 e.off.toNat else Kk (C3 l b.1 b.2).1 e.off.toNat e.data := by unfold D7; rw [if_neg h5, hbi]
     refine Aa (FunOk.imp (Aog (l := l) b.1 b.2 rfl rfl hs (by omega)) ⟨Imp.refl _, by subst hb; exact Pp (by rfl) rfl, trivial⟩ (by simp [Aw, tn])) ?_;generalize C3 l b.1 b.2 = w at *;by_cases hw : w.2 = 0
     · rw [if_pos hw];by_cases h4 : e.kind = 4
       · rw [if_pos h4] at hbv;have hc := Vt (data := w.1) (n := e.off) (by omega);simp (disch := omega) only [hw, Az, h4, Ph, go_sem];refine Aa (Axz w.1 e.off (by omega)) ?_;simp (disch := omega) only [hc, hbv, go_sem]
       · rw [if_neg h4] at hbv;have h3 : e.kind = 3 := by have := hf.k; omega
         have hl := hf.len h3;have hc := Qs (data := w.1) (off := e.off) (s := e.data) (by unfold E3; omega);simp (disch := omega) only [hw, Az, h4, Ph, Ix, go_sem];refine Aa (Agw w.1 e.data e.off) ?_;simp (disch := omega) only [hc, hbv, go_sem]
     · rw [if_neg hw];have hw2 := hde.resolve_left hw;simp (disch := omega) only [hw2, go_sem]
   | cons b t =>
     have hbi : Dg e = b := by unfold Dg; rw [hbl]
     have hok : e.base.z = 2 := he.2.1.resolve_left (by rw [hbl]; simp);have h0 : (List.map H5 (b :: t))[0]? = some (H5 b) := rfl;have hpos : (0 : Int) < ((t.length : Int) + 1) := by omega
     simp (disch := omega) only [ir68, Az, h5, Hi, hpv, hbl, hok, List.length_map, h0, Ko, go_sem];rw [hbi] at hdl ⊢;have hde := X1 l b.1 b.2;have hbv : D7 l e = if e.kind = 4 then Sp (C3 l b.1 b.2).1 e.off.toNat else Kk (C3 l b.1 b.2).1 e.off.toNat e.data := by unfold D7; rw [if_neg h5, hbi]
     refine Aa (FunOk.imp (Aog (l := l) b.1 b.2 rfl rfl hs (by omega)) ⟨Imp.refl _, Imp.refl _, trivial⟩ (by simp [Aw, tn])) ?_;generalize C3 l b.1 b.2 = w at *;by_cases hw : w.2 = 0
     · rw [if_pos hw];by_cases h4 : e.kind = 4
       · rw [if_pos h4] at hbv;have hc := Vt (data := w.1) (n := e.off) (by omega);simp (disch := omega) only [hw, Az, h4, Ph, go_sem];refine Aa (Axz w.1 e.off (by omega)) ?_;simp (disch := omega) only [hc, hbv, go_sem]
       · rw [if_neg h4] at hbv;have h3 : e.kind = 3 := by have := hf.k; omega
         have hl := hf.len h3;have hc := Qs (data := w.1) (off := e.off) (s := e.data) (by unfold E3; omega);simp (disch := omega) only [hw, Az, h4, Ph, Ix, go_sem];refine Aa (Agw w.1 e.data e.off) ?_;simp (disch := omega) only [hc, hbv, go_sem]
     · rw [if_neg hw];have hw2 := hde.resolve_left hw;simp (disch := omega) only [hw2, go_sem]
abbrev Al (e : Evt) : Bb := (e.rep, e.seq)
abbrev Ar (e : Evt) : Bb := (e.orep, e.oseq)
abbrev F7 (e : Evt) : Bb := (e.drep, e.dseq)
theorem Xo {l : List Obj} (hs : Dl l) {i : Bb} {o : Obj} (h : l[Cb l i]? = some o) (ho : o.id = i) : isO l i = true := by
 rw [Pm hs, h]; simp [ho]
theorem Aq9 {l : List Ver} {e : Evt} (h : ¬ Ds l e.base.l) : (C3 l (Dg e).1 (Dg e).2).2 = 0 := by
 have key : ∀ b : Bb, (b = (0, 0) ∨ b ∈ e.base.l) → (C3 l b.1 b.2).2 = 0 := fun b hb => by
  by_cases hz : b.1 = 0 ∧ b.2 = 0
  · rw [Z3 hz]
  · cases hv : Cq l b.1 b.2 with
    | some v => rw [Z2 hz hv]
    | none =>
      rcases hb with rfl | hb
      · exact absurd ⟨rfl, rfl⟩ hz
      · exact absurd ⟨b, hb, hv⟩ h
 refine key _ ?_;unfold Dg;cases e.base.l with
 | nil => exact .inl rfl
 | cons b t => exact .inr List.mem_cons_self
structure StOk (s : St) : Prop where
 fine : Fine s
 so : Dl s.objs
 se : Cu s.ents
structure VerOk (o : Obj) (e : Evt) : Prop where
 sv : Cg o.vers
 fw : FitsW o.vers e
 new : Cq o.vers e.rep e.seq = none
 bl : e.base.l.length ≤ 900
theorem Ch {rs : List Rv} {R : SV → FS → Prop} {s : FS} (h : Ki s rs fun l => R (one l) s) : Wl rs R s := ⟨s, .same s, h⟩
theorem Pu {l : List Obj} {k : Nat} {o : Obj} (h : l[k]? = some o) : (l.map A1).getD k [] = A1 o := by
 rw [List.getD_eq_getElem?_getD, List.getElem?_map, h]; rfl
def wrO (s : St) (e : Evt) (o : Obj) : List Obj := s.objs.set (Cb s.objs (Ar e)) { o with vers := Fj o.vers e.base.l (Qg e.rep e.seq (D7 o.vers e)) }
def Hn (s : St) : SV := .agg (A7 s (.os 38) (D4 s))
theorem Cy (s : St) : ∀ n ∈ tn (Hn s), n = 6 ∨ n = 38 := fun n hn => by
 simp [Hn, A7, D4, tn, Aw] at hn; exact .inr hn
set_option maxHeartbeats 4000000 in
theorem A4f {s : St} {e : Evt} {o : Obj} (hs : StOk s) (he : ev e) (ho : s.objs[Cb s.objs (Ar e)]? = some o) (hid : o.id = Ar e) (hd : o.dir = false) (hv : VerOk o e) (hm : ¬ Ds o.vers e.base.l) {h d}
 (hg : h 6 = some (.var (Hn s))) (h38 : h 38 = some (.row 15 (s.objs.map A1))) :
 DeepOk Try.prog 50 [.p 6 0, .vec 21 (Bo e)] h d (.pv (.i .i64 0)) [.new 38 (.row 15 ((wrO s e o).map A1)), .upd 6 (.var (Hn s))] := by
 refine Dk An fn50 (by simp) hg h38 (by decide) rfl (Cy s) fun F => ?_;have hk := hv.fw.k;have n8 : ¬ e.kind = 8 := by omega
 have n9 : ¬ e.kind = 9 := by omega
 have n1 : ¬ e.kind = 1 := by omega
 have n2 : ¬ e.kind = 2 := by omega
 have n6 : ¬ e.kind = 6 := by omega
 have n7 : ¬ e.kind = 7 := by omega
 have hi := Xo hs.so ho hid;have hlt := (List.getElem?_eq_some_iff.1 ho).1;have hel : (s.objs.map A1)[Cb s.objs (Ar e)]? = some (A1 o) := by rw [List.getElem?_map, ho]; rfl
 have hgd := Pu ho;have a1 := hs.fine.on;have a2 := hs.fine.ov o (List.mem_of_getElem? ho);have hb := Ag1 he hv.fw hv.sv (by omega) (h := fun _ => none) (d := 0);rw [if_pos (.inr (Aq9 hm))] at hb;simp (disch := omega) only [ir50, Hn, A7, D4, Az, n8, n9, n1, n2, Db, go_sem];refine Aa (Ly (l := s.objs) (Ar e) rfl rfl hs.so (by omega)) ?_;simp (disch := omega) only [hi, List.length_map, n6, n7, Az, hel, Ge, hd, Ei, Bq, go_sem];refine Aa (hb.at (by simp [Aw, tn])) ?_;simp (disch := omega) only [hel, Ei, Hi, Bv, go_sem];have hpv : e.base.pv = .sl e.base.f e.base.z (e.base.l.map H5) := rfl;have hA := Auo (g := e.base) (r := e.rep) (q := e.seq) (s := D7 o.vers e) he.2.1 hv.sv (by omega) hv.bl hm hv.new (h := fun _ => none) (d := 0);refine Aa (hA.at (by simp [Aw, tn, hpv])) ?_;have hsp := Aaq o false 11 (Fj o.vers e.base.l (Qg e.rep e.seq (D7 o.vers e)));have hset : (s.objs.map A1).set (Cb s.objs (Ar e)) (D6 false 11 { o with vers := Fj o.vers e.base.l (Qg e.rep e.seq (D7 o.vers e)) }) = (wrO s e o).map A1 := by
  unfold wrO; rw [List.map_set]; rfl
 simp (disch := omega) only [hgd, hsp, List.length_map, hset, go_sem];refine Ch ?_;simp (disch := omega) only [go_sem]
def Yh (s : St) (e : Evt) (n : Int) : Prop := ∀ (h : Nat → Option Blk) (d : Nat), h 6 = some (.var (Hn s)) → h 38 = some (.row 15 (s.objs.map A1)) → ∃ r X, DeepOk Try.prog 50 [.p 6 0, .vec 21 (Bo e)] h d (.pv (.i .i64 n)) [.new 38 (.row 15 r), .upd 6 (.var X)]
set_option maxHeartbeats 4000000 in
theorem Aee {s : St} {e : Evt} {o : Obj} (hs : StOk s) (he : ev e) (ho : s.objs[Cb s.objs (Ar e)]? = some o) (hid : o.id = Ar e) (hd : o.dir = false) (hv : VerOk o e) (hm : Ds o.vers e.base.l) : Yh s e 2 := by
 intro h d hg h38;have hk := hv.fw.k;have n8 : ¬ e.kind = 8 := by omega
 have n9 : ¬ e.kind = 9 := by omega
 have n1 : ¬ e.kind = 1 := by omega
 have n2 : ¬ e.kind = 2 := by omega
 have n6 : ¬ e.kind = 6 := by omega
 have n7 : ¬ e.kind = 7 := by omega
 have hi := Xo hs.so ho hid;have hlt := (List.getElem?_eq_some_iff.1 ho).1;have hel : (s.objs.map A1)[Cb s.objs (Ar e)]? = some (A1 o) := by rw [List.getElem?_map, ho]; rfl
 have hgd := Pu ho;have a1 := hs.fine.on;have a2 := hs.fine.ov o (List.mem_of_getElem? ho);have hb := Ag1 he hv.fw hv.sv (by omega) (h := fun _ => none) (d := 0);by_cases hq : e.kind = 5 ∨ (C3 o.vers (Dg e).1 (Dg e).2).2 = 0
 · rw [if_pos hq] at hb;refine ⟨(s.objs.map A1).set (Cb s.objs (Ar e)) (splice (A1 o) 14 [.sl true 0 []]), Hn s, Dk An fn50 (by simp) hg h38 (by decide) rfl (Cy s) fun F => ?_⟩;simp (disch := omega) only [ir50, Hn, A7, D4, Az, n8, n9, n1, n2, Db, go_sem];refine Aa (Ly (l := s.objs) (Ar e) rfl rfl hs.so (by omega)) ?_;simp (disch := omega) only [hi, List.length_map, n6, n7, Az, hel, Ge, hd, Ei, Bq, go_sem];refine Aa (hb.at (by simp [Aw, tn])) ?_;simp (disch := omega) only [hel, Ei, Hi, Bv, go_sem];have hpv : e.base.pv = .sl e.base.f e.base.z (e.base.l.map H5) := rfl;have hA := Abg (g := e.base) (r := e.rep) (q := e.seq) (s := D7 o.vers e) he.2.1 hv.sv (by omega) hv.bl hm (h := fun _ => none) (d := 0);refine Aa (hA.at (by simp [Aw, tn, hpv])) ?_;simp (disch := omega) only [hgd, List.length_map, go_sem];refine Ch ?_;simp (disch := omega) only [go_sem]
 · rw [if_neg hq] at hb;refine ⟨s.objs.map A1, Hn s, Dk An fn50 (by simp) hg h38 (by decide) rfl (Cy s) fun F => ?_⟩;simp (disch := omega) only [ir50, Hn, A7, D4, Az, n8, n9, n1, n2, Db, go_sem];refine Aa (Ly (l := s.objs) (Ar e) rfl rfl hs.so (by omega)) ?_;simp (disch := omega) only [hi, List.length_map, n6, n7, Az, hel, Ge, hd, Ei, Bq, go_sem];refine Aa (hb.at (by simp [Aw, tn])) ?_;simp (disch := omega) only [go_sem];refine Ch ?_;simp (disch := omega) only [go_sem]
theorem Aob {s : St} {e : Evt} {o : Obj} (hs : StOk s) (hk : e.kind = 3 ∨ e.kind = 4 ∨ e.kind = 5) (ho : s.objs[Cb s.objs (Ar e)]? = some o) (hid : o.id = Ar e) (hd : o.dir = true) : Yh s e 23 := by
 intro h d hg h38;have n8 : ¬ e.kind = 8 := by omega
 have n9 : ¬ e.kind = 9 := by omega
 have n1 : ¬ e.kind = 1 := by omega
 have n2 : ¬ e.kind = 2 := by omega
 have n6 : ¬ e.kind = 6 := by omega
 have n7 : ¬ e.kind = 7 := by omega
 have hi := Xo hs.so ho hid;have hlt := (List.getElem?_eq_some_iff.1 ho).1;have hel : (s.objs.map A1)[Cb s.objs (Ar e)]? = some (A1 o) := by rw [List.getElem?_map, ho]; rfl
 have a1 := hs.fine.on;refine ⟨s.objs.map A1, Hn s, Dk An fn50 (by simp) hg h38 (by decide) rfl (Cy s) fun F => ?_⟩;simp (disch := omega) only [ir50, Hn, A7, D4, Az, n8, n9, n1, n2, Db, go_sem];refine Aa (Ly (l := s.objs) (Ar e) rfl rfl hs.so (by omega)) ?_;simp (disch := omega) only [hi, List.length_map, n6, n7, Az, hel, Ge, hd, Ei, Bq, go_sem];refine Ch ?_;simp (disch := omega) only [go_sem]
theorem Aja {s : St} {e : Evt} (hs : StOk s) (hk : e.kind = 3 ∨ e.kind = 4 ∨ e.kind = 5 ∨ e.kind = 6 ∨ e.kind = 7) (hi : isO s.objs (Ar e) = false) : Yh s e 2 := by
 intro h d hg h38;have n8 : ¬ e.kind = 8 := by omega
 have n9 : ¬ e.kind = 9 := by omega
 have n1 : ¬ e.kind = 1 := by omega
 have n2 : ¬ e.kind = 2 := by omega
 have a1 := hs.fine.on;refine ⟨s.objs.map A1, Hn s, Dk An fn50 (by simp) hg h38 (by decide) rfl (Cy s) fun F => ?_⟩;simp (disch := omega) only [ir50, Hn, A7, D4, Az, n8, n9, n1, n2, Db, go_sem];refine Aa (Ly (l := s.objs) (Ar e) rfl rfl hs.so (by omega)) ?_;simp (disch := omega) only [hi, go_sem];refine Ch ?_;simp (disch := omega) only [go_sem]
theorem Lx {s : St} (i : Bb) {h d} (hs : Dl s.objs) (hn : s.objs.length ≤ 1000) (h38 : h 38 = some (.row 15 (s.objs.map A1))) :
 FunOk Try.prog 63 [.agg [.vec 8 (vE s.known), .os 38, .pv (.sl false 15 (s.ents.map Bm)), .vec 8 (iE s.wards), .vec 8 (wE s.ret)], .vec 2 [.i .i64 i.1, .i .u32 i.2]] h d (.pv (.i .i64 (H8 s.objs i))) [] :=
 FunOk.lend (n := 38) (h' := h) (d' := d) h38 (by simp [Aw, tn]) (by simp [Aw, tn, SV.frz, SV.frzL]) rfl (An8 (s := s) i hs hn)
def Ut (e : Evt) : Obj := ⟨Al e, decide (e.kind = 2), Al e, e.name, fun _ => 0, []⟩
def Ez (e : Evt) (obj : Bb) : Ent := ⟨Al e, F7 e, e.name, obj, fun _ => 0⟩
theorem Awm (e : Evt) (obj : Bb) : Imp (.agg [.vec 2 [.i .i64 e.rep, .i .u32 e.seq], .vec 2 [.i .i64 e.drep, .i .u32 e.dseq], .pv (.s e.name), .vec 2 [.i .i64 obj.1, .i .u32 obj.2], .vec 8 (vE fun _ => 0)]) (.vec 15 (Bm (Ez e obj))) := Pp (by rfl) (E6 _)
theorem Za {l : List Ent} (e : Evt) (obj : Bb) {h d} (hs : Cu l) (hn : l.length ≤ 1000) :
 FunOk Try.prog 66 [.pv (.sl false 15 (l.map Bm)), .agg [.vec 2 [.i .i64 e.rep, .i .u32 e.seq], .vec 2 [.i .i64 e.drep, .i .u32 e.dseq], .pv (.s e.name), .vec 2 [.i .i64 obj.1, .i .u32 obj.2], .vec 8 (vE fun _ => 0)]] h d (.os d) [.new d (.row 15 ((P6 l (Ez e obj)).map Bm))] :=
 FunOk.imp (A0a (l := l) (Ez e obj) rfl rfl hs hn) ⟨Imp.refl _, Awm e obj, trivial⟩ (by simp [Aw, tn])
set_option maxHeartbeats 4000000 in
theorem Ajc {s : St} {e : Evt} (hs : StOk s) (hk : e.kind = 1 ∨ e.kind = 2) (hd : H8 s.objs (F7 e) ≠ 0) : Yh s e (H8 s.objs (F7 e)) := by
 intro h d hg h38;have n8 : ¬ e.kind = 8 := by omega
 have n9 : ¬ e.kind = 9 := by omega
 have a1 := hs.fine.on;refine ⟨s.objs.map A1, Hn s, Dk An fn50 (by simp) hg h38 (by decide) rfl (Cy s) fun F => ?_⟩;rcases hk with hk | hk
 all_goals
  simp (disch := omega) only [ir50, Hn, A7, D4, Az, n8, n9, hk, Ej, go_sem];refine Aa (Lx (s := s) (F7 e) hs.so (by omega) rfl) ?_;simp (disch := omega) only [hd, go_sem];refine Ch ?_;simp (disch := omega) only [go_sem]
def mkS (s : St) (e : Evt) : St := { s with objs := s.objs.take (Cb s.objs (Al e)) ++ Ut e :: s.objs.drop (Cb s.objs (Al e)), ents := P6 s.ents (Ez e (Al e)) }
set_option maxHeartbeats 4000000 in
theorem A4g {s : St} {e : Evt} (hs : StOk s) (hk : e.kind = 1 ∨ e.kind = 2) (hd : H8 s.objs (F7 e) = 0) {h d}
 (hg : h 6 = some (.var (Hn s))) (h38 : h 38 = some (.row 15 (s.objs.map A1))) :
 DeepOk Try.prog 50 [.p 6 0, .vec 21 (Bo e)] h d (.pv (.i .i64 0)) [.new 38 (.row 15 ((s.objs.map A1).take (Cb s.objs (Al e)) ++ D6 true 0 (Ut e) :: (s.objs.map A1).drop (Cb s.objs (Al e)))), .upd 6 (.var (Hn (mkS s e)))] := by
 have n8 : ¬ e.kind = 8 := by omega
 have n9 : ¬ e.kind = 9 := by omega
 have a1 := hs.fine.on;have a3 := hs.fine.en;refine Dk An fn50 (by simp) hg h38 (by decide) rfl (Cy _) fun F => ?_;rcases hk with hk | hk
 · skip
   simp (disch := omega) only [ir50, Hn, A7, D4, Az, n8, n9, hk, Ej, go_sem];refine Aa (Lx (s := s) (F7 e) hs.so (by omega) rfl) ?_;simp (disch := omega) only [hd, Bv, go_sem];refine Aa (Ly (l := s.objs) (Al e) rfl rfl hs.so (by omega)) ?_;have hN : ∀ b, b = decide (e.kind = 2) → (PV.i .i64 e.rep :: .i .u32 e.seq :: .b b :: .i .i64 e.rep :: .i .u32 e.seq :: .s e.name :: ((vE fun _ => 0) ++ [.sl true 0 []])) = D6 true 0 (Ut e) := fun b hb => by subst hb; rfl
   have hN := hN false (by simp [hk]);have hl9 : ((vE fun _ => 0) ++ [PV.sl true 0 []]).length = 9 := by simp [Ce]
   simp (disch := omega) only [Bv, Az, hk, E8, hN, hl9, Di, go_sem];have hp := Y0 s.objs (Al e);refine Aa (An6 (m := 38) (n := 75) (s.objs.map A1) (D6 true 0 (Ut e)) (Cb s.objs (Al e)) (by simpa using hp) (by simp; omega) (Xe _) (Di _ _ _) (by decide) (by decide) (by decide) (by decide) rfl rfl) ?_;simp (disch := omega) only [Bv, Ej, E8, go_sem];refine Aa (Za (l := s.ents) e (Al e) hs.se (by omega)) ?_;simp (disch := omega) only [go_sem];refine ⟨_, I7 93 rfl (J6 76 38 (by decide) rfl (.same _)), ?_⟩
   (try simp only [Ii, Ih, Ig, Ie, Ic, Ib, Ia, H9]); simp (disch := omega) only [mkS, go_sem]
 · skip
   simp (disch := omega) only [ir50, Hn, A7, D4, Az, n8, n9, hk, Ej, go_sem];refine Aa (Lx (s := s) (F7 e) hs.so (by omega) rfl) ?_;simp (disch := omega) only [hd, Bv, go_sem];refine Aa (Ly (l := s.objs) (Al e) rfl rfl hs.so (by omega)) ?_;have hN : ∀ b, b = decide (e.kind = 2) → (PV.i .i64 e.rep :: .i .u32 e.seq :: .b b :: .i .i64 e.rep :: .i .u32 e.seq :: .s e.name :: ((vE fun _ => 0) ++ [.sl true 0 []])) = D6 true 0 (Ut e) := fun b hb => by subst hb; rfl
   have hN := hN true (by simp [hk]);have hl9 : ((vE fun _ => 0) ++ [PV.sl true 0 []]).length = 9 := by simp [Ce]
   simp (disch := omega) only [Bv, Az, hk, E8, hN, hl9, Di, go_sem];have hp := Y0 s.objs (Al e);refine Aa (An6 (m := 38) (n := 75) (s.objs.map A1) (D6 true 0 (Ut e)) (Cb s.objs (Al e)) (by simpa using hp) (by simp; omega) (Xe _) (Di _ _ _) (by decide) (by decide) (by decide) (by decide) rfl rfl) ?_;simp (disch := omega) only [Bv, Ej, E8, go_sem];refine Aa (Za (l := s.ents) e (Al e) hs.se (by omega)) ?_;simp (disch := omega) only [go_sem];refine ⟨_, I7 93 rfl (J6 76 38 (by decide) rfl (.same _)), ?_⟩
   (try simp only [Ii, Ih, Ig, Ie, Ic, Ib, Ia, H9]); simp (disch := omega) only [mkS, go_sem]
def Ld (s : St) (e : Evt) : St := { s with wards := C4 s.wards (e.rep - 1).toNat e.ward }
def Ue (s : St) (e : Evt) : St := { s with ret := C4 s.ret (e.rep - 1).toNat true }
theorem Amz (s : St) {k : Nat} (hk : k < 8) (n : Int) (a b : PV) : splice (vE s.known ++ a :: b :: (iE s.wards ++ wE s.ret)) (10 + k) [.i .i64 n] = vE s.known ++ a :: b :: (iE (C4 s.wards k n) ++ wE s.ret) := by
 rw [← W3 hk];simp only [splice, vE, iE, wE, Br];have hk2 : k = 0 ∨ k = 1 ∨ k = 2 ∨ k = 3 ∨ k = 4 ∨ k = 5 ∨ k = 6 ∨ k = 7 := by omega
 rcases hk2 with rfl | rfl | rfl | rfl | rfl | rfl | rfl | rfl <;> rfl
theorem Atp (s : St) {k : Nat} (hk : k < 8) (n : Bool) (a b : PV) : splice (vE s.known ++ a :: b :: (iE s.wards ++ wE s.ret)) (18 + k) [.b n] = vE s.known ++ a :: b :: (iE s.wards ++ wE (C4 s.ret k n)) := by
 rw [← W2 hk];simp only [splice, vE, iE, wE, Br];have hk2 : k = 0 ∨ k = 1 ∨ k = 2 ∨ k = 3 ∨ k = 4 ∨ k = 5 ∨ k = 6 ∨ k = 7 := by omega
 rcases hk2 with rfl | rfl | rfl | rfl | rfl | rfl | rfl | rfl <;> rfl
theorem Amq (s : St) : Imp (.vec 26 (vE s.known ++ .sl false 15 (s.objs.map A1) :: .sl false 15 (s.ents.map Bm) :: (iE s.wards ++ wE s.ret))) (.agg (Bl s)) :=
 Avu ⟨Ce _, _, rfl, _, rfl, _, rfl, Q8 _, _, rfl, Qf _, [], by simp, rfl⟩
theorem Ajb {s : St} {e : Evt} (hk : e.kind = 8) (hr : 1 ≤ e.rep ∧ e.rep ≤ 8) {h d} (hg : h 6 = some (.var (.agg (Bl s)))) :
 FunOk Try.prog 50 [.p 6 0, .vec 21 (Bo e)] h d (.pv (.i .i64 0)) [.upd 6 (.var (.agg (Bl (Ld s e))))] := by
 refine Hj (g := 6) An fn50 (by simp) (by simp [Aw, tn]) (by simp [Aw, tn]) hg rfl (by simp [Blk.ptr, SV.kill]) rfl (fun _ => rfl) fun F => ?_;obtain ⟨k, hk8, hre⟩ : ∃ k : Nat, k < 8 ∧ e.rep - 1 = k := ⟨(e.rep - 1).toNat, by omega, by omega⟩
 have hS : Ld s e = { s with wards := C4 s.wards k e.ward } := by unfold Ld; rw [hre]; rfl
 have hsp := Amz s hk8 e.ward (.sl false 15 (s.objs.map A1)) (.sl false 15 (s.ents.map Bm));rw [hS];simp (disch := omega) only [ir50, Bl, A7, Blk.ptr, Az, hk, G6, Aha, hre, hsp, go_sem];refine ⟨mk [(4, .pv (.i .i64 0)), (1000000, .p 6 0)] [(6, some (.var (.agg (Bl { s with wards := C4 s.wards k e.ward }))))], A2 ?_ ?_, ?_⟩
 · simp (disch := omega) only [go_sem]
 · simp (disch := omega) only [go_sem];exact ⟨Amq { s with wards := C4 s.wards k e.ward }, rfl⟩
 (try simp only [Ii, Ih, Ig, Ie, Ic, Ib, Ia, H9]); simp (disch := omega) only [go_sem]
 exact ⟨6, rfl, rfl⟩
theorem Aod {s : St} {e : Evt} (hk : e.kind = 9) (hr : 1 ≤ e.rep ∧ e.rep ≤ 8) {h d} (hg : h 6 = some (.var (.agg (Bl s)))) :
 FunOk Try.prog 50 [.p 6 0, .vec 21 (Bo e)] h d (.pv (.i .i64 0)) [.upd 6 (.var (.agg (Bl (Ue s e))))] := by
 refine Hj (g := 6) An fn50 (by simp) (by simp [Aw, tn]) (by simp [Aw, tn]) hg rfl (by simp [Blk.ptr, SV.kill]) rfl (fun _ => rfl) fun F => ?_;obtain ⟨k, hk8, hre⟩ : ∃ k : Nat, k < 8 ∧ e.rep - 1 = k := ⟨(e.rep - 1).toNat, by omega, by omega⟩
 have hS : Ue s e = { s with ret := C4 s.ret k true } := by unfold Ue; rw [hre]; rfl
 have hsp := Atp s hk8 true (.sl false 15 (s.objs.map A1)) (.sl false 15 (s.ents.map Bm));rw [hS];simp (disch := omega) only [ir50, Bl, A7, Blk.ptr, Az, hk, G6, hre, hsp, go_sem];refine ⟨mk [(4, .pv (.i .i64 0)), (1000000, .p 6 0)] [(6, some (.var (.agg (Bl { s with ret := C4 s.ret k true }))))], A2 ?_ ?_, ?_⟩
 · simp (disch := omega) only [go_sem]
 · simp (disch := omega) only [go_sem];exact ⟨Amq { s with ret := C4 s.ret k true }, rfl⟩
 (try simp only [Ii, Ih, Ig, Ie, Ic, Ib, Ia, H9]); simp (disch := omega) only [go_sem]
 exact ⟨6, rfl, rfl⟩
theorem Agj (s : St) (es : List (List PV)) : Blk.frz 38 (.sl false 15 es) (.var (Hn s)) = .var (.agg (A7 s (.pv (.sl false 15 es)) (D4 s))) := by
 simp [Hn, A7, D4, Blk.frz, SV.frz, SV.frzL]
theorem Aoc {s : St} {e : Evt} (hk : e.kind = 8) (hr : 1 ≤ e.rep ∧ e.rep ≤ 8) {h d} (hg : h 6 = some (.var (Hn s))) (h38 : h 38 = some (.row 15 (s.objs.map A1))) :
 DeepOk Try.prog 50 [.p 6 0, .vec 21 (Bo e)] h d (.pv (.i .i64 0)) [.frz 38 (.sl false 15 (s.objs.map A1)), .upd 6 (.var (.agg (Bl (Ld s e))))] :=
 DeepOk.frz (args' := [.p 6 0, .vec 21 (Bo e)]) (h' := fun k => if k = 38 then none else (h k).map (Blk.frz 38 (.sl false 15 (s.objs.map A1)))) (d' := d) h38 rfl (fun k _ => rfl) (Ajb hk hr (by show (h 6).map _ = _; rw [hg, Option.map_some, Agj]; rfl))
theorem Aul {s : St} {e : Evt} (hk : e.kind = 9) (hr : 1 ≤ e.rep ∧ e.rep ≤ 8) {h d} (hg : h 6 = some (.var (Hn s))) (h38 : h 38 = some (.row 15 (s.objs.map A1))) :
 DeepOk Try.prog 50 [.p 6 0, .vec 21 (Bo e)] h d (.pv (.i .i64 0)) [.frz 38 (.sl false 15 (s.objs.map A1)), .upd 6 (.var (.agg (Bl (Ue s e))))] :=
 DeepOk.frz (args' := [.p 6 0, .vec 21 (Bo e)]) (h' := fun k => if k = 38 then none else (h k).map (Blk.frz 38 (.sl false 15 (s.objs.map A1)))) (d' := d) h38 rfl (fun k _ => rfl) (Aod hk hr (by show (h 6).map _ = _; rw [hg, Option.map_some, Agj]; rfl))
def Aex (l : List Bb) (i : Bb) : Int := match l.findIdx? (fun x => decide (i = x)) with
 | some k => k
 | none => -1
def Age (f : Bool) (l : List Bb) (i : Bb) (k : Nat) : FS := mk [(8, .pv (.i .i64 k)), (7, .pv (.i .i64 l.length)), (0, .pv (.sl f 2 (l.map H5))), (3, .p 3 0)] [(3, some (.var (.vec 2 [.i .i64 i.1, .i .u32 i.2])))]
set_option maxHeartbeats 1000000 in
theorem An7 {f : Bool} {l : List Bb} (i : Bb) {h d} (hn : l.length ≤ 1000) : FunOk Try.prog 93 [.pv (.sl f 2 (l.map H5)), .vec 2 [.i .i64 i.1, .i .u32 i.2]] h d (.pv (.i .i64 (Aex l i))) [] := by
 refine Ax An fn93 (by simp) rfl rfl fun F => ?_;simp (disch := omega) only [ir93, List.length_map, go_sem];refine Bc An (Age f l i) (fun k => k ≤ l.length ∧ ∀ j x, j < k → l[j]? = some x → i ≠ x) (fun k => l.length - k) 0 ⟨by simp, fun j x hj => absurd hj (Nat.not_lt_zero j)⟩ (A2 ?_ ?_) fun k hk => ?_
 · simp (disch := omega) only [go_sem]
 · simp (disch := omega) only [go_sem]
 obtain ⟨hk1, hk2⟩ := hk;by_cases hlt : k < l.length
 · have hx : l[k]? = some l[k] := List.getElem?_eq_getElem hlt;have he : (l.map H5)[k]? = some (H5 l[k]) := by rw [List.getElem?_map, hx]; rfl
   generalize l[k] = b at *;by_cases hb : i = b
   · have hp := Y2 hb;have e : Aex l i = k := by
      have : l.findIdx? (fun x => decide (i = x)) = some k := by
       rw [List.findIdx?_eq_some_iff_getElem];refine ⟨hlt, by rw [List.getElem?_eq_getElem hlt] at hx; cases hx; simpa using hb, fun j hj => ?_⟩;have := hk2 j _ hj (List.getElem?_eq_getElem (by omega));simpa using this
      unfold Aex; rw [this]
     simp (disch := omega) only [Age, List.length_map, he, Ko, Am, hp, e, go_sem]
   · have hp := Y3 hb;simp (disch := omega) only [Age, List.length_map, he, Ko, Am, hp, go_sem];refine Av (k + 1) _ _ rfl ⟨by omega, fun j x hj hjx => ?_⟩ (by omega) ?_ ?_
     · by_cases ej : j = k
       · subst ej; rw [hx] at hjx; cases hjx; exact hb
       · exact hk2 j x (by omega) hjx
     · simp (disch := omega) only [go_sem]
     · simp (disch := omega) only [go_sem]
 · obtain rfl : k = l.length := by omega
   have e : Aex l i = -1 := by
    have : l.findIdx? (fun x => decide (i = x)) = none := by
     rw [List.findIdx?_eq_none_iff];intro x hx;obtain ⟨j, hj⟩ := List.mem_iff_getElem?.1 hx;have := hk2 j x (List.getElem?_eq_some_iff.1 hj).1 hj;simpa using this
    unfold Aex; rw [this]
   simp (disch := omega) only [Age, e, go_sem]
theorem Apz (l : List Bb) (i : Bb) : decide (0 ≤ Aex l i) = decide (i ∈ l) := by
 unfold Aex;cases h : l.findIdx? (fun x => decide (i = x)) with
 | some k =>
   have := List.findIdx?_eq_some_iff_getElem.1 h;obtain ⟨h1, h2, _⟩ := this;have h3 : i = l[k] := by simpa using h2
   have : i ∈ l := by rw [h3]; exact List.getElem_mem h1
   simp only [this, decide_true, decide_eq_true_eq]; omega
 | none =>
   have h2 := List.findIdx?_eq_none_iff.1 h;have : ¬ i ∈ l := fun hm => by have := h2 i hm; simp at this
   simp only [this, decide_false, decide_eq_false_iff_not]; omega
theorem R2 (g : SlI) (i : Bb) (hg : g.ok) {h d} (hn : g.l.length ≤ 1000) : FunOk Try.prog 79 [.pv g.pv, .vec 2 [.i .i64 i.1, .i .u32 i.2]] h d (.pv (.b (decide (i ∈ g.l)))) [] := by
 refine FunOk.imp (args' := [.pv (.sl g.f 2 (g.l.map H5)), .vec 2 [.i .i64 i.1, .i .u32 i.2]]) ?_ ⟨Ys g hg, Imp.refl _, trivial⟩ (by simp [Aw, tn]);refine Ax An fn79 (by simp) rfl rfl fun F => ?_;have e := Apz g.l i;simp (disch := omega) only [ir79, go_sem];refine Aa (An7 (l := g.l) i hn) ?_;simp (disch := omega) only [e, go_sem]
def Dj (e : Evt) (x : Ent) : Bool := decide (x.obj = Ar e) && decide (x.id ∈ e.gone.l)
def D9 (e : Evt) (l m : List Ent) : List Ent := m.foldl (fun a x => if Dj e x = true then killL a x.id (Al e) else a) l
theorem Vf (e : Evt) (l m : List Ent) (x : Ent) : D9 e l (m ++ [x]) = if Dj e x = true then killL (D9 e l m) x.id (Al e) else D9 e l m := by
 simp [D9, List.foldl_append]
theorem Ku {e : Evt} {l : List Ent} (h : Cu l) : ∀ m : List Ent, Cu (D9 e l m) := fun m => by
 unfold D9
 induction m generalizing l with
 | nil => exact h
 | cons x m ih =>
   simp only [List.foldl_cons];split
   · exact ih (Ais h _ _)
   · exact ih h
theorem Rb {e : Evt} {l : List Ent} : ∀ m : List Ent, (D9 e l m).length = l.length := fun m => by
 unfold D9
 induction m generalizing l with
 | nil => rfl
 | cons x m ih =>
   simp only [List.foldl_cons];split
   · rw [ih]; exact Ava _ _ _
   · exact ih
def Aap (s : St) (e : Evt) (i k : Nat) : FS := mk [(27, .pv (.i .i64 k)), (26, .pv (.i .i64 s.ents.length)), (25, .pv (.sl false 15 (s.ents.map Bm))), (5, .p 5 0), (0, .p 6 0), (1, .pr 38 15 i 0), (1000000, .p 6 0)] [(5, some (.var (.vec 21 (Bo e)))), (6, some (.var (.agg (A7 s (.os 38) (.pv (.sl false 15 ((D9 e s.ents (s.ents.take k)).map Bm))))))), (38, some (.row 15 (s.objs.map A1)))]
theorem Anh {α : Type} {l : List α} {i : Nat} {x : α} (h : l[i]? = some x) : l.set i x = l := by
 obtain ⟨h1, h2⟩ := List.getElem?_eq_some_iff.1 h;rw [← h2]; exact List.set_getElem_self h1
def R7 (s : St) (e : Evt) (i : Nat) (o : Obj) : St := { s with objs := s.objs.set i { o with seen := Dn o.seen (A9 e.dep e.rep e.seq) }, ents := D9 e s.ents s.ents }
set_option maxHeartbeats 4000000 in
theorem Aeb {s : St} {e : Evt} {o : Obj} {i : Nat} (hs : StOk s) (he : ev e) (hk : e.kind = 6) (ho : s.objs[i]? = some o) {h d}
 (hg : h 6 = some (.var (Hn s))) (h38 : h 38 = some (.row 15 (s.objs.map A1))) :
 DeepOk Try.prog 67 [.p 6 0, .pr 38 15 i 0, .vec 21 (Bo e)] h d (.pv (.i .i64 0)) [.new 38 (.row 15 ((R7 s e i o).objs.map A1)), .upd 6 (.var (Hn (R7 s e i o)))] := by
 refine Dk An fn67 (by simp) hg h38 (by decide) rfl (Cy _) fun F => ?_;have hil := (List.getElem?_eq_some_iff.1 ho).1;have hel : (s.objs.map A1)[i]? = some (A1 o) := by rw [List.getElem?_map, ho]; rfl
 have hgd := Pu ho;have a3 := hs.fine.en;simp (disch := omega) only [ir67, Hn, A7, D4, Az, hk, List.length_map, go_sem];refine Bc An (Aap s e i) (fun k => k ≤ s.ents.length) (fun k => s.ents.length - k) 0 (by simp) (A2 ?_ ?_) fun k hk => ?_
 · simp (disch := omega) only [go_sem]
 · simp (disch := omega) only [A7, D9, List.take_zero, List.foldl_nil, go_sem]
 by_cases hlt : k < s.ents.length
 · have hx : s.ents[k]? = some s.ents[k] := List.getElem?_eq_getElem hlt;have hel : (s.ents.map Bm)[k]? = some (Bm s.ents[k]) := by rw [List.getElem?_map, hx]; rfl
   have ht := F8 hx;have hsn := Vf e s.ents (s.ents.take k) s.ents[k];rw [← ht] at hsn;generalize s.ents[k] = x at *;have hel15 := E6 x;have hsoK := Ku (e := e) hs.se (s.ents.take k);have hlK := Rb (e := e) (l := s.ents) (s.ents.take k);by_cases h1 : x.obj = Ar e
   · have hp := Y2 h1;have hpv : e.gone.pv = .sl e.gone.f e.gone.z (e.gone.l.map H5) := rfl;simp (disch := omega) only [Aap, A7, List.length_map, hel, L4, hel15, M4, Db, M7, Am, hp, Kq, Gv, go_sem];refine Aa (R2 e.gone x.id he.1 he.2.2.1) ?_;by_cases h2 : x.id ∈ e.gone.l
     · have hg : Dj e x = true := by unfold Dj; simp [h1, h2]
       rw [if_pos hg] at hsn;simp (disch := omega) only [h2, Gv, Bv, go_sem];refine Aa (Agy (l := D9 e s.ents (s.ents.take k)) x.id (Al e) rfl rfl hsoK (by omega)) ?_;simp (disch := omega) only [go_sem];refine ⟨k + 1, by omega, by omega, I7 52 rfl (A2 ?_ ?_)⟩
       · simp (disch := omega) only [go_sem]
       · simp (disch := omega) only [A7, hsn, go_sem]
     · have hg : ¬ Dj e x = true := by unfold Dj; simp [h2]
       rw [if_neg hg] at hsn;simp (disch := omega) only [h2, go_sem];refine Av (k + 1) _ _ rfl (by omega) (by omega) ?_ ?_
       · simp (disch := omega) only [go_sem]
       · simp (disch := omega) only [A7, hsn, go_sem]
   · have hp := Y3 h1;have hg : ¬ Dj e x = true := by unfold Dj; simp [h1]
     rw [if_neg hg] at hsn;simp (disch := omega) only [Aap, A7, List.length_map, hel, L4, hel15, M4, Db, M7, Am, hp, Gv, go_sem];refine Av (k + 1) _ _ rfl (by omega) (by omega) ?_ ?_
     · simp (disch := omega) only [go_sem]
     · simp (disch := omega) only [A7, hsn, go_sem]
 obtain rfl : k = s.ents.length := by omega
 have htk : s.ents.take s.ents.length = s.ents := List.take_length;simp (disch := omega) only [Aap, A7, htk, Az, hk, hel, U3, Jt, Bv, go_sem];refine Aa (Y6 e.dep e.rep e.seq) ?_;simp (disch := omega) only [go_sem];refine Aa (Aec o.seen (A9 e.dep e.rep e.seq)) ?_;have hsp := Amw o (Dn o.seen (A9 e.dep e.rep e.seq));have hset : (s.objs.map A1).set i (A1 { o with seen := Dn o.seen (A9 e.dep e.rep e.seq) }) = (R7 s e i o).objs.map A1 := by
  unfold R7; rw [List.map_set]
 have hvl := Ce (Dn o.seen (A9 e.dep e.rep e.seq));simp (disch := omega) only [hgd, hsp, List.length_map, hset, go_sem];refine Ch ?_;simp (disch := omega) only [R7, go_sem]
def Uu (e : Evt) (o : Obj) : Obj := if Ca o.last.1 o.last.2 e.rep e.seq = true then { o with last := Al e, name := e.name } else o
def L0 (s : St) (e : Evt) (i : Nat) (o : Obj) : St := { s with objs := s.objs.set i (Uu e o), ents := P6 (D9 e s.ents s.ents) (Ez e (Ar e)) }
set_option maxHeartbeats 4000000 in
theorem Aea {s : St} {e : Evt} {o : Obj} {i : Nat} (hs : StOk s) (he : ev e) (hk : e.kind = 7) (hd : H8 s.objs (F7 e) = 0) (ho : s.objs[i]? = some o) {h d}
 (hg : h 6 = some (.var (Hn s))) (h38 : h 38 = some (.row 15 (s.objs.map A1))) :
 DeepOk Try.prog 67 [.p 6 0, .pr 38 15 i 0, .vec 21 (Bo e)] h d (.pv (.i .i64 0)) [.new 38 (.row 15 ((L0 s e i o).objs.map A1)), .upd 6 (.var (Hn (L0 s e i o)))] := by
 refine Dk An fn67 (by simp) hg h38 (by decide) rfl (Cy _) fun F => ?_;have hil := (List.getElem?_eq_some_iff.1 ho).1;have hel : (s.objs.map A1)[i]? = some (A1 o) := by rw [List.getElem?_map, ho]; rfl
 have hgd := Pu ho;have a1 := hs.fine.on;have a3 := hs.fine.en;simp (disch := omega) only [ir67, Hn, A7, D4, Az, hk, Ej, go_sem];refine Aa (Lx (s := s) (F7 e) hs.so (by omega) rfl) ?_;simp (disch := omega) only [hd, List.length_map, go_sem];refine Bc An (Aap s e i) (fun k => k ≤ s.ents.length) (fun k => s.ents.length - k) 0 (by simp) (A2 ?_ ?_) fun k hk => ?_
 · simp (disch := omega) only [go_sem]
 · simp (disch := omega) only [A7, D9, List.take_zero, List.foldl_nil, go_sem]
 by_cases hlt : k < s.ents.length
 · have hx : s.ents[k]? = some s.ents[k] := List.getElem?_eq_getElem hlt;have hel : (s.ents.map Bm)[k]? = some (Bm s.ents[k]) := by rw [List.getElem?_map, hx]; rfl
   have ht := F8 hx;have hsn := Vf e s.ents (s.ents.take k) s.ents[k];rw [← ht] at hsn;generalize s.ents[k] = x at *;have hel15 := E6 x;have hsoK := Ku (e := e) hs.se (s.ents.take k);have hlK := Rb (e := e) (l := s.ents) (s.ents.take k);by_cases h1 : x.obj = Ar e
   · have hp := Y2 h1;have hpv : e.gone.pv = .sl e.gone.f e.gone.z (e.gone.l.map H5) := rfl;simp (disch := omega) only [Aap, A7, List.length_map, hel, L4, hel15, M4, Db, M7, Am, hp, Kq, Gv, go_sem];refine Aa (R2 e.gone x.id he.1 he.2.2.1) ?_;by_cases h2 : x.id ∈ e.gone.l
     · have hg : Dj e x = true := by unfold Dj; simp [h1, h2]
       rw [if_pos hg] at hsn;simp (disch := omega) only [h2, Gv, Bv, go_sem];refine Aa (Agy (l := D9 e s.ents (s.ents.take k)) x.id (Al e) rfl rfl hsoK (by omega)) ?_;simp (disch := omega) only [go_sem];refine ⟨k + 1, by omega, by omega, I7 52 rfl (A2 ?_ ?_)⟩
       · simp (disch := omega) only [go_sem]
       · simp (disch := omega) only [A7, hsn, go_sem]
     · have hg : ¬ Dj e x = true := by unfold Dj; simp [h2]
       rw [if_neg hg] at hsn;simp (disch := omega) only [h2, go_sem];refine Av (k + 1) _ _ rfl (by omega) (by omega) ?_ ?_
       · simp (disch := omega) only [go_sem]
       · simp (disch := omega) only [A7, hsn, go_sem]
   · have hp := Y3 h1;have hg : ¬ Dj e x = true := by unfold Dj; simp [h1]
     rw [if_neg hg] at hsn;simp (disch := omega) only [Aap, A7, List.length_map, hel, L4, hel15, M4, Db, M7, Am, hp, Gv, go_sem];refine Av (k + 1) _ _ rfl (by omega) (by omega) ?_ ?_
     · simp (disch := omega) only [go_sem]
     · simp (disch := omega) only [A7, hsn, go_sem]
 obtain rfl : k = s.ents.length := by omega
 have htk : s.ents.take s.ents.length = s.ents := List.take_length;have hsG := Ku (e := e) hs.se s.ents;have hlG := Rb (e := e) (l := s.ents) s.ents;simp (disch := omega) only [Aap, A7, htk, Az, hk, Bv, Ej, E8, Db, go_sem];refine Aa (Za (l := D9 e s.ents s.ents) e (Ar e) hsG (by omega)) ?_;simp (disch := omega) only [hel, U4, Bv, go_sem];refine Aa (Lw o.last.1 o.last.2 e.rep e.seq) ?_;by_cases hl : Ca o.last.1 o.last.2 e.rep e.seq = true
 · have hmo : Uu e o = { o with last := Al e, name := e.name } := if_pos hl;have hsp := Amy o (Al e);have hsp2 := Amx { o with last := Al e } e.name;have hset : ((s.objs.map A1).set i (A1 { o with last := Al e })).set i (A1 { o with last := Al e, name := e.name }) = (L0 s e i o).objs.map A1 := by
    unfold L0; rw [List.set_set, List.map_set, hmo]
   have hgd2 : ((s.objs.map A1).set i (A1 { o with last := Al e })).getD i [] = A1 { o with last := Al e } := by
    rw [List.getD_eq_getElem?_getD, List.getElem?_set_self (by simpa using hil)]; rfl
   simp (disch := omega) only [hl, go_sem];refine V7 ?_;simp (disch := omega) only [Bv, E8, hgd, hsp, List.length_map, List.length_set, hgd2, hsp2, hset, go_sem];refine ⟨_, I7 86 rfl (.same _), ?_⟩
   (try simp only [Ii, Ih, Ig, Ie, Ic, Ib, Ia, H9]); simp (disch := omega) only [L0, go_sem]
 · have hmo : Uu e o = o := if_neg hl;have hl' : Ca o.last.1 o.last.2 e.rep e.seq = false := by simpa using hl
   have hset : s.objs.map A1 = (L0 s e i o).objs.map A1 := by
    unfold L0; rw [hmo];show _ = (s.objs.set i o).map A1;rw [Anh ho]
   simp (disch := omega) only [hl', go_sem];refine ⟨_, I7 86 rfl (.same _), ?_⟩
   (try simp only [Ii, Ih, Ig, Ie, Ic, Ib, Ia, H9]); simp (disch := omega) only [L0, go_sem]
   exact congrArg (fun q => some (Blk.row 15 q)) hset
theorem Ad9 {s : St} {e : Evt} {i : Nat} (hs : StOk s) (hk : e.kind = 7) (hd : H8 s.objs (F7 e) ≠ 0) {h d}
 (hg : h 6 = some (.var (Hn s))) (h38 : h 38 = some (.row 15 (s.objs.map A1))) :
 DeepOk Try.prog 67 [.p 6 0, .pr 38 15 i 0, .vec 21 (Bo e)] h d (.pv (.i .i64 (H8 s.objs (F7 e)))) [.new 38 (.row 15 (s.objs.map A1)), .upd 6 (.var (Hn s))] := by
 refine Dk An fn67 (by simp) hg h38 (by decide) rfl (Cy _) fun F => ?_;have a1 := hs.fine.on;simp (disch := omega) only [ir67, Hn, A7, D4, Az, hk, Ej, go_sem];refine Aa (Lx (s := s) (F7 e) hs.so (by omega) rfl) ?_;simp (disch := omega) only [hd, go_sem];refine Ch ?_;simp (disch := omega) only [go_sem]
set_option maxHeartbeats 4000000 in
theorem Aof {s : St} {e : Evt} {o : Obj} (hs : StOk s) (he : ev e) (hk : e.kind = 6) (ho : s.objs[Cb s.objs (Ar e)]? = some o) (hid : o.id = Ar e) {h d}
 (hg : h 6 = some (.var (Hn s))) (h38 : h 38 = some (.row 15 (s.objs.map A1))) :
 DeepOk Try.prog 50 [.p 6 0, .vec 21 (Bo e)] h d (.pv (.i .i64 0)) [.new 38 (.row 15 ((R7 s e (Cb s.objs (Ar e)) o).objs.map A1)), .upd 6 (.var (Hn (R7 s e (Cb s.objs (Ar e)) o)))] := by
 refine Dk An fn50 (by simp) hg h38 (by decide) rfl (Cy _) fun F => ?_;have n8 : ¬ e.kind = 8 := by omega
 have n9 : ¬ e.kind = 9 := by omega
 have n1 : ¬ e.kind = 1 := by omega
 have n2 : ¬ e.kind = 2 := by omega
 have hi := Xo hs.so ho hid;have hlt := (List.getElem?_eq_some_iff.1 ho).1;have a1 := hs.fine.on;simp (disch := omega) only [ir50, Hn, A7, D4, Az, n8, n9, n1, n2, Db, go_sem];refine Aa (Ly (l := s.objs) (Ar e) rfl rfl hs.so (by omega)) ?_;simp (disch := omega) only [hi, List.length_map, hk, Az, Bq, go_sem];refine Gh (Aeb hs he hk ho rfl rfl) ?_;simp (disch := omega) only [Hn, A7, D4, go_sem];refine Ch ?_;simp (disch := omega) only [go_sem]
set_option maxHeartbeats 4000000 in
theorem Aoe {s : St} {e : Evt} {o : Obj} (hs : StOk s) (he : ev e) (hk : e.kind = 7) (hd : H8 s.objs (F7 e) = 0) (ho : s.objs[Cb s.objs (Ar e)]? = some o) (hid : o.id = Ar e) {h d}
 (hg : h 6 = some (.var (Hn s))) (h38 : h 38 = some (.row 15 (s.objs.map A1))) :
 DeepOk Try.prog 50 [.p 6 0, .vec 21 (Bo e)] h d (.pv (.i .i64 0)) [.new 38 (.row 15 ((L0 s e (Cb s.objs (Ar e)) o).objs.map A1)), .upd 6 (.var (Hn (L0 s e (Cb s.objs (Ar e)) o)))] := by
 refine Dk An fn50 (by simp) hg h38 (by decide) rfl (Cy _) fun F => ?_;have n8 : ¬ e.kind = 8 := by omega
 have n9 : ¬ e.kind = 9 := by omega
 have n1 : ¬ e.kind = 1 := by omega
 have n2 : ¬ e.kind = 2 := by omega
 have hi := Xo hs.so ho hid;have hlt := (List.getElem?_eq_some_iff.1 ho).1;have a1 := hs.fine.on;simp (disch := omega) only [ir50, Hn, A7, D4, Az, n8, n9, n1, n2, Db, go_sem];refine Aa (Ly (l := s.objs) (Ar e) rfl rfl hs.so (by omega)) ?_;simp (disch := omega) only [hi, List.length_map, hk, Az, Bq, go_sem];refine Gh (Aea hs he hk hd ho rfl rfl) ?_;simp (disch := omega) only [Hn, A7, D4, go_sem];refine Ch ?_;simp (disch := omega) only [go_sem]
set_option maxHeartbeats 4000000 in
theorem Y8 {s : St} {e : Evt} {o : Obj} (hs : StOk s) (hk : e.kind = 7) (hd : H8 s.objs (F7 e) ≠ 0) (ho : s.objs[Cb s.objs (Ar e)]? = some o) (hid : o.id = Ar e) : Yh s e (H8 s.objs (F7 e)) := by
 intro h d hg h38;refine ⟨s.objs.map A1, Hn s, Dk An fn50 (by simp) hg h38 (by decide) rfl (Cy s) fun F => ?_⟩;have n8 : ¬ e.kind = 8 := by omega
 have n9 : ¬ e.kind = 9 := by omega
 have n1 : ¬ e.kind = 1 := by omega
 have n2 : ¬ e.kind = 2 := by omega
 have hi := Xo hs.so ho hid;have hlt := (List.getElem?_eq_some_iff.1 ho).1;have a1 := hs.fine.on;simp (disch := omega) only [ir50, Hn, A7, D4, Az, n8, n9, n1, n2, Db, go_sem];refine Aa (Ly (l := s.objs) (Ar e) rfl rfl hs.so (by omega)) ?_;simp (disch := omega) only [hi, List.length_map, hk, Az, Bq, go_sem];refine Gh (Ad9 hs hk hd rfl rfl) ?_;simp (disch := omega) only [Hn, A7, D4, go_sem];refine Ch ?_;simp (disch := omega) only [go_sem]
end Go.Proofs.Ythmjebkldgdeiaa.Fw
namespace Go.Proofs.Ythmjebkldgdeiaa.Fw
open Go.RowKit Go.Proofs
def Dp (l : List Obj) (i : Bb) : Option Obj := match l[Cb l i]? with
 | some o => if o.id = i then some o else none
 | none => none
theorem Gc {l : List Obj} {i : Bb} {o : Obj} (h : Dp l i = some o) : l[Cb l i]? = some o ∧ o.id = i := by
 unfold Dp at h;split at h
 · rename_i u hu;split at h
   · rename_i hi; cases h; exact ⟨hu, hi⟩
   · cases h
 · cases h
theorem Aj7 {l : List Obj} (hs : Dl l) (i : Bb) : isO l i = (Dp l i).isSome := by
 rw [Pm hs]; unfold Dp;cases l[Cb l i]? with
 | none => rfl
 | some x => simp only; by_cases h : x.id = i <;> simp [h]
theorem Afc {l : List Obj} (i : Bb) : H8 l i = if i = (0, 0) then 0 else match Dp l i with | some o => if o.dir = true then 0 else 22 | none => 2 := by
 unfold H8 Dp;split
 · rfl
 · cases l[Cb l i]? with
   | none => rfl
   | some x => simp only; by_cases h : x.id = i <;> simp [h]
open Classical in
noncomputable def Tm (s : St) (e : Evt) : Int :=
 if e.kind = 8 ∨ e.kind = 9 then 0
 else if e.kind = 1 ∨ e.kind = 2 then H8 s.objs (F7 e)
 else match Dp s.objs (Ar e) with
  | none => 2
  | some o => if e.kind = 7 then H8 s.objs (F7 e) else if e.kind = 6 then 0 else if o.dir = true then 23 else if Ds o.vers e.base.l then 2 else 0
def doS (s : St) (e : Evt) : St :=
 if e.kind = 8 then Ld s e
 else if e.kind = 9 then Ue s e
 else if e.kind = 1 ∨ e.kind = 2 then mkS s e
 else match Dp s.objs (Ar e) with
  | none => s
  | some o => if e.kind = 7 then L0 s e (Cb s.objs (Ar e)) o else if e.kind = 6 then R7 s e (Cb s.objs (Ar e)) o else { s with objs := wrO s e o }
noncomputable def Fk (s : St) (e : Evt) : Int :=
 if Bz e = false then 7
 else if A4 s.known e.rep e.seq = true then 11
 else if ¬ Mr e.dep s.known then 10
 else if s.ret (e.rep - 1).toNat = true then 28
 else Tm s e
def Fp (s : St) (e : Evt) : St := { s with known := A9 s.known e.rep e.seq }
def Fx (s : St) (e : Evt) : St := doS (Fp s e) e
structure StIn (s : St) : Prop extends StOk s where
 sv : ∀ o ∈ s.objs, Cg o.vers
 sd : ∀ o ∈ s.objs, ∀ v ∈ o.vers, v.data.length ≤ 200
 sk : ∀ o ∈ s.objs, ∀ v ∈ o.vers, A4 s.known v.rep v.seq = true
theorem Cd {e : Evt} (h : Bz e = true) : Wf e := by
 unfold Bz at h;simp only [Bool.and_eq_true, decide_eq_true_eq] at h;exact h.1
theorem Vx {e : Evt} (h : Bz e = true) (hk : e.kind = 3 ∨ e.kind = 4 ∨ e.kind = 5) {l : List Ver} (hd : ∀ v ∈ l, v.data.length ≤ 200) : FitsW l e := by
 unfold Bz at h;simp only [Bool.and_eq_true, decide_eq_true_eq] at h;have hK := h.2.2.2;refine ⟨hk, fun h5 => ?_, fun h3 => ?_, hd⟩
 · have : e.kind = 3 ∨ e.kind = 4 := by omega
   rcases this with h3 | h4
   · rw [M5 h3] at hK;simp only [Bool.and_eq_true, Df, decide_eq_true_eq] at hK;exact hK.2.2.1
   · rw [S0 h4] at hK;simp only [Bool.and_eq_true, Df, decide_eq_true_eq] at hK;exact hK.2.2
 · rw [M5 h3] at hK;simp only [Bool.and_eq_true, Df, decide_eq_true_eq] at hK;exact hK.2.2.2.2.2.2
theorem Wt {e : Evt} (h : Bz e = true) (hk : e.kind = 3 ∨ e.kind = 4 ∨ e.kind = 5) : e.base.l.length ≤ 8 := by
 unfold Bz at h;simp only [Bool.and_eq_true, decide_eq_true_eq] at h;have hK := h.2.2.2;rcases hk with h3 | h3 | h3
 · rw [M5 h3] at hK;simp only [Bool.and_eq_true, Fl, decide_eq_true_eq] at hK;have := hK.2.1.1; omega
 · rw [S0 h3] at hK;simp only [Bool.and_eq_true, Fl, decide_eq_true_eq] at hK;have := hK.2.1.1; omega
 · rw [Sz h3] at hK;simp only [Bool.and_eq_true, Fl, decide_eq_true_eq] at hK;have := hK.2.1.1; omega
structure DoIn (s : St) (e : Evt) : Prop where
 ok : StOk s
 ev : ev e
 ck : Bz e = true
 vo : e.kind = 3 ∨ e.kind = 4 ∨ e.kind = 5 → ∀ o ∈ s.objs, VerOk o e
theorem A6u {s : St} {e : Evt} (hi : DoIn s e) (hw : Tm s e ≠ 0) : Yh s e (Tm s e) := by
 have hb := Cd hi.ck;obtain ⟨b1, b2, b3, b4, b5, b6, b7⟩ := hb;unfold Tm at hw ⊢;rcases Classical.em (e.kind = 8 ∨ e.kind = 9) with h89 | h89
 · rw [if_pos h89] at hw; exact absurd rfl hw
 rw [if_neg h89] at hw ⊢;rcases Classical.em (e.kind = 1 ∨ e.kind = 2) with h12 | h12
 · rw [if_pos h12] at hw ⊢;exact Ajc hi.ok h12 hw
 rw [if_neg h12] at hw ⊢;have hk : e.kind = 3 ∨ e.kind = 4 ∨ e.kind = 5 ∨ e.kind = 6 ∨ e.kind = 7 := by omega
 cases ho : Dp s.objs (Ar e) with
 | none =>
   have : isO s.objs (Ar e) = false := by rw [Aj7 hi.ok.so, ho]; rfl
   exact Aja hi.ok hk this
 | some o =>
   rw [ho] at hw;simp only at hw ⊢;obtain ⟨g1, g2⟩ := Gc ho;rcases Classical.em (e.kind = 7) with h7 | h7
   · rw [if_pos h7] at hw ⊢;exact Y8 hi.ok h7 hw g1 g2
   rw [if_neg h7] at hw ⊢;rcases Classical.em (e.kind = 6) with h6 | h6
   · rw [if_pos h6] at hw; exact absurd rfl hw
   rw [if_neg h6] at hw ⊢;have hk : e.kind = 3 ∨ e.kind = 4 ∨ e.kind = 5 := by omega
   rcases Classical.em (o.dir = true) with hd | hd
   · rw [if_pos hd]; exact Aob hi.ok hk g1 g2 hd
   rw [if_neg hd] at hw ⊢;rcases Classical.em (Ds o.vers e.base.l) with hm | hm
   · rw [if_pos hm]; exact Aee hi.ok hi.ev g1 g2 (by simpa using hd) (hi.vo hk o (List.mem_of_getElem? g1)) hm
   · rw [if_neg hm] at hw; exact absurd rfl hw
theorem A9l {s : St} {e : Evt} (hi : DoIn s e) (hw : Tm s e = 0) (hk : ¬ (e.kind = 8 ∨ e.kind = 9)) : ∃ r, PImpR r ((doS s e).objs.map A1) ∧
 ∀ {h : Nat → Option Blk} {d : Nat}, h 6 = some (.var (Hn s)) → h 38 = some (.row 15 (s.objs.map A1)) → DeepOk Try.prog 50 [.p 6 0, .vec 21 (Bo e)] h d (.pv (.i .i64 0)) [.new 38 (.row 15 r), .upd 6 (.var (Hn (doS s e)))] := by
 have hb := Cd hi.ck;obtain ⟨b1, b2, b3, b4, b5, b6, b7⟩ := hb;have n8 : ¬ e.kind = 8 := fun h => hk (.inl h);have n9 : ¬ e.kind = 9 := fun h => hk (.inr h);unfold Tm at hw;unfold doS;rw [if_neg hk] at hw;rw [if_neg n8, if_neg n9];by_cases h12 : e.kind = 1 ∨ e.kind = 2
 · rw [if_pos h12] at hw ⊢;refine ⟨_, ?_, fun hg h38 => A4g hi.ok h12 hw hg h38⟩;simp only [mkS, List.map_append, List.map_take, List.map_drop, List.map_cons];exact PImpR.app (.refl _) ⟨Aup (Ut e) (.inl rfl), .refl _⟩
 rw [if_neg h12] at hw ⊢;have hk' : e.kind = 3 ∨ e.kind = 4 ∨ e.kind = 5 ∨ e.kind = 6 ∨ e.kind = 7 := by omega
 cases ho : Dp s.objs (Ar e) with
 | none => rw [ho] at hw; cases hw
 | some o =>
   rw [ho] at hw;simp only at hw ⊢;obtain ⟨g1, g2⟩ := Gc ho;by_cases h7 : e.kind = 7
   · rw [if_pos h7] at hw ⊢;exact ⟨_, .refl _, fun hg h38 => Aoe hi.ok hi.ev h7 hw g1 g2 hg h38⟩
   rw [if_neg h7] at hw ⊢;by_cases h6 : e.kind = 6
   · rw [if_pos h6];exact ⟨_, .refl _, fun hg h38 => Aof hi.ok hi.ev h6 g1 g2 hg h38⟩
   rw [if_neg h6] at hw ⊢;have hk : e.kind = 3 ∨ e.kind = 4 ∨ e.kind = 5 := by omega
   by_cases hd : o.dir = true
   · rw [if_pos hd] at hw; cases hw
   rw [if_neg hd] at hw;by_cases hm : Ds o.vers e.base.l
   · rw [if_pos hm] at hw; cases hw
   · exact ⟨_, .refl _, fun hg h38 => A4f hi.ok hi.ev g1 g2 (by simpa using hd) (hi.vo hk o (List.mem_of_getElem? g1)) hm hg h38⟩
theorem Aqp {s : St} (hs : StIn s) {e : Evt} (h : A4 s.known e.rep e.seq = false) {o : Obj} (ho : o ∈ s.objs) : Cq o.vers e.rep e.seq = none := by
 rw [Ky];intro v hv ⟨h1, h2⟩;have := hs.sk o ho v hv;rw [h1, h2, h] at this; cases this
theorem Aj2 {s : St} (hs : StIn s) {e : Evt} (he : ev e) (hc : Bz e = true) (h : A4 s.known e.rep e.seq = false) : DoIn (Fp s e) e :=
 ⟨⟨⟨hs.fine.on, hs.fine.ov, hs.fine.en⟩, hs.so, hs.se⟩, he, hc, fun hk o ho => ⟨hs.sv o ho, Vx hc hk (hs.sd o ho), Aqp hs h ho, Nat.le_trans (Wt hc hk) (by omega)⟩⟩
theorem Avd (a b : PV) (w : Nat → Int) (r : Nat → Bool) {j : Nat} (hj : j < 8) (K : KK) : LoadK (some (a :: b :: (iE w ++ wE r))) (18 + j - 8) 1 false K = K (.pv (.b (r j))) [] := by
 have e : 18 + j - 8 = 10 + j := by omega
 rw [e];simp only [LoadK, Fz, eq_iff_iff];have e2 : (a :: b :: (iE w ++ wE r)).getD (10 + j) (.b false) = .b (r j) := by
  have hk2 : j = 0 ∨ j = 1 ∨ j = 2 ∨ j = 3 ∨ j = 4 ∨ j = 5 ∨ j = 6 ∨ j = 7 := by omega
  simp only [iE, wE, Br];rcases hk2 with rfl | rfl | rfl | rfl | rfl | rfl | rfl | rfl <;> rfl
 rw [e2];exact ⟨fun h => h.2.2, fun h => ⟨by simp [Q8, Qf]; omega, .inr trivial, h⟩⟩
theorem Af8 {x y z : SV} (h : Imp x y) : Imp (.tup [x, z]) (.tup [y, z]) := Avt ⟨h, Imp.refl _, trivial⟩
noncomputable def Yy (s : St) (e : Evt) : St := if Fk s e = 0 then Fx s e else st0
theorem O4 {s : St} {e : Evt} {n : Int} (h : Fk s e = n) (hn : n ≠ 0) : Imp (.tup [.agg [.vec 8 (vE fun _ => 0), .pv (.sl true 0 []), .pv (.sl true 0 []), .vec 8 (iE fun _ => 0), .vec 8 (wE fun _ => false)], .pv (.i .i64 n)]) (.tup [.agg (Bl (Yy s e)), .pv (.i .i64 (Fk s e))]) := by
 have e1 : Yy s e = st0 := if_neg (by rw [h]; exact hn);rw [e1, h];exact Af8 Lr
set_option maxHeartbeats 8000000 in
theorem Ag3 {s : St} {e : Evt} (hs : StIn s) (he : ev e) {h d} : FunOk Try.prog 29 [.agg (Bl s), .vec 21 (Bo e)] h d (.tup [.agg (Bl (Yy s e)), .pv (.i .i64 (Fk s e))]) [] := by
 refine Akp An fn29 (by simp) rfl rfl fun F => ?_;simp (disch := omega) only [ir29, Bl, A7, Bq, go_sem];refine Aa (Aun e he) ?_;by_cases hc' : Bz e = false
 · have hw : Fk s e = 7 := if_pos hc';simp (disch := omega) only [hc', go_sem];refine Ch ?_;simp (disch := omega) only [go_sem];exact O4 hw (by decide)
 have hc : Bz e = true := by simpa using hc'
 have hb := Cd hc;obtain ⟨b1, b2, _⟩ := hb;simp (disch := omega) only [hc, Bv, Jt, go_sem];refine Aa (Fb _ _ _) ?_;by_cases h1 : A4 s.known e.rep e.seq = true
 · have hw : Fk s e = 11 := by unfold Fk; rw [if_neg hc', if_pos h1]
   simp (disch := omega) only [h1, go_sem];refine Ch ?_;simp (disch := omega) only [go_sem];exact O4 hw (by decide)
 have h1' : A4 s.known e.rep e.seq = false := by simpa using h1
 simp (disch := omega) only [h1', Jt, go_sem];refine Aa (Axy _ _) ?_;by_cases h2 : Mr e.dep s.known;rotate_left
 · have hw : Fk s e = 10 := by unfold Fk; rw [if_neg hc', if_neg h1, if_pos h2]
   have h2' := decide_eq_false h2;simp (disch := omega) only [h2', go_sem];refine Ch ?_;simp (disch := omega) only [go_sem];exact O4 hw (by decide)
 have h2' := decide_eq_true h2;obtain ⟨k, hk8, hre⟩ : ∃ k : Nat, k < 8 ∧ e.rep - 1 = k := ⟨(e.rep - 1).toNat, by omega, by omega⟩
 have hld := fun (a b : PV) (w : Nat → Int) (r : Nat → Bool) (K : KK) => Avd a b w r hk8 K;simp (disch := omega) only [h2', G6, hre, hld, go_sem];by_cases h3 : s.ret k = true
 · have hw : Fk s e = 28 := by unfold Fk; rw [if_neg hc', if_neg h1, if_neg (by simpa using h2), if_pos (by rw [hre]; exact h3)]
   simp (disch := omega) only [h3, go_sem];refine Ch ?_;simp (disch := omega) only [go_sem];exact O4 hw (by decide)
 have h3' : s.ret k = false := by simpa using h3
 have hw : Fk s e = Tm (Fp s e) e := by unfold Fk; rw [if_neg hc', if_neg h1, if_neg (by simpa using h2), if_neg (by rw [hre]; exact h3)]; rfl
 simp (disch := omega) only [h3', go_sem];refine Aa (Aoi (s := s) hs.fine) ?_;simp (disch := omega) only [A7, D4, Bv, go_sem];refine Aa (Y6 s.known e.rep e.seq) ?_;have hvl := Ce (A9 s.known e.rep e.seq);simp (disch := omega) only [Bq, hvl, go_sem];have hdi := Aj2 hs he hc h1';by_cases hz : Tm (Fp s e) e = 0;rotate_left
 · generalize hH : FS.h _ = H;have g6 : H 6 = some (.var (Hn (Fp s e))) := by rw [← hH]; rfl
   have g38 : H 38 = some (.row 15 ((Fp s e).objs.map A1)) := by rw [← hH]; rfl
   obtain ⟨r, X, hdo⟩ := A6u hdi hz H 46 g6 g38;refine Gh hdo ?_;simp (disch := omega) only [hz, go_sem];refine Ch ?_;simp (disch := omega) only [go_sem];exact O4 hw hz
 have hR : Yy s e = doS (Fp s e) e := if_pos (hw.trans hz);rw [hR, hw, hz];by_cases h8 : e.kind = 8
 · have hS : doS (Fp s e) e = Ld (Fp s e) e := if_pos h8;rw [hS];refine Gh (Aoc (s := Fp s e) h8 ⟨b1, b2⟩ rfl rfl) ?_;simp (disch := omega) only [Bl, A7, go_sem];refine Ch ?_;simp (disch := omega) only [go_sem]
 by_cases h9 : e.kind = 9
 · have hS : doS (Fp s e) e = Ue (Fp s e) e := by unfold doS; rw [if_neg h8, if_pos h9]
   rw [hS];refine Gh (Aul (s := Fp s e) h9 ⟨b1, b2⟩ rfl rfl) ?_;simp (disch := omega) only [Bl, A7, go_sem];refine Ch ?_;simp (disch := omega) only [go_sem]
 obtain ⟨r, hr, hdo⟩ := A9l hdi hz (fun h => h.elim h8 h9);refine Gh (hdo rfl rfl) ?_;generalize doS (Fp s e) e = S at *;simp (disch := omega) only [Hn, A7, D4, go_sem];refine ⟨_, I7 38 rfl (.same _), ?_⟩
 (try simp only [Ii, Ih, Ig, Ie, Ic, Ib, Ia, H9]); simp (disch := omega) only [go_sem]
 exact Af8 (Agi (s := S) (.inr rfl) (.inr rfl) hr (.refl _))
end Go.Proofs.Ythmjebkldgdeiaa.Fw
namespace Go.Proofs.Ythmjebkldgdeiaa.Fw
open Go.RowKit Go.Proofs
def Af (l : List Evt) : Vc := l.foldl (fun v e => A9 v e.rep e.seq) (fun _ => 0)
theorem Iy (l : List Evt) (e : Evt) : Af (l ++ [e]) = A9 (Af l) e.rep e.seq := by simp [Af]
def Lg (l : List Evt) (i : Bb) : Option Evt := l.find? fun e => decide (Al e = i)
def A1y (s : List UInt8) (n : Int) : List UInt8 := if n < 0 ∨ 200 < n then [] else Sp s n.toNat
open Classical in
noncomputable def Ad6 (s : List UInt8) (n : Int) (t : List UInt8) : List UInt8 := if E3 s n t then [] else Kk s n.toNat t
noncomputable def Rx (e : Evt) (was : List UInt8) : List UInt8 := if e.kind = 5 then e.data else if e.kind = 4 then A1y was e.off else Ad6 was e.off e.data
noncomputable def E0 (l : List Evt) : Nat → Bb → List UInt8
 | 0, _ => []
 | n + 1, i => match Lg l i with
   | none => []
   | some e => Rx e (match e.base.l with | [] => [] | b :: _ => E0 l n b)
theorem Arb (s : List UInt8) (n : Nat) : (Sp s n).length = n := by
 unfold Sp; split
 · simp; omega
 · simp [Ac7]; omega
theorem Ad7 (s t : List UInt8) (n : Nat) : (Kk s n t).length = max s.length (n + t.length) := by
 unfold Kk; simp [Ac7]; omega
def Grd (l : List Evt) (rk : Evt → Nat) : Prop := ∀ e ∈ l, e.kind ≠ 5 → ∀ b t, e.base.l = b :: t → ∀ e', Lg l b = some e' → rk e' < rk e
def mkB (e : Evt) : Bool := decide (e.kind = 1 ∨ e.kind = 2 ∨ e.kind = 7)
def Wo (e : Evt) : Bb := if e.kind = 7 then Ar e else Al e
def goF (f : Evt) (obj id : Bb) : Bool := decide (f.kind = 6 ∨ f.kind = 7) && (decide (Ar f = obj) && decide (id ∈ f.gone.l))
def byG (l : List Evt) (obj id : Bb) : Vc := l.foldl (fun g f => if goF f obj id = true then A9 g f.rep f.seq else g) fun _ => 0
theorem Arn (l : List Evt) (f : Evt) (obj id : Bb) : byG (l ++ [f]) obj id = if goF f obj id = true then A9 (byG l obj id) f.rep f.seq else byG l obj id := by simp [byG]
def F4 (m : List Evt) (e : Evt) : Ent := ⟨Al e, F7 e, e.name, Wo e, byG m (Wo e) (Al e)⟩
def Cr (l m : List Evt) : List Ent := m.foldl (fun out e => if mkB e = true then Fo out (F4 l e) false else out) []
theorem Vo (l m : List Evt) (e : Evt) : Cr l (m ++ [e]) = if mkB e = true then Fo (Cr l m) (F4 l e) false else Cr l m := by simp [Cr]
theorem Qq : ∀ (l : List Ent) (x : Ent) (b : Bool), (Fo l x b).length ≤ l.length + 1
 | [], x, b => by unfold Fo; split <;> simp
 | y :: l, x, b => by
   unfold Fo;split
   · have := Qq l x true; simp only [List.length_cons]; omega
   · split
     · have : Fo l x true = Fo l x true := rfl;have h2 : ∀ l : List Ent, (Fo l x true).length ≤ l.length := fun l => by
        induction l with
        | nil => simp [Fo]
        | cons z l ih => unfold Fo; split <;> simp <;> omega
       have := h2 l;simp only [List.length_cons]; omega
     · have := Qq l x b; simp only [List.length_cons]; omega
theorem Xy (l : List Evt) : ∀ (n : Nat) (m : List Evt), m.length = n → (Cr l m).length ≤ n
 | 0, m, h => by obtain rfl := List.eq_nil_of_length_eq_zero h; simp [Cr]
 | n + 1, m, h => by
   have hne : m ≠ [] := fun e => by subst e; simp at h
   have e1 := (List.dropLast_concat_getLast hne).symm;have h1 := Xy l n m.dropLast (by simp [h]);rw [e1, Vo];split
   · have := Qq (Cr l m.dropLast) (F4 l (m.getLast hne)) false; omega
   · omega
end Go.Proofs.Ythmjebkldgdeiaa.Fw
