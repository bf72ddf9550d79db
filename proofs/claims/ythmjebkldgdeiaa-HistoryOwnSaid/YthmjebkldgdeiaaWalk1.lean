/- What the functions compute that the laws of this seat reach. -/
import Derived.Test.YthmjebkldgdeiaaIr
import Derived.OpenShut
import Derived.ShutString
import Derived.ChangeOld
import Derived.SizedLaws
import Derived.ChangeOld
import Derived.Lib.Bytealg
import Derived.Lib.Overlaps
import Derived.OpenShut
import Derived.ShutString
import Derived.SizedLaws
set_option linter.unusedVariables false
set_option linter.unusedSimpArgs false
set_option linter.unusedSectionVars false
set_option maxRecDepth 100000
namespace Go.Proofs.Ythmjebkldgdeiaa.Fw
open Go.RowKit Go.Proofs
def Fz (a b : Vc) : Vc := fun i => max (a i) (b i)
def vLe (a b : Vc) : Prop := ∀ i, i < 8 → a i ≤ b i
instance (a b : Vc) : Decidable (vLe a b) := inferInstanceAs (Decidable (∀ i, i < 8 → a i ≤ b i))
def Ach (a b : Vc) (k : Nat) : FS := mk [(8, .pv (.i .i64 k)), (7, .vec 8 (vE b)), (4, .p 4 0), (2, .p 2 0)] [(2, some (.var (.vec 8 (vE fun i => if i < k then Fz a b i else a i)))), (4, some (.var (.vec 8 (vE fun _ => 0))))]
theorem Axv (a b : Vc) {h d} : FunOk Try.prog 57 [.vec 8 (vE a), .vec 8 (vE b)] h d (.vec 8 (vE (Fz a b))) [] := by
 refine A5 Am fn57 (by simp) rfl rfl fun F => ?_;simp (disch := omega) only [ir57, go_sem];refine Bd Am (Ach a b) (fun k => k ≤ 8) (fun k => 8 - k) 0 (by simp) (A2 ?_ ?_) fun k hk => ?_
 · simp (disch := omega) only [go_sem]
 · simp (disch := omega) only [Aqy, go_sem]
 by_cases hlt : k < 8
 · simp (disch := omega) only [Ach, go_sem];refine Au (k + 1) _ _ rfl (by omega) (by omega) ?_ ?_
   · simp (disch := omega) only [go_sem]
   · simp (disch := omega) only [go_sem];exact Ato (Ab6 _ _ _ (by simp [Fz]))
 · simp (disch := omega) only [Ach, Av6, go_sem]
end Go.Proofs.Ythmjebkldgdeiaa.Fw
namespace Go.Proofs.Ythmjebkldgdeiaa.Fw
open Go.RowKit
noncomputable abbrev Kq (w : World) : View := Ai w fun _ => False
theorem W4 {w : World} {a : Addr} {v : Value} (h : w.cell? a = some v) : a.spot = none ∧ ∃ arr, Kq w a.block = some arr ∧ arr[a.off]? = some v := by
 unfold World.cell? at h;split at h
 · rename_i c ty fr hb;split at h
   · cases h
   · rename_i hs;refine ⟨by cases hx : a.spot <;> simp_all, c, ?_, h⟩;unfold Kq Ai Dr;simp [hb]
 · cases h
inductive Sh where
 | int (k : IntKind) | bool | str | arr (n : Nat) (s : Sh) | st (l : List Sh) | sl (s : Sh)
mutual
def Sh.w : Sh → Nat
 | .arr n s => n * s.w
 | .st l => Sh.wL l
 | _ => 1
def Sh.wL : List Sh → Nat
 | [] => 0
 | s :: l => s.w + Sh.wL l
end
mutual
def Y9 (P : Program) : Sh → TypeId → Bool
 | .int k, t => match P.underlying t with | some (.int k') => decide (k = k') | _ => false
 | .bool, t => match P.underlying t with | some .bool => true | _ => false
 | .str, t => match P.underlying t with | some .string => true | _ => false
 | .arr n s, t => match P.underlying t with | some (.array n' e) => decide (n = n') && decide (P.cellsOf e = s.w) && decide (P.cellsOf t = n * s.w) && Y9 P s e | _ => false
 | .st l, t => match P.underlying t with | some (.struct fs) => decide (P.cellsOf t = Sh.wL l) && Alg P l fs.toList 0 | _ => false
 | .sl s, t => match P.underlying t with | some (.slice e) => decide (P.cellsOf e = s.w) && decide (0 < s.w) && Y9 P s e | _ => false
def Alg (P : Program) : List Sh → List Field → Nat → Bool
 | [], [], _ => true
 | s :: l, f :: fs, off => decide (f.offset = off) && decide (P.cellsOf f.type = s.w) && Y9 P s f.type && Alg P l fs (off + s.w)
 | _, _, _ => false
end
mutual
def GC : Sh → List PV → Prop
 | .int k, cs => ∃ n, cs = [.i k n] ∧ (Lit.int k n).wf = true
 | .bool, cs => ∃ b, cs = [.b b]
 | .str, cs => ∃ l, cs = [.s l] ∧ l.length ≤ maxLen
 | .arr n s, cs => ∃ cc : List (List PV), cs = cc.flatten ∧ cc.length = n ∧ ∀ c ∈ cc, GC s c
 | .st l, cs => GCL l cs
 | .sl s, cs => ∃ es, cs = [.sl false s.w es] ∧ es.length ≤ maxLen ∧ ∀ c ∈ es, GC s c
def GCL : List Sh → List PV → Prop
 | [], cs => cs = []
 | s :: l, cs => ∃ c cs', cs = c ++ cs' ∧ GC s c ∧ GCL l cs'
end
theorem Aa7 {w : Nat} : ∀ {cc : List (List PV)}, (∀ c ∈ cc, c.length = w) → cc.flatten.length = cc.length * w
 | [], _ => by simp
 | c :: cc, h => by
   rw [List.flatten_cons, List.length_append, Aa7 fun c hc => h c (by simp [hc]), h c (by simp), List.length_cons, Nat.add_mul]; omega
mutual
theorem GC.len : ∀ {s : Sh} {cs : List PV}, GC s cs → cs.length = s.w
 | .int k, cs, h => by obtain ⟨n, rfl, _⟩ := h; rfl
 | .bool, cs, h => by obtain ⟨n, rfl⟩ := h; rfl
 | .str, cs, h => by obtain ⟨n, rfl, _⟩ := h; rfl
 | .arr n s, cs, h => by
   simp only [GC] at h;obtain ⟨cc, rfl, rfl, h⟩ := h;rw [Aa7 fun c hc => GC.len (h c hc)]; rfl
 | .st l, cs, h => by simp only [GC] at h; simp only [Sh.w]; exact GCL.len h
 | .sl s, cs, h => by obtain ⟨n, rfl, _⟩ := h; rfl
theorem GCL.len : ∀ {l : List Sh} {cs : List PV}, GCL l cs → cs.length = Sh.wL l
 | [], cs, h => by simp only [GCL] at h; subst h; rfl
 | s :: l, cs, h => by
   simp only [GCL] at h;obtain ⟨c, cs', rfl, h1, h2⟩ := h;rw [List.length_append, GC.len h1, GCL.len h2]; rfl
end
theorem Ap2 {V : View} {s : Sh} : ∀ (n : Nat) (vs : List Value), vs.length = n * s.w → (∀ i, i < n → ∃ c, GC s c ∧ PCells V c ((vs.drop (i * s.w)).take s.w)) → ∃ cc : List (List PV), cc.length = n ∧ (∀ c ∈ cc, GC s c) ∧ PCells V cc.flatten vs
 | 0, vs, hl, h => by
   have : vs = [] := List.eq_nil_of_length_eq_zero (by omega);subst this;exact ⟨[], rfl, by simp, PCells.nil⟩
 | n + 1, vs, hl, h => by
   rw [Nat.add_mul] at hl;obtain ⟨c, g, p⟩ := h 0 (by omega);rw [Nat.zero_mul, List.drop_zero] at p;obtain ⟨cc, e1, e2, e3⟩ := Ap2 (V := V) (s := s) n (vs.drop s.w) (by rw [List.length_drop]; omega) fun i hi => by
    obtain ⟨c', g', p'⟩ := h (i + 1) (by omega);refine ⟨c', g', ?_⟩;rw [List.drop_drop, show s.w + i * s.w = (i + 1) * s.w from by rw [Nat.add_mul]; omega];exact p'
   refine ⟨c :: cc, by simp [e1], fun x hx => ?_, ?_⟩
   · rcases List.mem_cons.1 hx with rfl | hx
     · exact g
     · exact e2 x hx
   · rw [List.flatten_cons];have := PCells.append p e3
     rwa [List.take_append_drop] at this
theorem Avf {a : Addr} (h : a.spot = none) (i j : Nat) : (a.add i).add j = ⟨a.block, a.off + (i + j), none⟩ := by
 obtain ⟨b, o, sp⟩ := a;simp only at h; subst h;unfold Addr.add;by_cases hi : i = 0
 · subst hi;by_cases hj : j = 0
   · subst hj; simp
   · simp [hj]
 · by_cases hj : j = 0
   · subst hj; simp [hi]
   · simp [hi, hj]; omega
theorem Alb {w : World} {s : Sh} {a : Addr} {len cap : Nat} (hcap : len ≤ cap) (hw : 0 < s.w)
 (h : ∀ i, i < len → ∃ c vs, GC s c ∧ PCells (Kq w) c vs ∧ w.cells? 0 (a.add (i * s.w)) s.w = some vs) :
 ∃ es : List (List PV), es.length = len ∧ (∀ c ∈ es, GC s c) ∧ PConc (Kq w) (.sl false s.w es) (.slice (some a) len cap) := by
 by_cases h0 : len = 0
 · subst h0;exact ⟨[], rfl, by simp, .sl false s.w [] (some a) cap (fun _ _ => undef) 0 0 #[] (by simp) (by simp) (by simp) (by simp) (by simp) (by simp)⟩
 · have h' : ∀ i, ∃ c vs, i < len → GC s c ∧ PCells (Kq w) c vs ∧ w.cells? 0 (a.add (i * s.w)) s.w = some vs := fun i => by
    by_cases hi : i < len
    · obtain ⟨c, vs, h1⟩ := h i hi; exact ⟨c, vs, fun _ => h1⟩
    · exact ⟨[], [], fun h => absurd h hi⟩
   obtain ⟨c, hc⟩ := Classical.axiomOfChoice h';obtain ⟨vs, hv⟩ := Classical.axiomOfChoice hc;obtain ⟨g0, p0, k0⟩ := hv 0 (by omega);obtain ⟨_, l0, c0⟩ := World.cells?_some k0;have c00 := c0 0 hw;have hlen0 : 0 < (vs 0).length := by omega
   rw [List.getElem?_eq_getElem hlen0, Nat.zero_mul] at c00;have e0 : (a.add 0).add 0 = a := by simp [Addr.add]
   rw [e0] at c00;obtain ⟨hs, arr, harr, _⟩ := W4 c00;have hget : ∀ i j, i < len → j < s.w → arr[a.off + (i * s.w + j)]? = (vs i)[j]? := fun i j hi hj => by
    obtain ⟨_, _, k⟩ := hv i hi;obtain ⟨_, ll, cc⟩ := World.cells?_some k;have h1 := cc j hj;have hlt : j < (vs i).length := by omega
    rw [List.getElem?_eq_getElem hlt, Avf hs] at h1;obtain ⟨_, arr', ha', h2⟩ := W4 h1;simp only at ha' h2;rw [harr] at ha'; cases ha';rw [h2, List.getElem?_eq_getElem hlt]
   have hel : ∀ i, i < len → ((List.range len).map c)[i]? = some (c i) := fun i hi => by simp [hi]
   refine ⟨(List.range len).map c, by simp, fun x hx => ?_, ?_⟩
   · obtain ⟨i, hi, rfl⟩ := List.mem_map.1 hx;exact (hv i (by simpa using hi)).1
   · have e := PConc.sl (V := Kq w) false s.w ((List.range len).map c) (some a) cap (fun i j => (vs i).getD j undef) a.block a.off arr (by simpa using hcap) (by simp) (fun x hx => by
      obtain ⟨i, hi, rfl⟩ := List.mem_map.1 hx;exact (hv i (by simpa using hi)).1.len) (fun _ => by
      obtain ⟨b, o, sp⟩ := a;simp only at hs; subst hs;exact ⟨rfl, harr⟩) (fun i j hi hj => by
      have hi' : i < len := by simpa using hi
      rw [hget i j hi' hj];have : j < (vs i).length := by
       obtain ⟨_, ll, _⟩ := World.cells?_some (hv i hi').2.2; omega
      simp [List.getD_eq_getElem?_getD, this]) (fun i j x y hx hy => by
      have hi' : i < len := by
       have := (List.getElem?_eq_some_iff.1 hx).1; simpa using this
      rw [hel i hi'] at hx; cases hx;obtain ⟨v, hv1, hv2⟩ := (hv i hi').2.1.2 j y hy;simp only [List.getD_eq_getElem?_getD, hv1, Option.getD_some]; exact hv2)
     simpa using e
section
variable {H : Type} {enc : TypeId × Value → H} {P : Program} {w : World} {spare : Nat → Bool} {held : Bool}
mutual
theorem Rx : ∀ (s : Sh) {t : TypeId} {fuel : Nat} {vs : List Value} {x}, Y9 P s t = true → DataW.trod enc P w 0 spare held fuel t vs = some x → ∃ cs, GC s cs ∧ PCells (Kq w) cs vs
 | .int k, t, fuel, vs, x, hs, h => by
   simp only [Y9] at hs;split at hs
   · rename_i k' hu;obtain rfl := of_decide_eq_true hs;obtain ⟨n, rfl, _, hw⟩ := DataW.trod_int hu h;exact ⟨[.i k n], ⟨n, rfl, hw⟩, PCells.cons (.i _ _) PCells.nil⟩
   · cases hs
 | .bool, t, fuel, vs, x, hs, h => by
   simp only [Y9] at hs;split at hs
   · rename_i hu;obtain ⟨n, rfl, _⟩ := DataW.trod_bool hu h;exact ⟨[.b n], ⟨n, rfl⟩, PCells.cons (.b _) PCells.nil⟩
   · cases hs
 | .str, t, fuel, vs, x, hs, h => by
   simp only [Y9] at hs;split at hs
   · rename_i hu;obtain ⟨b, rfl, _, hl⟩ := DataW.trod_string hu h;refine ⟨[.s b.data.toList], ⟨b.data.toList, rfl, by simpa using hl⟩, PCells.cons ?_ PCells.nil⟩;have := PConc.s (V := Kq w) b.data.toList;simpa using this
   · cases hs
 | .arr n s, t, fuel, vs, x, hs, h => by
   simp only [Y9] at hs;split at hs
   · rename_i n' e hu;simp only [Bool.and_eq_true, decide_eq_true_eq] at hs;obtain ⟨⟨⟨rfl, h1⟩, h2⟩, h3⟩ := hs;obtain ⟨xs, m, rfl, _, hl, hx, hg⟩ := DataW.trod_array hu h;rw [h1] at hg;obtain ⟨cc, e1, e2, e3⟩ := Ap2 (V := Kq w) (s := s) n vs (by rw [hl, h2]) fun i hi => by
      have := hg i hi;rw [List.getElem?_eq_getElem (by omega)] at this;exact Rx s h3 this
     exact ⟨cc.flatten, by simp only [GC]; exact ⟨cc, rfl, e1, e2⟩, e3⟩
   · cases hs
 | .st l, t, fuel, vs, x, hs, h => by
   simp only [Y9] at hs;split at hs
   · rename_i fs hu;simp only [Bool.and_eq_true, decide_eq_true_eq] at hs;obtain ⟨h2, h3⟩ := hs;obtain ⟨xs, m, rfl, _, hl, hx, hg⟩ := DataW.trod_struct hu h;obtain ⟨cs, e1, e2⟩ := Zg l (off := 0) (vs := vs) h3 fun f hf => by
      obtain ⟨i, hi⟩ := List.mem_iff_getElem?.1 hf;have hi2 : fs[i]? = some f := by simpa using hi
      have := hg i f hi2;have hlt := (Array.getElem?_eq_some_iff.1 hi2).1;rw [List.getElem?_eq_getElem (by omega)] at this;exact ⟨_, _, this⟩
     rw [List.drop_zero, ← h2, ← hl, List.take_length] at e2;exact ⟨cs, by simp only [GC]; exact e1, e2⟩
   · cases hs
 | .sl s, t, fuel, vs, x, hs, h => by
   simp only [Y9] at hs;split at hs
   · rename_i e hu;simp only [Bool.and_eq_true, decide_eq_true_eq] at hs;obtain ⟨⟨h1, h2⟩, h3⟩ := hs;rcases DataW.trod_slice hu h with ⟨rfl, _⟩ | ⟨a, len, cap, Cm, rest, n, rfl, rfl, _, _, hl, hm, hle, hg, _⟩
     · exact ⟨[.sl false s.w []], by simp only [GC]; exact ⟨[], rfl, by simp, by simp⟩, PCells.cons (.sl false s.w [] none 0 (fun _ _ => undef) 0 0 #[] (by simp) (by simp) (by simp) (by simp) (by simp) (by simp)) PCells.nil⟩
     · rw [h1] at hg;obtain ⟨es, e1, e2, e3⟩ := Alb (w := w) (s := s) (a := a) hl h2 fun i hi => by
        have h4 := hg i hi;rw [List.getElem?_eq_getElem (by omega)] at h4;obtain ⟨vs, h5, h6⟩ := Option.bind_eq_some_iff.1 h4;obtain ⟨c, g, p⟩ := Rx s h3 h6;exact ⟨c, vs, g, p, h5⟩
       exact ⟨[.sl false s.w es], by simp only [GC]; exact ⟨es, rfl, by omega, e2⟩, PCells.cons e3 PCells.nil⟩
   · cases hs
theorem Zg : ∀ (l : List Sh) {fs : List Field} {off : Nat} {vs : List Value}, Alg P l fs off = true →
 (∀ f ∈ fs, ∃ n x, DataW.trod enc P w 0 spare held n f.type ((vs.drop f.offset).take (P.cellsOf f.type)) = some x) → ∃ cs, GCL l cs ∧ PCells (Kq w) cs ((vs.drop off).take (Sh.wL l))
 | [], fs, off, vs, hs, h => ⟨[], by simp only [GCL], by simp only [Sh.wL, List.take_zero]; exact PCells.nil⟩
 | s :: l, [], off, vs, hs, h => by simp [Alg] at hs
 | s :: l, f :: fs, off, vs, hs, h => by
   simp only [Alg, Bool.and_eq_true, decide_eq_true_eq] at hs;obtain ⟨⟨⟨h1, h2⟩, h3⟩, h4⟩ := hs;obtain ⟨n, x, hx⟩ := h f (by simp);obtain ⟨c, g, p⟩ := Rx s h3 hx;obtain ⟨cs, gl, pl⟩ := Zg l (vs := vs) h4 fun f hf => h f (by simp [hf]);refine ⟨c ++ cs, by simp only [GCL]; exact ⟨c, cs, rfl, g, gl⟩, ?_⟩;rw [h1, h2] at p;have := PCells.append p pl;have e : (vs.drop off).take (Sh.wL (s :: l)) = (vs.drop off).take s.w ++ (vs.drop (off + s.w)).take (Sh.wL l) := by
    simp only [Sh.wL];rw [List.take_add, List.drop_drop]
   rw [e]; exact this
end
end
mutual
def Hv : Sh → List PV → SV
 | .arr n s, cs => .vec (n * s.w) cs
 | .st l, cs => .agg (M2 l cs)
 | _, cs => .pv (cs.headD (.b false))
def M2 : List Sh → List PV → List SV
 | [], _ => []
 | s :: l, cs => (Hv s (cs.take s.w)).segs ++ M2 l (cs.drop s.w)
end
def Sh.isAg : Sh → Bool
 | .arr _ _ => true
 | .st _ => true
 | _ => false
theorem O9 {V : View} {ρ : Nat → Value} : ∀ {l m : List SV} {a b : List Value}, Cells V ρ l a → Cells V ρ m b → Cells V ρ (l ++ m) (a ++ b)
 | [], m, a, b, h1, h2 => by simp only [Cells] at h1; subst h1; exact h2
 | x :: l, m, a, b, h1, h2 => by
   simp only [Cells, List.cons_append] at h1 ⊢;obtain ⟨u, us, rfl, c, d, e, f⟩ := h1;exact ⟨u, us ++ b, by simp, c, d, e, O9 f h2⟩
mutual
theorem W3 {V : View} {ρ : Nat → Value} : ∀ (s : Sh) {cs : List PV} {v : Value}, GC s cs → PCells V cs (An v) → (s.isAg = true → ∃ vs, v = .agg ⟨vs⟩) → (s.isAg = false → ∀ vs, v ≠ .agg vs) → Conc V ρ (Hv s cs) v
 | .int k, cs, v, g, p, _, h => by
   obtain ⟨n, rfl, _⟩ := g;have e : An v = [v] := by cases v <;> first | rfl | exact absurd rfl (h rfl _)
   rw [e] at p;obtain ⟨v', h1, h2⟩ := p.2 0 _ rfl;simp at h1; subst h1;simp only [Hv, Conc, List.headD_cons]; exact h2
 | .bool, cs, v, g, p, _, h => by
   obtain ⟨n, rfl⟩ := g;have e : An v = [v] := by cases v <;> first | rfl | exact absurd rfl (h rfl _)
   rw [e] at p;obtain ⟨v', h1, h2⟩ := p.2 0 _ rfl;simp at h1; subst h1;simp only [Hv, Conc, List.headD_cons]; exact h2
 | .str, cs, v, g, p, _, h => by
   obtain ⟨n, rfl, _⟩ := g;have e : An v = [v] := by cases v <;> first | rfl | exact absurd rfl (h rfl _)
   rw [e] at p;obtain ⟨v', h1, h2⟩ := p.2 0 _ rfl;simp at h1; subst h1;simp only [Hv, Conc, List.headD_cons]; exact h2
 | .sl s, cs, v, g, p, _, h => by
   simp only [GC] at g;obtain ⟨n, rfl, _⟩ := g;have e : An v = [v] := by cases v <;> first | rfl | exact absurd rfl (h rfl _)
   rw [e] at p;obtain ⟨v', h1, h2⟩ := p.2 0 _ rfl;simp at h1; subst h1;simp only [Hv, Conc, List.headD_cons]; exact h2
 | .arr n s, cs, v, g, p, h, _ => by
   obtain ⟨vs, rfl⟩ := h rfl;have hl := g.len;simp only [Hv, Conc];refine ⟨vs, rfl, ?_, p⟩;have e1 : vs.length = cs.length := p.1.symm;rw [e1, hl]; rfl
 | .st l, cs, v, g, p, h, _ => by
   obtain ⟨vs, rfl⟩ := h rfl;simp only [GC] at g;simp only [Hv, Conc];exact ⟨vs, rfl, Li l g p⟩
theorem Li {V : View} {ρ : Nat → Value} : ∀ (l : List Sh) {cs : List PV} {vs : List Value}, GCL l cs → PCells V cs vs → Cells V ρ (M2 l cs) vs
 | [], cs, vs, g, p => by
   simp only [GCL] at g; subst g;have : vs = [] := List.eq_nil_of_length_eq_zero (by rw [← p.1]; rfl);subst this;simp only [M2, Cells]
 | s :: l, cs, vs, g, p => by
   simp only [GCL] at g;obtain ⟨c, cs', rfl, g1, g2⟩ := g;have hl := g1.len;have p1 : PCells V c (vs.take c.length) := by
    have := p.split c.length |>.1;simpa using this
   have p2 : PCells V cs' (vs.drop c.length) := by
    have := p.split c.length |>.2;simpa using this
   have hvs : vs = vs.take c.length ++ vs.drop c.length := (List.take_append_drop _ _).symm;have hlen : (vs.take c.length).length = s.w := by rw [← p1.1, hl]
   simp only [M2];rw [List.take_left' hl, List.drop_left' hl];rw [hvs];refine O9 ?_ (Li l g2 p2);cases s with
   | st m =>
     simp only [GC] at g1;simp only [Hv, SV.segs];exact Li m g1 p1
   | arr n s' =>
     have := W3 (V := V) (ρ := ρ) (.arr n s') (v := .agg ⟨vs.take c.length⟩) g1 (by simpa [An] using p1) (fun _ => ⟨_, rfl⟩) (by simp [Sh.isAg]);simp only [Hv] at this ⊢;simp only [SV.segs, Cells];exact ⟨_, [], by simp [An], this, by simpa [An, SV.width, Sh.w] using hlen, fun v hv => p1.one v (by simpa [An] using hv), rfl⟩
   | int k =>
     obtain ⟨n, rfl, _⟩ := g1;obtain ⟨v, h1, h2⟩ := p1.2 0 _ rfl;have e : vs.take [PV.i k n].length = [v] := by
      match hx : vs.take [PV.i k n].length, h1, hlen with
      | [u], h1, _ => simp at h1; rw [h1]
     have ho := h2.one;have fv : An v = [v] := by cases v <;> first | rfl | exact absurd ho (by simp [Ay])
     rw [e];simp only [Hv, SV.segs, Cells, Conc, List.headD_cons];exact ⟨v, [], by rw [fv]; rfl, h2, by rw [fv]; rfl, by rw [fv]; simpa using ho, rfl⟩
   | bool =>
     obtain ⟨n, rfl⟩ := g1;obtain ⟨v, h1, h2⟩ := p1.2 0 _ rfl;have e : vs.take [PV.b n].length = [v] := by
      match hx : vs.take [PV.b n].length, h1, hlen with
      | [u], h1, _ => simp at h1; rw [h1]
     have ho := h2.one;have fv : An v = [v] := by cases v <;> first | rfl | exact absurd ho (by simp [Ay])
     rw [e];simp only [Hv, SV.segs, Cells, Conc, List.headD_cons];exact ⟨v, [], by rw [fv]; rfl, h2, by rw [fv]; rfl, by rw [fv]; simpa using ho, rfl⟩
   | str =>
     obtain ⟨n, rfl, _⟩ := g1;obtain ⟨v, h1, h2⟩ := p1.2 0 _ rfl;have e : vs.take [PV.s n].length = [v] := by
      match hx : vs.take [PV.s n].length, h1, hlen with
      | [u], h1, _ => simp at h1; rw [h1]
     have ho := h2.one;have fv : An v = [v] := by cases v <;> first | rfl | exact absurd ho (by simp [Ay])
     rw [e];simp only [Hv, SV.segs, Cells, Conc, List.headD_cons];exact ⟨v, [], by rw [fv]; rfl, h2, by rw [fv]; rfl, by rw [fv]; simpa using ho, rfl⟩
   | sl s' =>
     simp only [GC] at g1;obtain ⟨n, rfl, _⟩ := g1;obtain ⟨v, h1, h2⟩ := p1.2 0 _ rfl;have e : vs.take [PV.sl false s'.w n].length = [v] := by
      match hx : vs.take [PV.sl false s'.w n].length, h1, hlen with
      | [u], h1, _ => simp at h1; rw [h1]
     have ho := h2.one;have fv : An v = [v] := by cases v <;> first | rfl | exact absurd ho (by simp [Ay])
     rw [e];simp only [Hv, SV.segs, Cells, Conc, List.headD_cons];exact ⟨v, [], by rw [fv]; rfl, h2, by rw [fv]; rfl, by rw [fv]; simpa using ho, rfl⟩
end
mutual
theorem Zj : ∀ (s : Sh) (cs : List PV), (Hv s cs).closed = true
 | .int k, cs => rfl
 | .bool, cs => rfl
 | .str, cs => rfl
 | .sl s, cs => rfl
 | .arr n s, cs => rfl
 | .st l, cs => by simp only [Hv, SV.closed]; exact Il l cs
theorem Il : ∀ (l : List Sh) (cs : List PV), SV.closedL (M2 l cs) = true
 | [], cs => rfl
 | s :: l, cs => by
   simp only [M2];have h2 := Il l (cs.drop s.w);have app : ∀ (a b : List SV), SV.closedL a = true → SV.closedL b = true → SV.closedL (a ++ b) = true := fun a b ha hb => by
    induction a with
    | nil => exact hb
    | cons x a ih => simp only [SV.closedL, Bool.and_eq_true, List.cons_append] at ha ⊢; exact ⟨ha.1, ih ha.2⟩
   refine app _ _ ?_ h2;cases s with
   | st m => simp only [Hv, SV.segs]; exact Il m _
   | int k => rfl
   | bool => rfl
   | str => rfl
   | sl s => rfl
   | arr n s => rfl
end
theorem Ahg {P : Program} {w : World} {base : Nat} {t : TypeId} {v : Value} : ∀ {s : Sh}, Y9 P s t = true → Value.okWide P w .any base t v → (s.isAg = true → ∃ vs, v = .agg ⟨vs⟩) ∧ (s.isAg = false → ∀ vs, v ≠ .agg vs)
 | .int k, hs, h => by
   simp only [Y9] at hs;split at hs
   · rename_i k' hu;obtain ⟨n, rfl⟩ := WideShapes.okWide_int hu h;exact ⟨fun h => (by cases h), fun _ vs e => by cases e⟩
   · cases hs
 | .bool, hs, h => by
   simp only [Y9] at hs;split at hs
   · rename_i hu;obtain ⟨n, rfl⟩ := WideShapes.okWide_bool hu h;exact ⟨fun h => (by cases h), fun _ vs e => by cases e⟩
   · cases hs
 | .str, hs, h => by
   simp only [Y9] at hs;split at hs
   · rename_i hu;obtain ⟨n, rfl⟩ := WideShapes.okWide_string hu h;exact ⟨fun h => (by cases h), fun _ vs e => by cases e⟩
   · cases hs
 | .sl s, hs, h => by
   simp only [Y9] at hs;split at hs
   · rename_i e hu;obtain ⟨a, b, c, rfl⟩ := WideShapes.okWide_slice hu h;exact ⟨fun h => (by cases h), fun _ vs e => by cases e⟩
   · cases hs
 | .arr n s, hs, h => by
   simp only [Y9] at hs;split at hs
   · rename_i n' e hu;simp only [Value.okWide, hu] at h;obtain ⟨⟨xs⟩, rfl, _⟩ := h;exact ⟨fun _ => ⟨_, rfl⟩, fun h => (by cases h)⟩
   · cases hs
 | .st l, hs, h => by
   simp only [Y9] at hs;split at hs
   · rename_i fs hu;simp only [Value.okWide, hu] at h;obtain ⟨⟨xs⟩, rfl, _⟩ := h;exact ⟨fun _ => ⟨_, rfl⟩, fun h => (by cases h)⟩
   · cases hs
theorem Abk {H : Type} {enc : TypeId × Value → H} {P : Program} {w : World} {spare : Nat → Bool} {held : Bool} {base : Nat} {t : TypeId} {v : Value} {d : DataW H} {ps : List MemPlace} {s : Sh} (hs : Y9 P s t = true)
 (hv : Value.okWide P w .any base t v) (h : DataW.Trod enc P w 0 spare held t v d ps) : ∃ cs, GC s cs ∧ Conc (Kq w) (fun _ => undef) (Hv s cs) v := by
 obtain ⟨fuel, hf⟩ := h;obtain ⟨cs, g, p⟩ := Rx s hs hf;rw [Ej] at p;obtain ⟨h1, h2⟩ := Ahg hs hv;exact ⟨cs, g, W3 s g p h1 h2⟩
end Go.Proofs.Ythmjebkldgdeiaa.Fw
namespace Go.Proofs.Ythmjebkldgdeiaa.Fw
open Go.RowKit
theorem Aa8 {m : Nat} : ∀ {cc : List (List PV)} {i j : Nat}, (∀ c ∈ cc, c.length = m) → j < m → cc.flatten[i * m + j]? = (cc[i]?).bind (·[j]?)
 | [], i, j, _, _ => by simp
 | c :: cc, 0, j, h, hj => by
   have hc := h c (by simp);rw [List.flatten_cons, Nat.zero_mul, Nat.zero_add, List.getElem?_append_left (by omega)]; rfl
 | c :: cc, i + 1, j, h, hj => by
   have hc := h c (by simp);rw [List.flatten_cons, List.getElem?_append_right (by rw [Nat.add_mul]; omega)];rw [show (i + 1) * m + j - c.length = i * m + j from by rw [Nat.add_mul]; omega];rw [Aa8 (fun c hc => h c (by simp [hc])) hj]; rfl
theorem A0f {n : Nat} {s : Sh} {cs : List PV} (h : GC (.arr n s) cs) : cs.length = n * s.w ∧ ∀ i, i < n → ∃ c, GC s c ∧ ∀ j, j < s.w → cs[i * s.w + j]? = c[j]? := by
 refine ⟨h.len, fun i hi => ?_⟩;simp only [GC] at h;obtain ⟨cc, rfl, rfl, g⟩ := h;refine ⟨cc[i], g _ (List.getElem_mem _), fun j hj => ?_⟩;rw [Aa8 (fun c hc => (g c hc).len) hj, List.getElem?_eq_getElem hi]; rfl
theorem Akj {n : Int} (h : (Lit.int .u32 n).wf = true) : 0 ≤ n ∧ n < 4294967296 := by
 simp [Lit.wf, IntKind.min, IntKind.max, IntKind.signed, IntKind.bits] at h; omega
theorem Ayz {n : Int} (h : (Lit.int .i64 n).wf = true) : -9223372036854775808 ≤ n ∧ n < 9223372036854775808 := by
 simp [Lit.wf, IntKind.min, IntKind.max, IntKind.signed, IntKind.bits] at h; omega
theorem Au4 {n : Nat} {cs : List PV} {f : Nat → PV} (hl : cs.length = n) (h : ∀ i, i < n → cs[i]? = some (f i)) : cs = Cb n f := by
 apply List.ext_getElem?;intro i;by_cases hi : i < n
 · rw [h i hi, E4 hi]
 · rw [List.getElem?_eq_none (by omega), List.getElem?_eq_none (by rw [C9]; omega)]
theorem A5m {cs : List PV} (h : GC (.arr 8 (.int .u32)) cs) : ∃ a : Vc, cs = vE a ∧ ∀ i, i < 8 → a i < 4294967296 := by
 obtain ⟨hl, g⟩ := A0f h;have key : ∀ i, ∃ n : Nat, i < 8 → cs[i]? = some (.i .u32 n) ∧ n < 4294967296 := fun i => by
  by_cases hi : i < 8
  · obtain ⟨c, ⟨n, rfl, hw⟩, k⟩ := g i hi;have := k 0 (by simp [Sh.w]);simp only [Sh.w, Nat.mul_one, Nat.add_zero] at this;have hr := Akj hw;refine ⟨n.toNat, fun _ => ⟨?_, by omega⟩⟩;rw [this, show ((n.toNat : Nat) : Int) = n from by omega]; rfl
  · exact ⟨0, fun h => absurd h hi⟩
 obtain ⟨a, ha⟩ := Classical.axiomOfChoice key;exact ⟨a, Au4 hl fun i hi => (ha i hi).1, fun i hi => (ha i hi).2⟩
theorem Aqr {s : Sh} {cs : List PV} (h : GC (.sl s) cs) : ∃ es, cs = [.sl false s.w es] ∧ es.length ≤ maxLen ∧ ∀ c ∈ es, GC s c := by
 simp only [GC] at h; exact h
end Go.Proofs.Ythmjebkldgdeiaa.Fw
namespace Go.Proofs.Ythmjebkldgdeiaa.Fw
open Go.RowKit Go.Proofs
def C8 (r : Int) (q : Nat) (r' : Int) (q' : Nat) : Bool := decide (q < q' ∨ q = q' ∧ r < r')
theorem K3 (r : Int) (q : Nat) (r' : Int) (q' : Nat) {h d} : FunOk Try.prog 72 [.vec 2 [.i .i64 r, .i .u32 q], .vec 2 [.i .i64 r', .i .u32 q']] h d (.pv (.b (C8 r q r' q'))) [] := by
 refine A5 Am fn72 (by simp) rfl rfl fun F => ?_;by_cases h : q = q'
 · subst h;have e : C8 r q r' q = decide (r < r') := by simp [C8]
   simp (disch := omega) only [ir72, e, go_sem]
 · have hz : ¬ (q : Int) = (q' : Int) := by omega
   have e : C8 r q r' q' = decide ((q : Int) < (q' : Int)) := by simp [C8, h]
   simp (disch := omega) only [ir72, e, go_sem]
theorem Afi {r r' : Int} {q q' : Nat} (h : r = r' ∧ q = q') : Rz [.i .i64 r, .i .u32 q] [.i .i64 r', .i .u32 q'] = true := by
 obtain ⟨rfl, rfl⟩ := h; simp [Rz]
theorem Ry {r r' : Int} {q q' : Nat} (h : ¬ (r = r' ∧ q = q')) : Rz [.i .i64 r, .i .u32 q] [.i .i64 r', .i .u32 q'] = false := by
 simp only [Rz, decide_eq_false_iff_not];intro e;simp only [List.cons.injEq, PV.i.injEq, true_and, and_true] at e;exact h ⟨e.1, by omega⟩
abbrev Bg := Int × Nat
def Ev (b : Bg) : List PV := [.i .i64 b.1, .i .u32 b.2]
def Ng (a : Vc) (r : Int) : Nat := if 1 ≤ r ∧ r ≤ 8 then a (r - 1).toNat else 0
def Bn (a : Vc) (r : Int) (q : Nat) : Bool := decide (1 ≤ q ∧ q ≤ Ng a r)
theorem A1z (a : Vc) (r : Int) {h d} : FunOk Try.prog 52 [.vec 8 (vE a), .pv (.i .i64 r)] h d (.pv (.i .u32 (Ng a r))) [] := by
 refine A5 Am fn52 (by simp) rfl rfl fun F => ?_;by_cases h1 : r < 1
 · have e : Ng a r = 0 := by simp [Ng]; omega
   simp (disch := omega) only [ir52, h1, e, go_sem]
 by_cases h2 : 8 < r
 · have e : Ng a r = 0 := by simp [Ng]; omega
   simp (disch := omega) only [ir52, h1, h2, e, go_sem]
 have e : Ng a r = a (r - 1).toNat := by simp [Ng]; omega
 obtain ⟨k, rfl⟩ : ∃ k : Nat, r = k + 1 := ⟨(r - 1).toNat, by omega⟩
 have ek : ((k : Int) + 1 - 1) = k := by omega
 simp (disch := omega) only [ir52, h1, h2, e, ek, go_sem]
theorem E6 (a : Vc) (r : Int) (q : Nat) {h d} : FunOk Try.prog 34 [.vec 8 (vE a), .vec 2 [.i .i64 r, .i .u32 q]] h d (.pv (.b (Bn a r q))) [] := by
 refine A5 Am fn34 (by simp) rfl rfl fun F => ?_;by_cases h1 : (1 : Int) ≤ q
 · simp (disch := omega) only [ir34, h1, go_sem];refine Aa (A1z a r) ?_;have e : Bn a r q = decide ((q : Int) ≤ (Ng a r : Int)) := decide_eq_decide.2 (by omega);simp (disch := omega) only [e, go_sem]
 · have e : Bn a r q = false := decide_eq_false (by omega);simp (disch := omega) only [ir34, h1, e, go_sem]
theorem Ow {l : List SV} {cs : List PV} {n : Nat} (hc : SV.cellsL? l = some cs) (hn : cs.length = n) : Imp (.agg l) (.vec n cs) := by
 intro V ρ v h;have hp := Conc.cells h (x := .agg l) (cs := cs) hc;simp only [Conc] at h ⊢;obtain ⟨vs, rfl, _⟩ := h;exact ⟨vs, rfl, by rw [← hn]; exact hp.1.symm, hp⟩
def ImpL : List SV → List SV → Prop
 | [], [] => True
 | x :: l, y :: m => Imp x y ∧ ImpL l m
 | _, _ => False
theorem ImpL.conc {V : View} {ρ : Nat → Value} : ∀ {l m : List SV} {vs : List Value}, ImpL l m → ConcL V ρ l vs → ConcL V ρ m vs
 | [], [], vs, _, h => h
 | x :: l, y :: m, vs, h, k => by
   simp only [ConcL] at k ⊢;obtain ⟨v, us, rfl, k1, k2⟩ := k;exact ⟨v, us, rfl, h.1 _ _ _ k1, ImpL.conc h.2 k2⟩
 | [], _ :: _, _, h, _ => h.elim
 | _ :: _, [], _, h, _ => h.elim
theorem FunOk.imp {P : Program} {f : Nat} {args args' : List SV} {h d x u} (hf : FunOk P f args' h d x u) (hi : ImpL args args') (ht : ∀ n ∈ Aw args', n ∈ Aw args) : FunOk P f args h d x u :=
 ⟨hf.1, fun F N ρ s a w hR hh vs hc => hf.2 F N ρ s a w hR (fun n hn => hh n (ht n hn)) vs (hi.conc hc)⟩
abbrev Zs : Sh := .st [.int .i64, .int .u32]
theorem Aby {cs : List PV} (h : GC Zs cs) : ∃ b : Bg, cs = Ev b ∧ (-9223372036854775808 ≤ b.1 ∧ b.1 < 9223372036854775808) ∧ b.2 < 4294967296 := by
 simp only [GC, GCL] at h;obtain ⟨c, cs', rfl, ⟨n, rfl, hw⟩, c', cs'', rfl, ⟨m, rfl, hw'⟩, rfl⟩ := h;have hr := Akj hw';exact ⟨(n, m.toNat), by simp [Ev]; omega, Ayz hw, by show m.toNat < _; omega⟩
theorem Yx {α : Type} {f : α → List PV} {p : α → Prop} {s : Sh} (key : ∀ {cs}, GC s cs → ∃ x, cs = f x ∧ p x) : ∀ {es : List (List PV)}, (∀ c ∈ es, GC s c) → ∃ l : List α, es = l.map f ∧ ∀ x ∈ l, p x
 | [], _ => ⟨[], rfl, by simp⟩
 | c :: es, h => by
   obtain ⟨l, e, hp⟩ := Yx (es := es) key fun c hc => h c (List.mem_cons_of_mem _ hc);obtain ⟨x, e2, hx⟩ := key (h c List.mem_cons_self);exact ⟨x :: l, by rw [e, e2]; rfl, fun y hy => by
    rcases List.mem_cons.1 hy with hy | hy
    · rw [hy]; exact hx
    · exact hp y hy⟩
structure Ent where
 id : Bg
 dir : Bg
 name : List UInt8
 obj : Bg
 gone : Vc
def Ai1 (x : Ent) : List PV := [.i .i64 x.id.1, .i .u32 x.id.2, .i .i64 x.dir.1, .i .u32 x.dir.2, .s x.name, .i .i64 x.obj.1, .i .u32 x.obj.2]
def Bb (x : Ent) : List PV := Ai1 x ++ vE x.gone
theorem Aqz (a : Vc) : (vE a).all PV.flat = true := by simp [vE, Cb, PV.flat]
theorem E3 (x : Ent) : (Bb x).length = 15 := by simp [Bb, Ai1, Bw]
theorem Ad7 (x : Ent) : (Bb x).all PV.flat = true := by
 unfold Bb Ai1; rw [List.all_append, Aqz]; rfl
theorem Ja (l : List Ent) : ∀ c ∈ l.map Bb, c.all PV.flat = true := by
 intro c hc;obtain ⟨v, _, rfl⟩ := List.mem_map.1 hc;exact Ad7 v
theorem K8 (x : Ent) (K : KK) : LoadK (some (Bb x)) 0 15 true K = K (.vec 15 (Bb x)) [] := by
 have e : ((Bb x).drop 0).take 15 = Bb x := List.take_of_length_le (by rw [List.drop_zero, E3]; omega);simp only [LoadK, Gr, eq_iff_iff, e, E3];exact ⟨fun h => h.2.2, fun h => ⟨by omega, .inl trivial, h⟩⟩
theorem Gq (x : Ent) (K : KK) : LoadK (some (Bb x)) 0 2 true K = K (.vec 2 [.i .i64 x.id.1, .i .u32 x.id.2]) [] := by
 simp only [LoadK, Gr, eq_iff_iff, E3];exact ⟨fun h => h.2.2, fun h => ⟨by omega, .inl trivial, h⟩⟩
theorem Mb (x : Ent) (K : KK) : LoadK (some (Bb x)) 5 2 true K = K (.vec 2 [.i .i64 x.obj.1, .i .u32 x.obj.2]) [] := by
 simp only [LoadK, Gr, eq_iff_iff, E3];exact ⟨fun h => h.2.2, fun h => ⟨by omega, .inl trivial, h⟩⟩
theorem Anl (x : Ent) (K : KK) : LoadK (some (Bb x)) 7 8 true K = K (.vec 8 (vE x.gone)) [] := by
 have e : ((Bb x).drop 7).take 8 = vE x.gone := by
  unfold Bb;rw [List.drop_left' (by rfl)];exact List.take_of_length_le (by rw [Bw]; omega)
 simp only [LoadK, Gr, eq_iff_iff, E3, e];exact ⟨fun h => h.2.2, fun h => ⟨by omega, .inl trivial, h⟩⟩
theorem Agy (x : Ent) (v : Vc) : splice (Bb x) 7 (vE v) = Bb { x with gone := v } := by
 unfold splice Bb;rw [List.take_left' (by rfl), Bw];have : (Ai1 x ++ vE x.gone).drop (7 + 8) = [] := List.drop_of_length_le (by simp [Ai1, Bw]);rw [this, List.append_nil]; rfl
theorem Hl {P : Program} {F : Fr} {N : Nat} {ρ : Nat → Value} {s : FS} {a : Act} {w : World} {tS tR e : TypeId} {sz m n lo hi : Nat} {es fs : List (List PV)} (ht : P.underlying tS = some (.slice e)) (hz : Ad P e = some sz) (h1 : sz ≠ 1)
 (hR : RelR F N ρ s a w) (hm : s.h m = some (.row sz fs)) (hn : s.h n = some (.row sz es)) (hne : m ≠ n) (hfs : fs ≠ []) (hes : es ≠ []) (hlt : lo < hi) {v u : Value}
 (hv : Conc (vw F w ρ s) ρ (.os m) v) (hu : Conc (vw F w ρ s) ρ (.ov n sz lo hi) u) :
 (Extern.SlicesOverlaps.overlaps #[tS, tS] #[tR] #[v, u]).run P w = .ok (.bool false) w := by
 obtain ⟨bm, lm, cm, vm, tym, frm, a1, a2, a3, a4, a5, a6, a7, a8, a9, rfl, a11⟩ := F6 (hR.own m _ hm) (List.length_pos_iff.2 hfs);obtain ⟨bn, ln, cn, vn, tyn, frn, b1, b2, b3, b4, b5, b6, b7, b8, b9, rfl, b11⟩ := F6 (hR.own n _ hn) (List.length_pos_iff.2 hes);simp only [Conc] at hv hu;obtain ⟨base, len, cap, base', c1, c2, c3, rfl, c4⟩ := hu;rw [hv.1, a1];rw [b1] at c1; cases c1;have := c4 (.inl hlt);simp only [Option.map_some, Cf, Nat.zero_add] at this;subst this;have hbb : bm ≠ bn := fun e => hne (hR.inj m n _ _ bm hm hn (by rw [a1]; simp [Bm, a7]) (by rw [b1]; simp [Bm, b7, e]));have hfr : frm.1 = frm.2 := by rcases a3 with h | h; exact h; exact absurd h.1 h1
 have fz : ∀ o, w.frozen? ⟨bm, o, none⟩ = false := fun o => by
  unfold World.frozen?;simp only [a2];obtain ⟨x, y⟩ := frm;simp only at hfr;simp; omega
 exact Lib.run_overlaps_apart w tS tR e ht sz (fun w => Br hz w) ⟨bm, 0, none⟩ ⟨bn, lo * sz, none⟩ _ _ _ _ hbb tym tyn vm.length vn.length (by unfold World.shape?; rw [a2]; rfl) (by unfold World.shape?; rw [b2]; rfl)
  (by rw [b5]; exact Nat.mul_ne_zero b7 (by omega)) (fz _) (fz _)
theorem Axt {m n lo hi : Nat} {es fs : List (List PV)} {h} (hm : h m = some (.row 15 fs)) (hn : h n = some (.row 15 es)) (hne : m ≠ n) (hfs : fs ≠ []) (hes : es ≠ []) (hlt : lo < hi) : Xe Try.prog 91 [.os m, .ov n 15 lo hi] h (.pv (.b false)) := by
 intro F N ρ s a w hR hh vs hc;simp only [ConcL] at hc;obtain ⟨v, us, rfl, hv, u, us', rfl, hu, rfl⟩ := hc;have hsm := (hh m (by simp [Aw, tn])).trans hm;have hsn := (hh n (by simp [Aw, tn])).trans hn;refine ⟨.bool false, ?_, Dq⟩;rw [run_callFunc_extern (fn := (Try.prog.funcs[91]?).getD default) (by kernel_rfl) (by kernel_rfl) (by kernel_rfl) (by kernel_rfl) (e := Extern.SlicesOverlaps.overlaps #[31, 31] #[4]) (by kernel_rfl)];rw [Hl (tS := 31) (e := 59) (by kernel_rfl) (by kernel_rfl) (by decide) hR hsm hsn hne hfs hes hlt hv hu];rfl
set_option maxHeartbeats 4000000 in
theorem Ts (es : List (List PV)) (cs : List PV) (i : Nat) (hi : i ≤ es.length) (hb : es.length ≤ 1000) (hes : ∀ c ∈ es, c.length = 15) (hcs : cs.length = 15) {h d} (h1 : h 900 = some (.row 15 es)) (h2 : h 901 = some (.row 15 [cs])) : FunOk Try.prog 78 [.os 900, .pv (.i .i64 i), .os 901] h d (.os d) [.del 900, .del 901, .new d (.row 15 (es.take i ++ cs :: es.drop i))] := by
 refine Yp Am fn78 (by simp) rfl fun F => ?_;simp only [A9];by_cases he : i = es.length
 · subst he;have e1 : es.take es.length ++ cs :: es.drop es.length = es ++ [cs] := by simp
   rw [e1];simp (disch := omega) only [ir78, h1, h2, go_sem]
 · have hne : es ≠ [] := by intro e; subst e; simp at hi; exact he (by simpa using hi)
   simp (disch := omega) only [ir78, h1, h2, go_sem];intro c hc;by_cases hcap : c < es.length + 1
   · have hp : ((c : Int) < (es.length : Int) + ((1 : Nat) : Int)) = True := eq_true (by omega);have ek : ((es.length : Int) + ((1 : Nat) : Int) - (i : Int)).toNat = es.length + 1 - i := by omega
     (try simp only [D9, D8, D7, D6, D5, D4, D3, D2]); simp (disch := omega) only [hp, ek, go_sem]
     generalize hT : List.take i es ++ List.replicate (es.length + 1 - i) _ = T;have hTl : T.length = es.length + 1 := by rw [← hT]; simp; omega
     have t1 : T.take i = es.take i := by
      rw [← hT, List.take_append_of_le_length (by simp; omega), List.take_take, Nat.min_self]
     have hi' : (es.take i).length = i := by simp; omega
     have m1 : min 1 (es.length + 1 - i) = 1 := by omega
     have m2 : [cs].take (es.length + 1 - i) = [cs] := List.take_of_length_le (by simp; omega);have hU : (es.take i ++ [cs] ++ T.drop (i + 1)).length = es.length + 1 := by simp [hTl]; omega
     have e1 : ((i : Int) + ((1 : Nat) : Int)).toNat = i + 1 := by omega
     have u1 : (es.take i ++ [cs] ++ T.drop (i + 1)).take (i + 1) = es.take i ++ [cs] := by
      rw [List.take_append_of_le_length (by simp; omega)];exact List.take_of_length_le (by simp; omega)
     have u2 : (es.take es.length).drop i = es.drop i := by rw [List.take_length]
     have u3 : min (es.drop i).length (es.length + 1 - (i + 1)) = es.length - i := by simp
     have u4 : (es.drop i).take (es.length + 1 - (i + 1)) = es.drop i := List.take_of_length_le (by simp);have u5 : (es.take i ++ [cs] ++ T.drop (i + 1)).drop (i + 1 + (es.length - i)) = [] := List.drop_of_length_le (by rw [hU]; omega);have u6 : es.take i ++ cs :: es.drop i = es.take i ++ [cs] ++ es.drop i := by simp
     simp only [hTl, t1, m1, m2, e1, List.length_singleton];simp only [hU, u1, u2, u3, u4, u5, u6, List.append_nil];exact ⟨by omega, by omega, trivial⟩
   · have hp : ((c : Int) < (es.length : Int) + ((1 : Nat) : Int)) = False := eq_false (by omega)
     (try simp only [D9, D8, D7, D6, D5, D4, D3, D2]); simp (disch := omega) only [hp, go_sem]
     intro g hg hgs;have hg1 : g.length = 1 := by omega
     have e1 : ((i : Int) + ((1 : Nat) : Int)).toNat = i + 1 := by omega
     have hE : (es ++ g).length = es.length + 1 := by simp [hg1]
     refine ⟨by omega, ?_⟩;rw [e1];refine Pa (Axt (es := es ++ g) (fs := [cs]) rfl rfl (by decide) (by simp) (by simp [hne]) (by omega)) ?_;have v1 : ((es ++ g).take (es ++ g).length).drop i = (es ++ g).drop i := by rw [List.take_length]
     have v2 : min ((es ++ g).drop i).length ((es ++ g).length - (i + 1)) = es.length - i := by simp [hg1]; omega
     have v3 : ((es ++ g).drop i).take ((es ++ g).length - (i + 1)) = es.drop i := by
      rw [hE, List.drop_append_of_le_length hi, show es.length + 1 - (i + 1) = (es.drop i).length from by simp];exact List.take_left
     have v4 : (es ++ g).drop (i + 1 + (es.length - i)) = [] := List.drop_of_length_le (by omega);have v5 : ((es ++ g).take (i + 1) ++ es.drop i).length = es.length + 1 := by simp [hg1]; omega
     have v6 : ((es ++ g).take (i + 1) ++ es.drop i).take i = es.take i := by
      rw [List.take_append_of_le_length (by simp; omega), List.take_take, Nat.min_eq_left (by omega), List.take_append_of_le_length hi]
     have v7 : ((es ++ g).take (i + 1) ++ es.drop i).drop (i + 1) = es.drop i := by
      rw [List.drop_append_of_le_length (by simp; omega), List.drop_of_length_le (by simp; omega), List.nil_append]
     have m1 : min 1 (es.length + 1 - i) = 1 := by omega
     have m2 : [cs].take (es.length + 1 - i) = [cs] := List.take_of_length_le (by simp; omega);have u6 : es.take i ++ cs :: es.drop i = es.take i ++ [cs] ++ es.drop i := by simp
     simp (disch := omega) only [e1, v1, v2, v3, v4, v5, v6, v7, m1, m2, u6, go_sem]
theorem Axw {m n : Nat} (es : List (List PV)) (cs : List PV) (i : Nat) (hi : i ≤ es.length) (hb : es.length ≤ 1000) (hes : ∀ c ∈ es, c.length = 15) (hcs : cs.length = 15) (hmn : m ≠ n) (hm : m < 900) (hn : n < 900) {h d} (hd : d ≠ m ∧ d ≠ n ∧ d < 900) (h1 : h m = some (.row 15 es)) (h2 : h n = some (.row 15 [cs])) : FunOk Try.prog 78 [.os m, .pv (.i .i64 i), .os n] h d (.os d) [.del m, .del n, .new d (.row 15 (es.take i ++ cs :: es.drop i))] := by
 have hπ := Ae4 (a := 900) (m := m) (b := 901) (n := n) (by omega) (by omega) (by omega) hmn;have e1 : Xm 900 m 901 n 900 = m := by unfold Xm; simp
 have e2 : Xm 900 m 901 n 901 = n := by unfold Xm; repeat' split <;> (try omega)
 have e3 : Xm 900 m 901 n d = d := by unfold Xm; repeat' split <;> (try omega)
 have := (Ts es cs i hi hb hes hcs (h := fun k => (h (Xm 900 m 901 n k))) (d := d) (by rw [← h1, e1]) (by rw [← h2, e2])).rn (π := Xm 900 m 901 n) hπ (d' := d);simp only [SV.rnL, SV.rn, HU.rn, Blk.rn, List.map_cons, List.map_nil, e1, e2, e3] at this;refine this.at fun k hk => ?_;simp only [Aw, tn, List.append_nil, List.nil_append, List.mem_append, List.mem_singleton] at hk;simp only [hπ];rcases hk with rfl | rfl
 · rw [h1]; rfl
 · rw [h2]; rfl
theorem Ob {x : SV} {f : Bool} {z : Nat} {es : List (List PV)} {h d} (hx : Cl h [x] = [.pv (.sl f z es)]) (hl : Ba [x] = true) (hz : es = [] ∨ z = 15) (hb : es.length ≤ 1000) (hs : ∀ c ∈ es, c.all PV.flat = true) :
 FunOk Try.prog 46 [x] h d (.os d) [.new d (.row 15 es)] := by
 refine O1 Am fn46 (by simp) hl (.inr hs) fun F => ?_;rw [hx];simp (disch := omega) only [ir46, go_sem];intro b hb';cases b
 · simp (disch := omega) only [go_sem]
 · have he : es = [] := by
    cases es with
    | nil => rfl
    | cons c l => exact absurd (hb' (by simp)) (by simp)
   subst he
   (try simp only [D9, D8, D7, D6, D5, D4, D3, D2]); simp (disch := omega) only [go_sem]
   decide
abbrev Ip (a b : Bg) : Bool := C8 a.1 a.2 b.1 b.2
theorem R9 {a b : Bg} : Ip a b = true ↔ a.2 < b.2 ∨ a.2 = b.2 ∧ a.1 < b.1 := by simp [Ip, C8]
theorem F8 {a b c : Bg} (h : Ip a b = true) (k : Ip b c = true) : Ip a c = true := by rw [R9] at *; omega
theorem Fj {a : Bg} : ¬ Ip a a = true := by rw [R9]; omega
theorem Yl {a b : Bg} (h : Ip a b = true) : ¬ Ip b a = true := by rw [R9] at *; omega
theorem R8 {a b : Bg} (h : ¬ Ip a b = true) (k : a ≠ b) : Ip b a = true := by
 rw [R9] at *;by_cases e : a.2 = b.2
 · have : a.1 ≠ b.1 := fun e1 => k (Prod.ext e1 e);omega
 · omega
def Cx (l : List Ent) : Prop := l.Pairwise fun a b => Ip a.id b.id = true
def Fx : List Ent → Bg → Option Ent
 | [], _ => none
 | x :: l, i => if x.id = i then some x else Fx l i
theorem Ahy {l : List Ent} {i : Bg} {x : Ent} (h : Fx l i = some x) : x ∈ l ∧ x.id = i := by
 induction l with
 | nil => simp [Fx] at h
 | cons y l ih =>
   simp only [Fx] at h;split at h
   · cases h; exact ⟨List.mem_cons_self, by assumption⟩
   · exact ⟨List.mem_cons_of_mem _ (ih h).1, (ih h).2⟩
theorem Em {l : List Ent} {i : Bg} : Fx l i = none ↔ ∀ x ∈ l, x.id ≠ i := by
 induction l with
 | nil => simp [Fx]
 | cons y l ih =>
   simp only [Fx];by_cases h : y.id = i
   · rw [if_pos h];exact ⟨fun e => (nomatch e), fun e => absurd h (e y List.mem_cons_self)⟩
   · rw [if_neg h, ih];simp only [List.mem_cons, forall_eq_or_imp];exact ⟨fun e => ⟨h, e⟩, fun e => e.2⟩
theorem Aao {l : List Ent} (hs : Cx l) {x : Ent} (h : x ∈ l) : Fx l x.id = some x := by
 induction l with
 | nil => cases h
 | cons y l ih =>
   obtain ⟨h1, h2⟩ := List.pairwise_cons.1 hs;simp only [Fx];rcases List.mem_cons.1 h with rfl | h
   · rw [if_pos rfl]
   · rw [if_neg fun e => Fj (by have := h1 x h; rwa [e] at this)];exact ih h2 h
def Fv (l : List Ent) (i : Bg) : Nat := l.findIdx fun x => !Ip x.id i
theorem Xx (l : List Ent) (i : Bg) : Fv l i ≤ l.length := List.findIdx_le_length
theorem Pw (x : Ent) (l : List Ent) (i : Bg) : Fv (x :: l) i = if Ip x.id i = true then Fv l i + 1 else 0 := by
 unfold Fv;rw [List.findIdx_cons];cases Ip x.id i <;> simp
theorem Axk {l : List Ent} {i : Bg} {k : Nat} (hk : k < Fv l i) : ∃ x, l[k]? = some x ∧ Ip x.id i = true := by
 have hl : k < l.length := Nat.lt_of_lt_of_le hk (Xx l i);refine ⟨l[k], by simp [hl], ?_⟩;have := List.not_of_lt_findIdx hk;simpa using this
theorem Afh {l : List Ent} {i : Bg} {k : Nat} (hk : k ≤ l.length) (h1 : ∀ j x, j < k → l[j]? = some x → Ip x.id i = true) (h2 : ∀ x, l[k]? = some x → ¬ Ip x.id i = true) : Fv l i = k := by
 rcases Nat.lt_trichotomy (Fv l i) k with h | h | h
 · have hl : Fv l i < l.length := by omega
   have h0 : (!Ip (l[Fv l i]'hl).id i) = true := List.findIdx_getElem (p := fun x : Ent => !Ip x.id i) (w := hl);have := h1 _ _ h (List.getElem?_eq_getElem hl);rw [this] at h0; simp at h0
 · exact h
 · obtain ⟨x, e1, e2⟩ := Axk h;exact absurd e2 (h2 x e1)
def Ou (l : List Ent) (i : Bg) : Bool := (Fx l i).isSome
theorem Oh {l : List Ent} (hs : Cx l) (i : Bg) : Fx l i = match l[Fv l i]? with | some x => if x.id = i then some x else none | none => none := by
 induction l with
 | nil => simp [Fx]
 | cons y l ih =>
   obtain ⟨h1, h2⟩ := List.pairwise_cons.1 hs;rw [Pw];simp only [Fx];by_cases e : y.id = i
   · have : ¬ Ip y.id i = true := by rw [e]; exact Fj
     rw [if_neg this, if_pos e];simp [e]
   · rw [if_neg e];by_cases hl : Ip y.id i = true
     · rw [if_pos hl, List.getElem?_cons_succ]; exact ih h2
     · rw [if_neg hl, List.getElem?_cons_zero];simp only [e, if_false];exact Em.2 fun z hz ez => Fj (by have := F8 (R8 hl e) (h1 z hz); rwa [ez] at this)
theorem S9 {l : List Ent} (hs : Cx l) {j m : Nat} {x v : Ent} (hj : l[j]? = some x) (hm : l[m]? = some v) (h : j < m) : Ip x.id v.id = true := by
 obtain ⟨h1, rfl⟩ := List.getElem?_eq_some_iff.1 hj;obtain ⟨h2, rfl⟩ := List.getElem?_eq_some_iff.1 hm;exact List.pairwise_iff_getElem.1 hs j m h1 h2 h
def Mo (l : List Ent) (x : Ent) : List Ent := l.take (Fv l x.id) ++ x :: l.drop (Fv l x.id)
theorem Qc (y : Ent) (l : List Ent) (x : Ent) : Mo (y :: l) x = if Ip y.id x.id = true then y :: Mo l x else x :: y :: l := by
 unfold Mo;rw [Pw];split <;> simp
theorem X8 {l : List Ent} {x z : Ent} : z ∈ Mo l x ↔ z = x ∨ z ∈ l := by
 unfold Mo;have := List.take_append_drop (Fv l x.id) l;constructor
 · intro h;rcases List.mem_append.1 h with h | h
   · exact .inr (List.mem_of_mem_take h)
   · rcases List.mem_cons.1 h with h | h
     · exact .inl h
     · exact .inr (List.mem_of_mem_drop h)
 · intro h;rcases h with rfl | h
   · simp
   · rw [← this] at h;rcases List.mem_append.1 h with h | h
     · exact List.mem_append_left _ h
     · exact List.mem_append_right _ (List.mem_cons_of_mem _ h)
theorem S8 {l : List Ent} (hs : Cx l) {x : Ent} (hn : Fx l x.id = none) : Cx (Mo l x) := by
 induction l with
 | nil => simp [Mo, Fv, Cx]
 | cons y l ih =>
   obtain ⟨h1, h2⟩ := List.pairwise_cons.1 hs;have hy : y.id ≠ x.id := Em.1 hn y List.mem_cons_self;have hn' : Fx l x.id = none := Em.2 fun z hz => Em.1 hn z (List.mem_cons_of_mem _ hz);rw [Qc];split
   · rename_i hl;refine List.Pairwise.cons (fun z hz => ?_) (ih h2 hn');rcases X8.1 hz with rfl | hz
     · exact hl
     · exact h1 z hz
   · rename_i hl;have hxy : Ip x.id y.id = true := R8 hl hy;refine List.Pairwise.cons (fun z hz => ?_) hs;rcases List.mem_cons.1 hz with rfl | hz
     · exact hxy
     · exact F8 hxy (h1 z hz)
theorem Ak8 {l : List Ent} {f : Ent → Ent} (hf : ∀ x, (f x).id = x.id) (hs : Cx l) : Cx (l.map f) := by
 unfold Cx;rw [List.pairwise_map];exact hs.imp fun h => by simpa only [hf] using h
def Rq (l : List Ent) (i : Bg) (f : Ent → Ent) : List Ent := l.map fun x => if x.id = i then f x else x
theorem Asq {i : Bg} {f : Ent → Ent} (hf : ∀ x, (f x).id = x.id) (x : Ent) : (if x.id = i then f x else x).id = x.id := by split <;> simp [hf]
theorem Ak7 {l : List Ent} {f : Ent → Ent} (hf : ∀ x, (f x).id = x.id) (hs : Cx l) (i : Bg) : Cx (Rq l i f) := Ak8 (Asq hf) hs
theorem Arx {l : List Ent} (hs : Cx l) {i : Bg} {f : Ent → Ent} {x : Ent} (h : Fx l i = some x) : l.set (Fv l i) (f x) = Rq l i f := by
 induction l with
 | nil => simp [Fx] at h
 | cons y l ih =>
   obtain ⟨h1, h2⟩ := List.pairwise_cons.1 hs;rw [Pw];simp only [Fx] at h;by_cases e : y.id = i
   · rw [if_pos e] at h;cases h;rw [if_neg (by rw [e]; exact Fj)];simp only [List.set_cons_zero, Rq, List.map_cons, if_pos e];congr 1;have e1 : ∀ z ∈ l, (if z.id = i then f z else z) = id z := fun z hz => by
      rw [if_neg fun ez => Fj (by have := h1 z hz; rwa [e, ez] at this)]; rfl
     rw [List.map_congr_left e1, List.map_id]
   · rw [if_neg e] at h;have hx := Ahy h;have : Ip y.id i = true := by rw [← hx.2]; exact h1 x hx.1
     rw [if_pos this, List.set_cons_succ, ih h2 h];simp [Rq, e]
def Pc (l : List Ent) (x : Ent) : List Ent := if Ou l x.id = true then l else Mo l x
def G5 (a b : Bg) : Int := if Ip a b = true then -1 else if Ip b a = true then 1 else 0
theorem Axy (a b : Bg) {h d} : FunOk Try.prog 90 [.vec 2 [.i .i64 a.1, .i .u32 a.2], .vec 2 [.i .i64 b.1, .i .u32 b.2]] h d (.pv (.i .i64 (G5 a b))) [] := by
 refine A5 Am fn90 (by simp) rfl rfl fun F => ?_;simp (disch := omega) only [ir90, go_sem];refine Aa (K3 _ _ _ _) ?_;by_cases h1 : C8 a.1 a.2 b.1 b.2 = true
 · have e : G5 a b = -1 := if_pos h1;simp (disch := omega) only [h1, e, go_sem]
 · have h1' : C8 a.1 a.2 b.1 b.2 = false := by simpa using h1
   simp (disch := omega) only [h1', go_sem];refine Aa (K3 _ _ _ _) ?_;by_cases h2 : C8 b.1 b.2 a.1 a.2 = true
   · have e : G5 a b = 1 := by unfold G5; rw [if_neg h1, if_pos h2]
     simp (disch := omega) only [h2, e, go_sem]
   · have h2' : C8 b.1 b.2 a.1 a.2 = false := by simpa using h2
     have e : G5 a b = 0 := by unfold G5; rw [if_neg h1, if_neg h2]
     simp (disch := omega) only [h2', e, go_sem]
theorem Avq (x : Ent) (b : Bg) {h d} : FunOk Try.prog 89 [.vec 15 (Bb x), .vec 2 [.i .i64 b.1, .i .u32 b.2]] h d (.pv (.i .i64 (G5 x.id b))) [] := by
 refine A5 Am fn89 (by simp) rfl rfl fun F => ?_;simp (disch := omega) only [ir89, Gq, go_sem];refine Aa (Axy _ _) ?_;simp (disch := omega) only [go_sem]
theorem Sf {a b : Bg} : (G5 a b < 0) = (Ip a b = true) := by
 unfold G5;by_cases h : Ip a b = true
 · rw [if_pos h]; simp [h]
 · rw [if_neg h]; split <;> simp [h]
theorem Si {a b : Bg} : (G5 a b = 0) = (a = b) := by
 unfold G5;by_cases h : Ip a b = true
 · rw [if_pos h];refine propext ⟨fun e => by omega, fun e => ?_⟩;subst e; exact absurd h Fj
 · rw [if_neg h];by_cases k : Ip b a = true
   · rw [if_pos k];refine propext ⟨fun e => by omega, fun e => ?_⟩;subst e; exact absurd k Fj
   · rw [if_neg k];refine propext ⟨fun _ => ?_, fun _ => rfl⟩;exact Classical.byContradiction fun e => k (R8 h e)
def Afa (f : Bool) (l : List Ent) (i : Bg) (p : Nat × Nat) : FS := mk [(9, .pv (.i .i64 p.1)), (10, .pv (.i .i64 p.2)), (8, .pv (.i .i64 l.length)), (0, .pv (.sl f 15 (l.map Bb))), (2, .fn (.func 89) []), (4, .p 4 0)] [(4, some (.var (.vec 2 [.i .i64 i.1, .i .u32 i.2])))]
set_option maxHeartbeats 1000000 in
theorem A12 {x : SV} {f : Bool} {l : List Ent} (i : Bg) {h d} (hx : Cl h [x, .vec 2 [.i .i64 i.1, .i .u32 i.2], .fn (.func 89) []] = [.pv (.sl f 15 (l.map Bb)), .vec 2 [.i .i64 i.1, .i .u32 i.2], .fn (.func 89) []]) (hl : Ba [x, .vec 2 [.i .i64 i.1, .i .u32 i.2], .fn (.func 89) []] = true) (hs : Cx l) (hn : l.length ≤ 1000) :
 FunOk Try.prog 88 [x, .vec 2 [.i .i64 i.1, .i .u32 i.2], .fn (.func 89) []] h d (.tup [.pv (.i .i64 (Fv l i)), .pv (.b (Ou l i))]) [] := by
 refine Cp Am fn88 (by simp) hl rfl fun F => ?_;rw [hx];simp (disch := omega) only [ir88, List.length_map, go_sem];refine Bd Am (Afa f l i) (fun p => p.1 ≤ p.2 ∧ p.2 ≤ l.length ∧ (∀ j x, j < p.1 → l[j]? = some x → Ip x.id i = true) ∧ ∀ j x, p.2 ≤ j → l[j]? = some x → ¬ Ip x.id i = true) (fun p => p.2 - p.1) (0, l.length) ⟨by simp, by simp, by simp, fun j x hj hx => by simp only at hj; rw [List.getElem?_eq_none hj] at hx; cases hx⟩ (A2 ?_ ?_) fun p hp => ?_
 · (try simp only [D9, D8, D7, D6, D5, D4, D3, D2]); simp (disch := omega) only [go_sem]
 · simp (disch := omega) only [go_sem]
 obtain ⟨a, b⟩ := p;obtain ⟨p1, p2, p3, p4⟩ := hp;simp only at p1 p2 p3 p4;by_cases hlt : a < b
 · have hm : (a + b) / 2 < l.length := by omega
   have hx : l[(a + b) / 2]? = some l[(a + b) / 2] := List.getElem?_eq_getElem hm;have he : (l.map Bb)[(a + b) / 2]? = some (Bb l[(a + b) / 2]) := by rw [List.getElem?_map, hx]; rfl
   have e1 : ((a : Int) + (b : Int)).fdiv (2 ^ min (Int.toNat 1) 64) = (((a + b) / 2 : Nat) : Int) := by
    rw [show (2 : Int) ^ min (Int.toNat 1) 64 = 2 from rfl, Int.fdiv_eq_ediv_of_nonneg _ (by omega)]; omega
   have hm1 : a ≤ (a + b) / 2 := by omega
   have hm2 : (a + b) / 2 < b := by omega
   generalize l[(a + b) / 2] = v at *;generalize (a + b) / 2 = m at *;simp (disch := omega) only [Afa, List.length_map, e1, he, K8, go_sem];refine Aa (Avq v i) ?_;by_cases hc : Ip v.id i = true
   · have e2 : (G5 v.id i < 0) = True := by rw [Sf]; exact eq_true hc
     simp (disch := omega) only [e2, go_sem];refine Au (x := (a, b)) (m + 1, b) _ _ rfl ⟨by show m + 1 ≤ b; omega, p2, fun j x hj hx' => ?_, p4⟩ (by show b - (m + 1) < b - a; omega) ?_ ?_
     · by_cases e : j = m
       · subst e; rw [hx] at hx'; cases hx'; exact hc
       · exact F8 (S9 hs hx' hx (by simp only at hj; omega)) hc
     · (try simp only [D9, D8, D7, D6, D5, D4, D3, D2]); simp (disch := omega) only [go_sem]
     · simp (disch := omega) only [go_sem]
   · have e2 : (G5 v.id i < 0) = False := by rw [Sf]; exact eq_false hc
     simp (disch := omega) only [e2, go_sem];refine Au (x := (a, b)) (a, m) _ _ rfl ⟨by show a ≤ m; omega, by show m ≤ _; omega, p3, fun j x hj hx' => ?_⟩ (by show m - a < b - a; omega) ?_ ?_
     · by_cases e : j = m
       · subst e; rw [hx] at hx'; cases hx'; exact hc
       · exact fun q => hc (F8 (S9 hs hx hx' (by simp only at hj; omega)) q)
     · (try simp only [D9, D8, D7, D6, D5, D4, D3, D2]); simp (disch := omega) only [go_sem]
     · simp (disch := omega) only [go_sem]
 · obtain rfl : a = b := by omega
   have hpos : Fv l i = a := Afh p2 p3 fun x hx' => p4 a x (Nat.le_refl a) hx';by_cases hal : a < l.length
   · have hx' : l[a]? = some l[a] := List.getElem?_eq_getElem hal;have he : (l.map Bb)[a]? = some (Bb l[a]) := by rw [List.getElem?_map, hx']; rfl
     have hk := Oh hs i;rw [hpos, hx'] at hk;generalize l[a] = v at *;simp (disch := omega) only [Afa, hal, he, K8, List.length_map, go_sem];refine Aa (Avq v i) ?_;by_cases hv : v.id = i
     · have e2 : (G5 v.id i = 0) = True := by rw [Si]; exact eq_true hv
       have e3 : Ou l i = true := by unfold Ou; rw [hk]; simp [hv]
       simp (disch := omega) only [e2, e3, hpos, go_sem]
     · have e2 : (G5 v.id i = 0) = False := by rw [Si]; exact eq_false hv
       have e3 : Ou l i = false := by unfold Ou; rw [hk]; simp [hv]
       simp (disch := omega) only [e2, e3, hpos, go_sem]
   · have hk := Oh hs i;rw [hpos, List.getElem?_eq_none (by omega)] at hk;have e3 : Ou l i = false := by unfold Ou; rw [hk]; rfl
     simp (disch := omega) only [Afa, hal, hpos, e3, go_sem]
theorem Avr {x : SV} {f : Bool} {l : List Ent} (i : Bg) {h d} (hx : Cl h [x, .vec 2 [.i .i64 i.1, .i .u32 i.2]] = [.pv (.sl f 15 (l.map Bb)), .vec 2 [.i .i64 i.1, .i .u32 i.2]]) (hl : Ba [x, .vec 2 [.i .i64 i.1, .i .u32 i.2]] = true) (hs : Cx l) (hn : l.length ≤ 1000) :
 FunOk Try.prog 77 [x, .vec 2 [.i .i64 i.1, .i .u32 i.2]] h d (.tup [.pv (.i .i64 (Fv l i)), .pv (.b (Ou l i))]) [] := by
 refine Cp Am fn77 (by simp) hl rfl fun F => ?_;rw [hx];simp (disch := omega) only [ir77, go_sem];refine Aa (A12 (l := l) i rfl rfl hs hn) ?_;simp (disch := omega) only [go_sem]
theorem Ax2 {a : SV} {f : Bool} {l : List Ent} (x : Ent) {h d} (hx : Cl h [a, .vec 15 (Bb x)] = [.pv (.sl f 15 (l.map Bb)), .vec 15 (Bb x)]) (hl : Ba [a, .vec 15 (Bb x)] = true) (hs : Cx l) (hn : l.length ≤ 1000) :
 FunOk Try.prog 66 [a, .vec 15 (Bb x)] h d (.os d) [.new d (.row 15 ((Pc l x).map Bb))] := by
 refine Af9 Am fn66 (by simp) hl (.inr (Ja _)) fun F => ?_;rw [hx];simp (disch := omega) only [ir66, Gq, go_sem];refine Aa (Avr (l := l) x.id rfl rfl hs hn) ?_;have hfl := Ja l;by_cases hi : Ou l x.id = true
 · have e : Pc l x = l := by unfold Pc; rw [if_pos hi]
   simp (disch := omega) only [hi, e, go_sem];refine Aa (Ob (es := l.map Bb) rfl rfl (.inr rfl) (by simp; omega) hfl) ?_;simp (disch := omega) only [go_sem]
 · have hi' : Ou l x.id = false := by simpa using hi
   have e : Pc l x = Mo l x := by unfold Pc; rw [if_neg hi]
   have hc := E3 x;simp (disch := omega) only [hi', e, go_sem];refine Aa (Ob (es := l.map Bb) rfl rfl (.inr rfl) (by simp; omega) hfl) ?_;simp (disch := omega) only [hc, K8, go_sem];have hp := Xx l x.id;refine Aa (Axw (l.map Bb) (Bb x) (Fv l x.id) (by simp; omega) (by simp; omega) (fun c hc => by obtain ⟨y, _, rfl⟩ := List.mem_map.1 hc; exact E3 y) hc (by decide) (by decide) (by decide) (by decide) rfl rfl) ?_;simp (disch := omega) only [go_sem];simp [Mo, List.map_take, List.map_drop]
def Bq (v : Vc) (r : Int) (q : Nat) : Vc := if 1 ≤ r ∧ r ≤ 8 then Gy v (r - 1).toNat (max (v (r - 1).toNat) q) else v
set_option maxHeartbeats 1000000 in
theorem X1 (v : Vc) (r : Int) (q : Nat) {h d} : FunOk Try.prog 49 [.vec 8 (vE v), .vec 2 [.i .i64 r, .i .u32 q]] h d (.vec 8 (vE (Bq v r q))) [] := by
 refine A5 Am fn49 (by simp) rfl rfl fun F => ?_;by_cases h1 : 1 ≤ r
 · by_cases h2 : r ≤ 8
   · have e : Bq v r q = Gy v (r - 1).toNat (max (v (r - 1).toNat) q) := by unfold Bq; rw [if_pos ⟨h1, h2⟩]
     obtain ⟨k, rfl⟩ : ∃ k : Nat, r = (k : Int) + 1 := ⟨(r - 1).toNat, by omega⟩
     have ek : ((k : Int) + 1 - 1) = (k : Int) := by omega
     rw [ek, Int.toNat_natCast] at e;rw [e];simp (disch := omega) only [ir49, ek, go_sem]
   · have e : Bq v r q = v := by unfold Bq; rw [if_neg (by omega)]
     rw [e];simp (disch := omega) only [ir49, go_sem]
 · have e : Bq v r q = v := by unfold Bq; rw [if_neg (by omega)]
   rw [e];simp (disch := omega) only [ir49, go_sem]
theorem Zf (a b c : Vc) : Fz (Fz a b) c = Fz a (Fz b c) := funext fun i => Nat.max_assoc _ _ _
theorem Ab5 (a : Vc) : Fz a a = a := funext fun i => Nat.max_self _
def Axq (b : Bg) : Vc := fun i => if 1 ≤ b.1 ∧ b.1 ≤ 8 ∧ (i : Int) + 1 = b.1 then b.2 else 0
theorem Zd (v : Vc) (b : Bg) : Bq v b.1 b.2 = Fz v (Axq b) := by
 funext i;unfold Bq Fz Axq;by_cases h : 1 ≤ b.1 ∧ b.1 ≤ 8
 · rw [if_pos h];unfold Gy;by_cases e : i = (b.1 - 1).toNat
   · rw [if_pos e, if_pos (by omega), e]
   · rw [if_neg e, if_neg (by omega)]; simp
 · rw [if_neg h, if_neg (by omega)]; simp
def A26 (x y : Ent) : Ent := { x with gone := Fz x.gone y.gone }
theorem Wb {l : List Ent} {i : Bg} {f : Ent → Ent} (h : ∀ y ∈ l, y.id ≠ i) : Rq l i f = l := by
 unfold Rq;have e1 : ∀ z ∈ l, (if z.id = i then f z else z) = id z := fun z hz => by rw [if_neg (h z hz)]; rfl
 rw [List.map_congr_left e1, List.map_id]
def Ac0 (l : List Ent) (x : Ent) : List Ent := if Ou l x.id = true then Rq l x.id (fun y => A26 y x) else Mo l x
def Fg : List Ent → Ent → Bool → List Ent
 | [], x, put => if put = true then [] else [x]
 | y :: l, x, put => if y.id = x.id then A26 y x :: Fg l x true else if put = false ∧ Ip x.id y.id = true then x :: y :: Fg l x true else y :: Fg l x put
theorem M6 : ∀ {l : List Ent} {x : Ent}, (∀ y ∈ l, y.id ≠ x.id) → Fg l x true = l
 | [], x, _ => by simp [Fg]
 | y :: l, x, h => by
   simp only [Fg];rw [if_neg (h y List.mem_cons_self), if_neg (by simp), M6 fun z hz => h z (List.mem_cons_of_mem _ hz)]
theorem Ans (y : Ent) (l : List Ent) (i : Bg) (h : y.id ≠ i) : Ou (y :: l) i = Ou l i := by unfold Ou; simp only [Fx]; rw [if_neg h]
theorem Af1 {l : List Ent} {i : Bg} : Ou l i = false ↔ Fx l i = none := by unfold Ou; cases Fx l i <;> simp
theorem A3o {l : List Ent} {i : Bg} : Ou l i = true ↔ ∃ x, Fx l i = some x := by unfold Ou; cases Fx l i <;> simp
theorem V3 : ∀ {l : List Ent} {x : Ent}, Cx l → Fg l x false = Ac0 l x
 | [], x, _ => by simp [Fg, Ac0, Ou, Fx, Mo, Fv]
 | y :: l, x, hs => by
   obtain ⟨h1, h2⟩ := List.pairwise_cons.1 hs;simp only [Fg];by_cases e : y.id = x.id
   · have hne : ∀ z ∈ l, z.id ≠ x.id := fun z hz ez => Fj (by have := h1 z hz; rwa [e, ez] at this);rw [if_pos e, M6 hne];have : Ou (y :: l) x.id = true := by unfold Ou; simp [Fx, e]
     unfold Ac0;rw [if_pos this];show _ = List.map _ (y :: l);rw [List.map_cons, if_pos e];congr 1;exact (Wb hne).symm
   · rw [if_neg e];by_cases hl : Ip x.id y.id = true
     · have hne : ∀ z ∈ l, z.id ≠ x.id := fun z hz ez => Fj (by have := F8 hl (h1 z hz); rwa [ez] at this);rw [if_pos (by simp [hl]), M6 hne];have : Ou (y :: l) x.id = false := Af1.2 (Em.2 fun z hz => by
        rcases List.mem_cons.1 hz with rfl | hz
        · exact e
        · exact hne z hz)
       unfold Ac0;rw [if_neg (by rw [this]; simp), Qc, if_neg (Yl hl)]
     · rw [if_neg fun h => hl h.2, V3 h2];unfold Ac0;rw [Ans y l _ e];split
       · simp [Rq, e]
       · rw [Qc, if_pos (R8 hl fun q => e q.symm)]
def La (b : Bg) (y : Ent) : Ent := { y with gone := Fz y.gone (Axq b) }
theorem Ano (b : Bg) (y : Ent) : (La b y).id = y.id := rfl
def killL (l : List Ent) (i b : Bg) : List Ent := Rq l i (La b)
theorem Agz {l : List Ent} (hs : Cx l) (i b : Bg) : Cx (killL l i b) := Ak7 (Ano b) hs i
theorem As2 (l : List Ent) (i : Bg) (f : Ent → Ent) : (Rq l i f).length = l.length := by simp [Rq]
theorem A3n {l : List Ent} (hs : Cx l) {i : Bg} (h : Ou l i = true) : ∃ y, l[Fv l i]? = some y ∧ Fx l i = some y := by
 obtain ⟨x, hx⟩ := A3o.1 h;refine ⟨x, ?_, hx⟩;have := Oh hs i;rw [hx] at this;cases h1 : l[Fv l i]? with
 | none => rw [h1] at this; cases this
 | some y =>
   rw [h1] at this;simp only at this;split at this
   · cases this; rfl
   · cases this
set_option maxHeartbeats 1000000 in
theorem Afo {a : SV} {f : Bool} {l : List Ent} (i b : Bg) {h d} (hx : Cl h [a, .vec 2 [.i .i64 i.1, .i .u32 i.2], .vec 2 [.i .i64 b.1, .i .u32 b.2]] = [.pv (.sl f 15 (l.map Bb)), .vec 2 [.i .i64 i.1, .i .u32 i.2], .vec 2 [.i .i64 b.1, .i .u32 b.2]]) (hl : Ba [a, .vec 2 [.i .i64 i.1, .i .u32 i.2], .vec 2 [.i .i64 b.1, .i .u32 b.2]] = true) (hs : Cx l) (hn : l.length ≤ 1000) :
 FunOk Try.prog 80 [a, .vec 2 [.i .i64 i.1, .i .u32 i.2], .vec 2 [.i .i64 b.1, .i .u32 b.2]] h d (.os d) [.new d (.row 15 ((killL l i b).map Bb))] := by
 refine Af9 Am fn80 (by simp) hl (.inr (Ja _)) fun F => ?_;rw [hx];have hfl := Ja l;simp (disch := omega) only [ir80, go_sem];refine Aa (Ob (es := l.map Bb) rfl rfl (.inr rfl) (by simp; omega) hfl) ?_;simp (disch := omega) only [go_sem];refine Aa (Avr (l := l) i rfl rfl hs hn) ?_;by_cases hi : Ou l i = true
 · obtain ⟨y, h1, h2⟩ := A3n hs hi;have hp : Fv l i < l.length := (List.getElem?_eq_some_iff.1 h1).1;have he : (l.map Bb)[Fv l i]? = some (Bb y) := by rw [List.getElem?_map, h1]; rfl
   have hg : (l.map Bb).getD (Fv l i) [] = Bb y := by rw [List.getD_eq_getElem?_getD, he]; rfl
   have hw := Agy y (Bq y.gone b.1 b.2);have e : (l.map Bb).set (Fv l i) (Bb { y with gone := Bq y.gone b.1 b.2 }) = (killL l i b).map Bb := by
    rw [Zd, ← List.map_set];congr 1;exact Arx hs (f := La b) h2
   have hv := Bw (Bq y.gone b.1 b.2);simp (disch := omega) only [hi, List.length_map, he, Anl, go_sem];refine Aa (X1 _ _ _) ?_;simp (disch := omega) only [hg, hw, e, List.length_map, go_sem]
 · have hi' : Ou l i = false := by simpa using hi
   have e : killL l i b = l := Wb (Em.1 (Af1.1 hi'));simp (disch := omega) only [hi', e, go_sem]
theorem O5 (a : Bg) : C5 [K1.int .i64, K1.int .u32] [.i .i64 a.1, .i .u32 a.2] = True := eq_true rfl
theorem Ac1 {a b : Bg} (h : a = b) : Rz [.i .i64 a.1, .i .u32 a.2] [.i .i64 b.1, .i .u32 b.2] = true := by subst h; simp [Rz]
theorem Xy {a b : Bg} (h : a ≠ b) : Rz [.i .i64 a.1, .i .u32 a.2] [.i .i64 b.1, .i .u32 b.2] = false := Ry fun e => h (Prod.ext e.1 e.2)
structure SlI where
 f : Bool
 z : Nat
 l : List Bg
def SlI.pv (g : SlI) : PV := .sl g.f g.z (g.l.map Ev)
def SlI.ok (g : SlI) : Prop := g.l = [] ∨ g.z = 2
def SlI.nil : SlI := ⟨true, 0, []⟩
structure Evt where
 rep : Int
 seq : Nat
 dep : Vc
 kind : Int
 orep : Int
 oseq : Nat
 drep : Int
 dseq : Nat
 name : List UInt8
 gone : SlI
 base : SlI
 off : Int
 data : List UInt8
 ward : Int
def Bp (e : Evt) : List PV := [.i .i64 e.rep, .i .u32 e.seq] ++ vE e.dep ++ [.i .i64 e.kind, .i .i64 e.orep, .i .u32 e.oseq, .i .i64 e.drep, .i .u32 e.dseq, .s e.name, e.gone.pv, e.base.pv, .i .i64 e.off, .s e.data, .i .i64 e.ward]
theorem Be (e : Evt) : (Bp e).length = 21 := by simp [Bp, vE, Cb]
theorem G2 (e : Evt) (K : KK) : LoadK (some (Bp e)) 0 1 false K = K (.pv (.i .i64 e.rep)) [] := by
 simp only [LoadK, Gr, eq_iff_iff];exact ⟨fun h => h.2.2, fun h => ⟨by simp [Bp, vE, Cb], .inr trivial, h⟩⟩
theorem Nd (e : Evt) (K : KK) : LoadK (some (Bp e)) 1 1 false K = K (.pv (.i .u32 e.seq)) [] := by
 simp only [LoadK, Gr, eq_iff_iff];exact ⟨fun h => h.2.2, fun h => ⟨by simp [Bp, vE, Cb], .inr trivial, h⟩⟩
theorem Az (e : Evt) (K : KK) : LoadK (some (Bp e)) 10 1 false K = K (.pv (.i .i64 e.kind)) [] := by
 simp only [LoadK, Gr, eq_iff_iff];exact ⟨fun h => h.2.2, fun h => ⟨by simp [Bp, vE, Cb], .inr trivial, h⟩⟩
theorem En (e : Evt) (K : KK) : LoadK (some (Bp e)) 15 1 false K = K (.pv (.s e.name)) [] := by
 simp only [LoadK, Gr, eq_iff_iff];exact ⟨fun h => h.2.2, fun h => ⟨by simp [Bp, vE, Cb], .inr trivial, h⟩⟩
theorem H9 (e : Evt) (K : KK) : LoadK (some (Bp e)) 16 1 false K = K (.pv (e.gone.pv)) [] := by
 simp only [LoadK, Gr, eq_iff_iff];exact ⟨fun h => h.2.2, fun h => ⟨by simp [Bp, vE, Cb], .inr trivial, h⟩⟩
theorem Gh (e : Evt) (K : KK) : LoadK (some (Bp e)) 17 1 false K = K (.pv (e.base.pv)) [] := by
 simp only [LoadK, Gr, eq_iff_iff];exact ⟨fun h => h.2.2, fun h => ⟨by simp [Bp, vE, Cb], .inr trivial, h⟩⟩
theorem Ok (e : Evt) (K : KK) : LoadK (some (Bp e)) 18 1 false K = K (.pv (.i .i64 e.off)) [] := by
 simp only [LoadK, Gr, eq_iff_iff];exact ⟨fun h => h.2.2, fun h => ⟨by simp [Bp, vE, Cb], .inr trivial, h⟩⟩
theorem H8 (e : Evt) (K : KK) : LoadK (some (Bp e)) 19 1 false K = K (.pv (.s e.data)) [] := by
 simp only [LoadK, Gr, eq_iff_iff];exact ⟨fun h => h.2.2, fun h => ⟨by simp [Bp, vE, Cb], .inr trivial, h⟩⟩
theorem Afx (e : Evt) (K : KK) : LoadK (some (Bp e)) 20 1 false K = K (.pv (.i .i64 e.ward)) [] := by
 simp only [LoadK, Gr, eq_iff_iff];exact ⟨fun h => h.2.2, fun h => ⟨by simp [Bp, vE, Cb], .inr trivial, h⟩⟩
theorem Ch (e : Evt) (K : KK) : LoadK (some (Bp e)) 0 2 true K = K (.vec 2 ([.i .i64 e.rep, .i .u32 e.seq])) [] := by
 simp only [LoadK, Gr, eq_iff_iff];exact ⟨fun h => h.2.2, fun h => ⟨by simp [Bp, vE, Cb], .inl trivial, h⟩⟩
theorem I5 (e : Evt) (K : KK) : LoadK (some (Bp e)) 2 8 true K = K (.vec 8 (vE e.dep)) [] := by
 simp only [LoadK, Gr, eq_iff_iff];exact ⟨fun h => h.2.2, fun h => ⟨by simp [Bp, vE, Cb], .inl trivial, h⟩⟩
theorem C7 (e : Evt) (K : KK) : LoadK (some (Bp e)) 11 2 true K = K (.vec 2 ([.i .i64 e.orep, .i .u32 e.oseq])) [] := by
 simp only [LoadK, Gr, eq_iff_iff];exact ⟨fun h => h.2.2, fun h => ⟨by simp [Bp, vE, Cb], .inl trivial, h⟩⟩
theorem Ef (e : Evt) (K : KK) : LoadK (some (Bp e)) 13 2 true K = K (.vec 2 ([.i .i64 e.drep, .i .u32 e.dseq])) [] := by
 simp only [LoadK, Gr, eq_iff_iff];exact ⟨fun h => h.2.2, fun h => ⟨by simp [Bp, vE, Cb], .inl trivial, h⟩⟩
theorem B9 (e : Evt) (K : KK) : LoadK (some (Bp e)) 0 21 true K = K (.vec 21 (Bp e)) [] := T0 (Be e) K
theorem Jz (e : Evt) {j : Nat} (h : j < 8) (K : KK) : LoadK (some (Bp e)) (2 + j) 1 false K = K (.pv (.i .u32 (e.dep j))) [] := by
 have : j = 0 ∨ j = 1 ∨ j = 2 ∨ j = 3 ∨ j = 4 ∨ j = 5 ∨ j = 6 ∨ j = 7 := by omega
 simp only [LoadK, Gr, eq_iff_iff];rcases this with rfl | rfl | rfl | rfl | rfl | rfl | rfl | rfl <;> exact ⟨fun h => h.2.2, fun h => ⟨by simp [Bp, vE, Cb], .inr trivial, h⟩⟩
theorem Awm (e : Evt) (r : Int) (q : Nat) : splice (Bp e) 11 [.i .i64 r, .i .u32 q] = Bp { e with orep := r, oseq := q } := rfl
theorem Awn (e : Evt) (r : Int) (q : Nat) : splice (Bp e) 13 [.i .i64 r, .i .u32 q] = Bp { e with drep := r, dseq := q } := rfl
theorem H0 (e : Evt) (s : List UInt8) : splice (Bp e) 15 [.s s] = Bp { e with name := s } := rfl
theorem Arm (e : Evt) (f : Bool) (z : Nat) (l : List Bg) : splice (Bp e) 16 [.sl f z (l.map Ev)] = Bp { e with gone := ⟨f, z, l⟩ } := rfl
theorem Arn (e : Evt) (f : Bool) (z : Nat) (l : List Bg) : splice (Bp e) 17 [.sl f z (l.map Ev)] = Bp { e with base := ⟨f, z, l⟩ } := rfl
theorem Kv (e : Evt) (n : Int) : splice (Bp e) 18 [.i .i64 n] = Bp { e with off := n } := rfl
theorem H2 (e : Evt) (s : List UInt8) : splice (Bp e) 19 [.s s] = Bp { e with data := s } := rfl
theorem Hy (e : Evt) (n : Int) : splice (Bp e) 20 [.i .i64 n] = Bp { e with ward := n } := rfl
theorem Hz (e : Evt) : splice (Bp e) 11 [.i .i64 0, .i .u32 0] = Bp { e with orep := 0, oseq := 0 } := Awm e 0 0
theorem H1 (e : Evt) : splice (Bp e) 13 [.i .i64 0, .i .u32 0] = Bp { e with drep := 0, dseq := 0 } := Awn e 0 0
theorem Gl (e : Evt) : splice (Bp e) 16 [.sl true 0 []] = Bp { e with gone := .nil } := Arm e true 0 []
theorem Gm (e : Evt) : splice (Bp e) 17 [.sl true 0 []] = Bp { e with base := .nil } := Arn e true 0 []
theorem Dk (e e' : Evt) : splice (Bp e) 0 (Bp e') = Bp e' := rfl
attribute [go_sem] G2 Nd Az En H9 Gh Ok H8 Afx Ch I5 C7 Ef B9 Be SlI.pv E0 List.length_map
def Bv (e : Evt) : Evt :=
 if e.kind = 1 ∨ e.kind = 2 then { e with drep := 0, dseq := 0, name := [] }
 else if e.kind = 3 then { e with orep := 0, oseq := 0, base := .nil, off := 0, data := [] }
 else if e.kind = 4 then { e with orep := 0, oseq := 0, base := .nil, off := 0 }
 else if e.kind = 5 then { e with orep := 0, oseq := 0, base := .nil, data := [] }
 else if e.kind = 6 then { e with orep := 0, oseq := 0, gone := .nil }
 else if e.kind = 7 then { e with orep := 0, oseq := 0, gone := .nil, drep := 0, dseq := 0, name := [] }
 else if e.kind = 8 then { e with ward := 0 }
 else e
set_option maxHeartbeats 4000000 in
theorem Ax0 (e : Evt) {h d} : FunOk Try.prog 58 [.vec 21 (Bp e)] h d (.vec 21 (Bp (Bv e))) [] := by
 refine A5 Am fn58 (by simp) rfl rfl fun F => ?_;have hl := Be e;by_cases h1 : e.kind = 1
 · have eb : Bv e = { e with drep := 0, dseq := 0, name := [] } := by simp [Bv, h1]
   simp (disch := omega) only [ir58, Az, h1, H1, H0, Hz, Gm, Gl, Kv, H2, Hy, B9, Be, eb, go_sem]
 by_cases h2 : e.kind = 2
 · have eb : Bv e = { e with drep := 0, dseq := 0, name := [] } := by simp [Bv, h2]
   simp (disch := omega) only [ir58, Az, h2, H1, H0, Hz, Gm, Gl, Kv, H2, Hy, B9, Be, eb, go_sem]
 by_cases h3 : e.kind = 3
 · have eb : Bv e = { e with orep := 0, oseq := 0, base := .nil, off := 0, data := [] } := by simp [Bv, h3]
   simp (disch := omega) only [ir58, Az, h3, H1, H0, Hz, Gm, Gl, Kv, H2, Hy, B9, Be, eb, go_sem]
 by_cases h4 : e.kind = 4
 · have eb : Bv e = { e with orep := 0, oseq := 0, base := .nil, off := 0 } := by simp [Bv, h4]
   simp (disch := omega) only [ir58, Az, h4, H1, H0, Hz, Gm, Gl, Kv, H2, Hy, B9, Be, eb, go_sem]
 by_cases h5 : e.kind = 5
 · have eb : Bv e = { e with orep := 0, oseq := 0, base := .nil, data := [] } := by simp [Bv, h5]
   simp (disch := omega) only [ir58, Az, h5, H1, H0, Hz, Gm, Gl, Kv, H2, Hy, B9, Be, eb, go_sem]
 by_cases h6 : e.kind = 6
 · have eb : Bv e = { e with orep := 0, oseq := 0, gone := .nil } := by simp [Bv, h6]
   simp (disch := omega) only [ir58, Az, h6, H1, H0, Hz, Gm, Gl, Kv, H2, Hy, B9, Be, eb, go_sem]
 by_cases h7 : e.kind = 7
 · have eb : Bv e = { e with orep := 0, oseq := 0, gone := .nil, drep := 0, dseq := 0, name := [] } := by simp [Bv, h7]
   simp (disch := omega) only [ir58, Az, h7, H1, H0, Hz, Gm, Gl, Kv, H2, Hy, B9, Be, eb, go_sem]
 by_cases h8 : e.kind = 8
 · have eb : Bv e = { e with ward := 0 } := by simp [Bv, h8]
   simp (disch := omega) only [ir58, Az, h8, H1, H0, Hz, Gm, Gl, Kv, H2, Hy, B9, Be, eb, go_sem]
 have eb : Bv e = e := by simp [Bv, h1, h2, h3, h4, h5, h6, h7, h8]
 simp (disch := omega) only [ir58, Az, h1, h2, h3, h4, h5, h6, h7, h8, B9, Be, eb, go_sem]
end Go.Proofs.Ythmjebkldgdeiaa.Fw
namespace Go.Proofs.Ythmjebkldgdeiaa.Fw
open Go.RowKit Go.Proofs
def Gk (r : Int) (q : Nat) : Bool := decide (r = 0 ∧ q = 0)
theorem Ao (r : Int) (q : Nat) : C5 [K1.int .i64, K1.int .u32] [.i .i64 r, .i .u32 q] = True := eq_true rfl
theorem Ah : C5 [K1.int .i64, K1.int .u32] [.i .i64 0, .i .u32 0] = True := eq_true rfl
theorem Aj (r : Int) (q : Nat) : Rz [.i .i64 r, .i .u32 q] [.i .i64 0, .i .u32 0] = Gk r q := by
 by_cases h : r = 0 ∧ q = 0
 · rw [show Gk r q = true from decide_eq_true h];exact Afi (q' := 0) h
 · rw [show Gk r q = false from decide_eq_false h];exact Ry (q' := 0) h
def Et (e : Evt) : Bool := Gk e.drep e.dseq || Bn e.dep e.drep e.dseq
theorem X2 (e : Evt) {h d} : FunOk Try.prog 60 [.vec 21 (Bp e)] h d (.pv (.b (Et e))) [] := by
 refine A5 Am fn60 (by simp) rfl rfl fun F => ?_;have hl := Be e;cases hz : Gk e.drep e.dseq with
 | true =>
   have eb : Et e = true := by simp [Et, hz]
   simp (disch := omega) only [ir60, Ef, Be, Ao, Ah, Aj, hz, eb, go_sem]
 | false =>
   have eb : Et e = Bn e.dep e.drep e.dseq := by simp [Et, hz]
   simp (disch := omega) only [ir60, Ef, I5, Be, Ao, Ah, Aj, hz, eb, go_sem];refine Aa (E6 _ _ _) ?_;simp (disch := omega) only [go_sem]
def Da (n : Int) : Bool := decide (0 ≤ n ∧ n ≤ 200)
theorem Tq (n : Int) {h d} : FunOk Try.prog 59 [.pv (.i .i64 n)] h d (.pv (.b (Da n))) [] := by
 refine A5 Am fn59 (by simp) rfl rfl fun F => ?_;by_cases h1 : 0 ≤ n
 · have e : Da n = decide (n ≤ 200) := decide_eq_decide.2 (by omega);simp (disch := omega) only [ir59, h1, e, go_sem]
 · have e : Da n = false := decide_eq_false (by omega);simp (disch := omega) only [ir59, h1, e, go_sem]
def Aqq (a : Vc) (l : List Bg) : Prop := ∀ i, (h : i < l.length) → Bn a l[i].1 l[i].2 = true ∧ (0 < i → C8 l[i - 1].1 l[i - 1].2 l[i].1 l[i].2 = true)
open Classical in
noncomputable def Q3 (a : Vc) (l : List Bg) : Bool := decide (Aqq a l)
theorem Ar3 {a : Vc} {l : List Bg} (h : Aqq a l) : Q3 a l = true := by simp [Q3, h]
theorem Aff {a : Vc} {l : List Bg} (h : ¬ Aqq a l) : Q3 a l = false := by simp [Q3, h]
theorem Im (x : Bg) (K : KK) : LoadK (some (Ev x)) 0 2 true K = K (.vec 2 [.i .i64 x.1, .i .u32 x.2]) [] := T0 (by rfl) K
def Ny (f : Bool) (z : Nat) (l : List Bg) (a : Vc) (k : Nat) : FS := mk [(15, .pv (.i .i64 k)), (14, .pv (.i .i64 l.length)), (13, .pv (.sl f z (l.map Ev))), (0, .pv (.sl f z (l.map Ev))), (5, .p 5 0)] [(5, some (.var (.vec 8 (vE a))))]
noncomputable def E1 (l : List Bg) (most : Int) (a : Vc) : Bool := decide ((l.length : Int) ≤ most) && Q3 a l
theorem Ag8 {a : Vc} {l : List Bg} {k : Nat} (hk : ∀ i, (h : i < l.length) → i < k → Bn a l[i].1 l[i].2 = true ∧ (0 < i → C8 l[i - 1].1 l[i - 1].2 l[i].1 l[i].2 = true)) (hlt : k < l.length)
 (h1 : Bn a l[k].1 l[k].2 = true) (h2 : 0 < k → C8 l[k - 1].1 l[k - 1].2 l[k].1 l[k].2 = true) : ∀ i, (h : i < l.length) → i < k + 1 → Bn a l[i].1 l[i].2 = true ∧ (0 < i → C8 l[i - 1].1 l[i - 1].2 l[i].1 l[i].2 = true) := fun i h hi => by
 by_cases e : i = k
 · subst e; exact ⟨h1, h2⟩
 · exact hk i h (by omega)
set_option maxHeartbeats 2000000 in
theorem Aad {f : Bool} {z : Nat} {l : List Bg} {most : Int} {a : Vc} {h d} (hz : l = [] ∨ z = 2) (hn : l.length ≤ 1000) :
 FunOk Try.prog 62 [.pv (.sl f z (l.map Ev)), .pv (.i .i64 most), .vec 8 (vE a)] h d (.pv (.b (E1 l most a))) [] := by
 refine A5 Am fn62 (by simp) rfl rfl fun F => ?_;by_cases hm : most < (l.length : Int)
 · have eb : E1 l most a = false := by
    have : ¬ (l.length : Int) ≤ most := by omega
    simp [E1, this]
   simp (disch := omega) only [ir62, List.length_map, hm, eb, go_sem]
 have eb : E1 l most a = Q3 a l := by
  have : (l.length : Int) ≤ most := by omega
  simp [E1, this]
 rw [eb];simp (disch := omega) only [ir62, List.length_map, hm, go_sem];refine Bd Am (Ny f z l a) (fun k => k ≤ l.length ∧ ∀ i, (h : i < l.length) → i < k → Bn a l[i].1 l[i].2 = true ∧ (0 < i → C8 l[i - 1].1 l[i - 1].2 l[i].1 l[i].2 = true)) (fun k => l.length - k) 0 (by simp) (A2 ?_ ?_) fun k hk => ?_
 · simp (disch := omega) only [List.length_map, go_sem]
 · simp (disch := omega) only [go_sem]
 obtain ⟨hk1, hk2⟩ := hk;by_cases hlt : k < l.length
 · have hz2 : z = 2 := hz.resolve_left fun e => by subst e; simp at hlt
   subst hz2;have he : (l.map Ev)[k]? = some (Ev l[k]) := by simp [hlt]
   have hst := Ag8 hk2 hlt;by_cases hh : Bn a l[k].1 l[k].2 = true
   · by_cases h0 : k = 0
     · subst h0;have e0 : (l.map Ev)[0]? = some (Ev l[0]) := he;simp (disch := omega) only [Ny, List.length_map, he, e0, Im, E0, Int.natCast_zero, go_sem];refine Aa (E6 _ _ _) ?_;simp (disch := omega) only [hh, Int.natCast_zero, go_sem];refine Au (x := (0 : Nat)) (1 : Nat) _ _ rfl ⟨by omega, hst hh (by omega)⟩ (by omega) ?_ ?_
       · simp (disch := omega) only [go_sem]
       · simp (disch := omega) only [go_sem]
     · have hk' : k - 1 < l.length := by omega
       have he' : (l.map Ev)[k - 1]? = some (Ev l[k - 1]) := by simp [hk']
       have ek : ((k : Int) - 1).toNat = k - 1 := by omega
       have hpos : (0 : Int) < k := by omega
       by_cases hlt2 : C8 l[k - 1].1 l[k - 1].2 l[k].1 l[k].2 = true
       · simp (disch := omega) only [Ny, List.length_map, he, he', ek, hpos, Im, E0, go_sem];refine Aa (E6 _ _ _) ?_;simp (disch := omega) only [hh, he, he', ek, hpos, Im, List.length_map, go_sem];refine Aa (K3 _ _ _ _) ?_;simp (disch := omega) only [hlt2, go_sem];refine Au (k + 1) _ _ rfl ⟨by omega, hst hh fun _ => hlt2⟩ (by omega) ?_ ?_
         · simp (disch := omega) only [go_sem]
         · simp (disch := omega) only [go_sem]
       · have hlt3 : C8 l[k - 1].1 l[k - 1].2 l[k].1 l[k].2 = false := by simpa using hlt2
         have er := Aff (a := a) (l := l) fun h => hlt2 ((h k hlt).2 (by omega));simp (disch := omega) only [Ny, List.length_map, he, he', ek, hpos, Im, E0, go_sem];refine Aa (E6 _ _ _) ?_;simp (disch := omega) only [hh, he, he', ek, hpos, Im, List.length_map, go_sem];refine Aa (K3 _ _ _ _) ?_;simp (disch := omega) only [hlt3, er, Ny, go_sem]
   · have hh' : Bn a l[k].1 l[k].2 = false := by simpa using hh
     have er := Aff (a := a) (l := l) fun h => hh (h k hlt).1;simp (disch := omega) only [Ny, List.length_map, he, Im, E0, go_sem];refine Aa (E6 _ _ _) ?_;simp (disch := omega) only [hh', er, Ny, go_sem]
 · obtain rfl : k = l.length := by omega
   have er := Ar3 (a := a) (l := l) fun i h => hk2 i h h;simp (disch := omega) only [Ny, List.length_map, er, Ny, go_sem]
def Cu (e : Evt) (o d g b f t w : Bool) : Bool := (o || Gk e.orep e.oseq) && ((d || (Gk e.drep e.dseq && decide (e.name = []))) && ((g || decide ((e.gone.l.length : Int) = 0)) && ((b || decide ((e.base.l.length : Int) = 0)) && ((f || decide (e.off = 0)) && ((t || decide (e.data = [])) && (w || decide (e.ward = 0)))))))
inductive RdR where
 | skip
 | err (e : Int)
 | val (x : Int) (rest : List UInt8)
theorem Zc (n : Nat) : IntKind.u8.wrap (n : Int) = ((UInt8.ofNat n).toNat : Int) := by
 rw [UInt8.toNat_ofNat'];simp [IntKind.wrap, IntKind.signed, IntKind.bits]
theorem Avg (l p l' p') : Aj2 (.it l p) (.it l' p') = (l = l' ∧ p = p') := (rfl)
attribute [go_sem] Avg
def Tt (b : UInt8) : Bool := decide ((97 ≤ b.toNat ∧ b.toNat ≤ 122) ∨ (65 ≤ b.toNat ∧ b.toNat ≤ 90) ∨ (48 ≤ b.toNat ∧ b.toNat ≤ 57) ∨ b.toNat = 46 ∨ b.toNat = 95 ∨ b.toNat = 45)
def Ep (s : List UInt8) : Bool := decide (1 ≤ s.length ∧ s.length ≤ 12 ∧ s ≠ [46] ∧ s ≠ [46, 46]) && s.all Tt
theorem Ai9 {s : List UInt8} {pos : Nat} (h : pos < s.length) (ha : (s.getD pos 0).toNat < 128) : O7 s pos = ((s.getD pos 0).toNat, 1) := by
 have hs : pos < (⟨s.toArray⟩ : ByteArray).size := by simpa [ByteArray.size] using h
 have e : (⟨s.toArray⟩ : ByteArray)[pos]'hs = s.getD pos 0 := by
  rw [List.getD_eq_getElem?_getD, List.getElem?_eq_getElem h]; rfl
 have := decode_ascii ⟨s.toArray⟩ pos hs (by rw [e]; exact ha);unfold O7;rw [this, e]
theorem Aul {s : List UInt8} {pos : Nat} (h : pos < s.length) (ha : ¬ (s.getD pos 0).toNat < 128) : 128 ≤ (O7 s pos).1 ∧ (O7 s pos).1 < 2147483648 := by
 have hs : pos < (⟨s.toArray⟩ : ByteArray).size := by simpa [ByteArray.size] using h
 have e : (⟨s.toArray⟩ : ByteArray).get! (pos + 0) = s.getD pos 0 := by
  show (⟨s.toArray⟩ : ByteArray).get! pos = _;have : (⟨s.toArray⟩ : ByteArray)[pos]'hs = s.getD pos 0 := by
   rw [List.getD_eq_getElem?_getD, List.getElem?_eq_getElem h]; rfl
  rw [← this];show (s.toArray)[pos]! = (s.toArray)[pos];rw [getElem!_pos]
 unfold O7 Utf8.decode;simp only [e, ha, if_false];unfold Utf8.runeError;split
 · split
   · simp only; omega
   · simp
 · split
   · split
     · rename_i hc; simp only [Bool.and_eq_true, decide_eq_true_eq] at hc ⊢; omega
     · simp
   · split
     · split
       · rename_i hc; simp only [Bool.and_eq_true, decide_eq_true_eq] at hc ⊢; omega
       · simp
     · simp
theorem Ao5 (n : Nat) (h : 128 ≤ n) : (Ur n).length ≤ 4 ∧ 2 ≤ (Ur n).length ∧ 128 ≤ ((Ur n).getD ((Ur n).length - 1) 0).toNat := by
 have key : ∀ c : Nat, 128 ≤ c → ∀ l : List UInt8, l = (if c < 0x80 then [UInt8.ofNat c] else if c < 0x800 then [UInt8.ofNat (0xC0 + c / 64), UInt8.ofNat (0x80 + c % 64)] else if c < 0x10000 then [UInt8.ofNat (0xE0 + c / 4096), UInt8.ofNat (0x80 + c / 64 % 64), UInt8.ofNat (0x80 + c % 64)] else [UInt8.ofNat (0xF0 + c / 262144), UInt8.ofNat (0x80 + c / 4096 % 64), UInt8.ofNat (0x80 + c / 64 % 64), UInt8.ofNat (0x80 + c % 64)]) → l.length ≤ 4 ∧ 2 ≤ l.length ∧ 128 ≤ (l.getD (l.length - 1) 0).toNat := by
  intro c hc l hl;have hb : 128 ≤ (UInt8.ofNat (0x80 + c % 64)).toNat := by rw [UInt8.toNat_ofNat']; omega
  rw [if_neg (by omega)] at hl;split at hl
  · subst hl; exact ⟨by simp, by simp, hb⟩
  · split at hl
    · subst hl; exact ⟨by simp, by simp, hb⟩
    · subst hl; exact ⟨by simp, by simp, hb⟩
 refine key (if Utf8.valid (n : Int) then n else 0xFFFD) (by split <;> omega) _ ?_;unfold Ur Utf8.encode Utf8.runeError;simp only [Int.toNat_natCast];generalize (if Utf8.valid (n : Int) = true then n else 0xFFFD) = c;split
 · rfl
 · split
   · rfl
   · split <;> rfl
theorem A1x (s : List UInt8) (c : UInt8) {h} : Xe Try.prog 106 [.pv (.s s), .pv (.i .u8 c.toNat)] h (.pv (.i .i64 (Lib.indexByte s c))) := by
 intro F N ρ st a w hR hh vs hc;simp only [ConcL] at hc;obtain ⟨v, us, rfl, hv, u, us', rfl, hu, rfl⟩ := hc;have hv := Lb hv;have hu := Dx hu;subst hv; subst hu;refine ⟨_, ?_, Cq⟩;rw [run_callFunc_extern (fn := (Try.prog.funcs[106]?).getD default) (by kernel_rfl) (by kernel_rfl) (by kernel_rfl) (by kernel_rfl) (e := Extern.BytealgIndexByte.indexByte) (by kernel_rfl)];rw [Lib.run_indexByteString];simp
theorem A1y (s : List UInt8) (c : UInt8) {h d} : FunOk Try.prog 103 [.pv (.s s), .pv (.i .u8 c.toNat)] h d (.pv (.i .i64 (Lib.indexByte s c))) [] := by
 refine A5 Am fn103 (by simp) rfl rfl fun F => ?_;simp (disch := omega) only [ir103, go_sem];refine Pa (A1x s c) ?_;simp (disch := omega) only [go_sem]
theorem Axx (s : List UInt8) (c : UInt8) {h d} : FunOk Try.prog 96 [.pv (.s s), .pv (.i .u8 c.toNat)] h d (.pv (.i .i64 (Lib.indexByte s c))) [] := by
 refine A5 Am fn96 (by simp) rfl rfl fun F => ?_;simp (disch := omega) only [ir96, go_sem];refine Aa (A1y s c) ?_;simp (disch := omega) only [go_sem]
def Pn (n : Nat) : Bool := decide (n < 55296 ∨ 57343 < n ∧ n ≤ 1114111)
theorem Ar9 (n : Nat) {h d} : FunOk Try.prog 97 [.pv (.i .i32 n)] h d (.pv (.b (Pn n))) [] := by
 refine A5 Am fn97 (by simp) rfl rfl fun F => ?_;have h0 : (0 : Int) ≤ n := by omega
 by_cases h1 : (n : Int) < 55296
 · have e : Pn n = true := decide_eq_true (by omega);simp (disch := omega) only [ir97, h0, h1, e, go_sem]
 by_cases h2 : (57343 : Int) < n
 · by_cases h3 : (n : Int) ≤ 1114111
   · have e : Pn n = true := decide_eq_true (by omega);simp (disch := omega) only [ir97, h0, h1, h2, h3, e, go_sem]
   · have e : Pn n = false := decide_eq_false (by omega);simp (disch := omega) only [ir97, h0, h1, h2, h3, e, go_sem]
 · have e : Pn n = false := decide_eq_false (by omega);simp (disch := omega) only [ir97, h0, h1, h2, e, go_sem]
def ixD (n : Nat) : Int := if n < 128 then Lib.indexByte [46, 95, 45] (UInt8.ofNat n) else -1
def Acj (k : Nat) : FS := mk [(175, .p 175 0), (0, .pv (.s [46, 95, 45]))] [(175, some (.it [46, 95, 45] k))]
def Vx (rs : List UInt8) (i : Int) (_ : Unit) : FS := mk [(9, .pv (.i .i64 i)), (8, .pv (.i .i64 i)), (7, .pv (.s rs)), (10, .pv (.i .i64 0)), (0, .pv (.s [46, 95, 45]))] []
theorem Ai2 (n : Nat) (h : 128 ≤ n) : (∃ a b, Ur n = [a, b] ∧ 128 ≤ b.toNat) ∨ (∃ a b c, Ur n = [a, b, c] ∧ 128 ≤ c.toNat) ∨ (∃ a b c d, Ur n = [a, b, c, d] ∧ 128 ≤ d.toNat) := by
 obtain ⟨h1, h2, h3⟩ := Ao5 n h;generalize Ur n = l at *
 match l, h1, h2, h3 with
 | [a, b], _, _, h3 => exact .inl ⟨a, b, rfl, h3⟩
 | [a, b, c], _, _, h3 => exact .inr (.inl ⟨a, b, c, rfl, h3⟩)
 | [a, b, c, d], _, _, h3 => exact .inr (.inr ⟨a, b, c, d, rfl, h3⟩)
 | [], _, h2, _ => simp at h2
 | [a], _, h2, _ => simp at h2
 | a :: b :: c :: d :: e :: r, h1, _, _ => simp at h1
theorem Af3 {s : List UInt8} {b : UInt8} (h : s = [95, 45] ∨ s = [45] ∨ s = []) (hb : 128 ≤ b.toNat) : Lib.indexByte s b = -1 := by
 have ne : ∀ c : UInt8, c.toNat < 128 → (c == b) = false := fun c hc => by
  rw [beq_eq_false_iff_ne]; intro e; subst e; omega
 rcases h with rfl | rfl | rfl <;> simp [Lib.indexByte, ne 95 (by decide), ne 45 (by decide)]
set_option maxHeartbeats 4000000 in
theorem Aac (n : Nat) (hn : n < 2147483648) {h d} : FunOk Try.prog 86 [.pv (.s [46, 95, 45]), .pv (.i .i32 n)] h d (.pv (.i .i64 (ixD n))) [] := by
 refine A5 Am fn86 (by simp) rfl rfl fun F => ?_;have h0 : (0 : Int) ≤ n := by omega
 by_cases h1 : (n : Int) < 128
 · have e : ixD n = Lib.indexByte [46, 95, 45] (UInt8.ofNat n) := by unfold ixD; rw [if_pos (by omega)]
   have ew : IntKind.u8.wrap (n : Int) = ((UInt8.ofNat n).toNat : Int) := Zc _;simp (disch := omega) only [ir86, h0, h1, ew, go_sem];refine Aa (Axx _ _) ?_;simp (disch := omega) only [e, go_sem]
 have e : ixD n = -1 := by unfold ixD; rw [if_neg (by omega)]
 by_cases h2 : (n : Int) = 65533
 · simp (disch := omega) only [ir86, h0, h1, h2, go_sem];have hl3 : (([46, 95, 45] : List UInt8).length) = 3 := rfl;have d0 : O7 [46, 95, 45] 0 = (46, 1) := by decide
   have d1 : O7 [46, 95, 45] 1 = (95, 1) := by decide
   have d2 : O7 [46, 95, 45] 2 = (45, 1) := by decide
   refine Bd Am Acj (fun k => k ≤ 3) (fun k => 3 - k) 0 (by omega) (A2 ?_ ?_) fun k hk => ?_
   · simp (disch := omega) only [go_sem]
   · simp (disch := omega) only [go_sem]
   by_cases hlt : k < 3
   · have : k = 0 ∨ k = 1 ∨ k = 2 := by omega
     rcases this with rfl | rfl | rfl
     all_goals simp (disch := omega) only [Acj, hl3, d0, d1, d2, go_sem]
     · refine Au (x := (0 : Nat)) (1 : Nat) _ _ rfl (by omega) (by omega) ?_ ?_
       · simp (disch := omega) only [go_sem]
       · simp (disch := omega) only [go_sem]
     · refine Au (x := (1 : Nat)) (2 : Nat) _ _ rfl (by omega) (by omega) ?_ ?_
       · simp (disch := omega) only [go_sem]
       · simp (disch := omega) only [go_sem]
     · refine Au (x := (2 : Nat)) (3 : Nat) _ _ rfl (by omega) (by omega) ?_ ?_
       · simp (disch := omega) only [go_sem]
       · simp (disch := omega) only [go_sem]
   · obtain rfl : k = 3 := by omega
     simp (disch := omega) only [Acj, hl3, e, go_sem]
 · simp (disch := omega) only [ir86, h0, h1, h2, go_sem];refine Aa (Ar9 n) ?_;cases hv : Pn n with
   | false => simp (disch := omega) only [hv, e, go_sem]
   | true =>
     have hl3 : (([46, 95, 45] : List UInt8).length : Int) = 3 := rfl;rcases Ai2 n (by omega) with ⟨a, b, he, hb⟩ | ⟨a, b, c, he, hb⟩ | ⟨a, b, c, d, he, hb⟩
     ·
      have hlen : (([a, b] : List UInt8).length : Int) = 2 := rfl;have hg : ((([46, 95, 45] : List UInt8).getD (Int.toNat 1) 0).toNat : Int) = 95 := rfl;have hg' : ([a, b] : List UInt8).getD (Int.toNat 1) 0 = b := rfl;have hne : ¬ (95 : Int) = (b.toNat : Int) := by omega
      have hdr : List.drop ((1 : Int) + 1).toNat (List.take 3 ([46, 95, 45] : List UInt8)) = [45] := rfl;have hib : Lib.indexByte [45] b = -1 := Af3 (by simp) hb;simp (disch := omega) only [hv, he, hlen, go_sem];refine Bd Am (Vx [a, b] 1) (fun _ => True) (fun _ => 0) () trivial (A2 ?_ ?_) fun _ _ => ?_
      · simp (disch := omega) only [go_sem]
      · simp (disch := omega) only [go_sem]
      simp (disch := omega) only [Vx, hl3, hlen, hg, hg', hne, hdr, go_sem];refine Aa (Axx [45] b) ?_;simp (disch := omega) only [hib, e, go_sem]
     ·
      have hlen : (([a, b, c] : List UInt8).length : Int) = 3 := rfl;have hg : ((([46, 95, 45] : List UInt8).getD (Int.toNat 2) 0).toNat : Int) = 45 := rfl;have hg' : ([a, b, c] : List UInt8).getD (Int.toNat 2) 0 = c := rfl;have hne : ¬ (45 : Int) = (c.toNat : Int) := by omega
      have hdr : List.drop ((2 : Int) + 1).toNat (List.take 3 ([46, 95, 45] : List UInt8)) = [] := rfl;have hib : Lib.indexByte [] c = -1 := Af3 (by simp) hb;simp (disch := omega) only [hv, he, hlen, go_sem];refine Bd Am (Vx [a, b, c] 2) (fun _ => True) (fun _ => 0) () trivial (A2 ?_ ?_) fun _ _ => ?_
      · simp (disch := omega) only [go_sem]
      · simp (disch := omega) only [go_sem]
      simp (disch := omega) only [Vx, hl3, hlen, hg, hg', hne, hdr, go_sem];refine Aa (Axx [] c) ?_;simp (disch := omega) only [hib, e, go_sem]
     · have hlen : (([a, b, c, d] : List UInt8).length : Int) = 4 := rfl;simp (disch := omega) only [hv, he, hlen, go_sem];refine Bd Am (Vx [a, b, c, d] 3) (fun _ => True) (fun _ => 0) () trivial (A2 ?_ ?_) fun _ _ => ?_
       · simp (disch := omega) only [go_sem]
       · simp (disch := omega) only [go_sem]
       simp (disch := omega) only [Vx, hl3, hlen, e, go_sem]
def Ai6 (n : Nat) : Bool := decide (n = 46 ∨ n = 95 ∨ n = 45)
theorem Ath (n : Nat) : decide (0 ≤ ixD n) = Ai6 n := by
 by_cases h : n < 128
 · have : ∀ m, m < 128 → decide (0 ≤ ixD m) = Ai6 m := by decide
   exact this n h
 · have e : ixD n = -1 := by unfold ixD; rw [if_neg h]
   rw [e];have : ¬ (n = 46 ∨ n = 95 ∨ n = 45) := by omega
   simp [Ai6]; omega
theorem Hn (n : Nat) (hn : n < 2147483648) {h d} : FunOk Try.prog 71 [.pv (.s [46, 95, 45]), .pv (.i .i32 n)] h d (.pv (.b (Ai6 n))) [] := by
 refine A5 Am fn71 (by simp) rfl rfl fun F => ?_;have e := Ath n;simp (disch := omega) only [ir71, go_sem];refine Aa (Aac n hn) ?_;simp (disch := omega) only [e, go_sem]
def Aar (n : Nat) : Bool := decide ((97 ≤ n ∧ n ≤ 122) ∨ (65 ≤ n ∧ n ≤ 90))
theorem Z9 (n : Nat) {h d} : FunOk Try.prog 70 [.pv (.i .i32 n)] h d (.pv (.b (Aar n))) [] := by
 refine A5 Am fn70 (by simp) rfl rfl fun F => ?_;have : n < 65 ∨ (65 ≤ n ∧ n ≤ 90) ∨ (91 ≤ n ∧ n ≤ 96) ∨ (97 ≤ n ∧ n ≤ 122) ∨ 123 ≤ n := by omega
 rcases this with h1 | h1 | h1 | h1 | h1
 · have e : Aar n = false := decide_eq_false (by omega);simp (disch := omega) only [ir70, e, go_sem]
 · have e : Aar n = true := decide_eq_true (by omega);simp (disch := omega) only [ir70, e, go_sem]
 · have e : Aar n = false := decide_eq_false (by omega);simp (disch := omega) only [ir70, e, go_sem]
 · have e : Aar n = true := decide_eq_true (by omega);simp (disch := omega) only [ir70, e, go_sem]
 · have e : Aar n = false := decide_eq_false (by omega);simp (disch := omega) only [ir70, e, go_sem]
theorem Aaj {s : List UInt8} {k : Nat} (hk : k < s.length) (h : Tt (s.getD k 0) = false) : Ep s = false := by
 have hm : s.getD k 0 ∈ s := by rw [List.getD_eq_getElem?_getD, List.getElem?_eq_getElem hk]; exact List.getElem_mem hk
 unfold Ep;rw [show s.all Tt = false from by rw [List.all_eq_false]; exact ⟨_, hm, by rw [h]; decide⟩, Bool.and_false]
theorem Aht {s : List UInt8} (h1 : 1 ≤ s.length) (h2 : s.length ≤ 12) (h3 : s ≠ [46]) (h4 : s ≠ [46, 46]) (h : ∀ k, k < s.length → Tt (s.getD k 0) = true) : Ep s = true := by
 unfold Ep;rw [decide_eq_true ⟨h1, h2, h3, h4⟩, Bool.true_and, List.all_eq_true];intro b hb;obtain ⟨k, hk, rfl⟩ := List.getElem_of_mem hb;have := h k hk
 rwa [List.getD_eq_getElem?_getD, List.getElem?_eq_getElem hk] at this
theorem X7 {s : List UInt8} (h : ¬ (1 ≤ s.length ∧ s.length ≤ 12 ∧ s ≠ [46] ∧ s ≠ [46, 46])) : Ep s = false := by
 unfold Ep; rw [decide_eq_false h, Bool.false_and]
def Xo (s : List UInt8) (k : Nat) : FS := mk [(22, .p 22 0), (0, .pv (.s s))] [(22, some (.it s k))]
set_option maxHeartbeats 4000000 in
theorem Ac4 (s : List UInt8) {h d} : FunOk Try.prog 61 [.pv (.s s)] h d (.pv (.b (Ep s))) [] := by
 refine A5 Am fn61 (by simp) rfl rfl fun F => ?_;by_cases h1 : s = []
 · subst h1;have e : Ep [] = false := X7 (by simp);have hl0 : (([] : List UInt8).length : Int) = 0 := rfl;simp (disch := omega) only [ir61, hl0, e, go_sem]
 have h1' : 1 ≤ s.length := List.length_pos_iff.2 h1;by_cases h2 : 12 < (s.length : Int)
 · have e : Ep s = false := X7 (by omega);simp (disch := omega) only [ir61, h1, h2, e, go_sem]
 by_cases h3 : s = [46]
 · subst h3;have e : Ep [46] = false := X7 (fun h => h.2.2.1 rfl);have hl0 : (([46] : List UInt8).length : Int) = 1 := rfl;simp (disch := omega) only [ir61, h1, hl0, e, go_sem]
 by_cases h4 : s = [46, 46]
 · subst h4;have e : Ep [46, 46] = false := X7 (fun h => h.2.2.2 rfl);have hl0 : (([46, 46] : List UInt8).length : Int) = 2 := rfl;simp (disch := omega) only [ir61, h1, h3, hl0, e, go_sem]
 simp (disch := omega) only [ir61, h1, h2, h3, h4, go_sem];refine Bd Am (Xo s) (fun k => k ≤ s.length ∧ ∀ j, j < k → Tt (s.getD j 0) = true) (fun k => s.length - k) 0 (by simp) (A2 ?_ ?_) fun k hk => ?_
 · simp (disch := omega) only [go_sem]
 · simp (disch := omega) only [go_sem]
 obtain ⟨hk1, hk2⟩ := hk;by_cases hlt : k < s.length
 · by_cases ha : (s.getD k 0).toNat < 128
   · have hd := Ai9 hlt ha;have hgo : Tt (s.getD k 0) = true → (k + 1 ≤ s.length ∧ ∀ j, j < k + 1 → Tt (s.getD j 0) = true) := fun h => ⟨hlt, fun j hj => by
      by_cases e : j = k
      · subst e; exact h
      · exact hk2 j (by omega)⟩
     have hbad := fun h => Aaj (s := s) hlt h;generalize hb : s.getD k 0 = b at *;simp (disch := omega) only [Xo, hd, go_sem];refine Aa (Z9 _) ?_;cases hL : Aar b.toNat with
     | true =>
       have hL' : (97 ≤ b.toNat ∧ b.toNat ≤ 122) ∨ (65 ≤ b.toNat ∧ b.toNat ≤ 90) := of_decide_eq_true hL;simp (disch := omega) only [hL, go_sem];refine Au (k + 1) _ _ rfl (hgo (decide_eq_true (by omega))) (by omega) ?_ ?_
       · simp (disch := omega) only [go_sem]
       · simp (disch := omega) only [go_sem]
     | false =>
       have hL' : ¬ ((97 ≤ b.toNat ∧ b.toNat ≤ 122) ∨ (65 ≤ b.toNat ∧ b.toNat ≤ 90)) := of_decide_eq_false hL;by_cases hdg : 48 ≤ b.toNat ∧ b.toNat ≤ 57
       · simp (disch := omega) only [hL, go_sem];refine Au (k + 1) _ _ rfl (hgo (decide_eq_true (by omega))) (by omega) ?_ ?_
         · simp (disch := omega) only [go_sem]
         · simp (disch := omega) only [go_sem]
       · have ht : b.toNat < 48 ∨ (48 ≤ b.toNat ∧ 57 < b.toNat) := by omega
         cases hdt : Ai6 b.toNat with
         | true =>
           have hdt' : b.toNat = 46 ∨ b.toNat = 95 ∨ b.toNat = 45 := of_decide_eq_true hdt;have hg := hgo (decide_eq_true (by omega));rcases ht with ht | ht
           all_goals simp (disch := omega) only [hL, go_sem]
           all_goals refine Aa (Hn b.toNat (by omega)) ?_
           all_goals simp (disch := omega) only [hdt, go_sem]
           all_goals refine Au (k + 1) _ _ rfl hg (by omega) ?_ ?_
           all_goals simp (disch := omega) only [go_sem]
         | false =>
           have hdt' : ¬ (b.toNat = 46 ∨ b.toNat = 95 ∨ b.toNat = 45) := of_decide_eq_false hdt;have hg := hbad (decide_eq_false (by omega));rcases ht with ht | ht
           all_goals simp (disch := omega) only [hL, go_sem]
           all_goals refine Aa (Hn b.toNat (by omega)) ?_
           all_goals simp (disch := omega) only [hdt, hg, go_sem]
   · obtain ⟨hd1, hd2⟩ := Aul hlt ha;have hg := Aaj (s := s) hlt (decide_eq_false (by omega));generalize hc : (O7 s k).1 = c at *;have hL : Aar c = false := decide_eq_false (by omega);have hdt : Ai6 c = false := decide_eq_false (by omega);simp (disch := omega) only [Xo, hc, go_sem];refine Aa (Z9 _) ?_;simp (disch := omega) only [hL, go_sem];refine Aa (Hn c hd2) ?_;simp (disch := omega) only [hdt, hg, go_sem]
 · obtain rfl : k = s.length := by omega
   have e := Aht h1' (by omega) h3 h4 hk2;simp (disch := omega) only [Xo, e, go_sem]
end Go.Proofs.Ythmjebkldgdeiaa.Fw
namespace Go.Proofs.Ythmjebkldgdeiaa.Fw
open Go.RowKit Go.Proofs
def Vf (e : Evt) : Prop := 1 ≤ e.rep ∧ e.rep ≤ 8 ∧ 1 ≤ e.seq ∧ e.seq ≤ 1048576 ∧ e.dep (e.rep - 1).toNat + 1 = e.seq ∧ 1 ≤ e.kind ∧ e.kind ≤ 9
def Aj3 (e : Evt) : Prop := ∀ i, i < 8 → e.dep i ≤ 1048576
def Bx (b : Evt) : Bool := Gk b.orep b.oseq && (Gk b.drep b.dseq && (decide (b.name = []) && (decide ((b.gone.l.length : Int) = 0) && (decide ((b.base.l.length : Int) = 0) && (decide (b.off = 0) && (decide (b.data = []) && decide (b.ward = 0)))))))
noncomputable def Er (e : Evt) : Bool :=
 if e.kind = 1 ∨ e.kind = 2 then (Et e && (Ep e.name))
 else if e.kind = 3 then (Bn e.dep e.orep e.oseq && (E1 e.base.l 1 e.dep && (Da (e.off) && (decide ((1 : Int) ≤ (e.data.length : Int)) && (Da ((e.data.length : Int)) && (Da (e.off + (e.data.length : Int))))))))
 else if e.kind = 4 then (Bn e.dep e.orep e.oseq && (E1 e.base.l 1 e.dep && (Da (e.off))))
 else if e.kind = 5 then (Bn e.dep e.orep e.oseq && (E1 e.base.l 8 e.dep && (decide ((2 : Int) ≤ (e.base.l.length : Int)) && (Da ((e.data.length : Int))))))
 else if e.kind = 6 then (Bn e.dep e.orep e.oseq && (E1 e.gone.l 8 e.dep))
 else if e.kind = 7 then (Bn e.dep e.orep e.oseq && (E1 e.gone.l 8 e.dep && (Et e && (Ep e.name))))
 else if e.kind = 8 then (decide (1 ≤ e.ward) && (decide (e.ward ≤ 4)))
 else true
open Classical in
noncomputable def Bt (e : Evt) : Bool := decide (Vf e) && (decide (Aj3 e) && (Bx (Bv e) && Er e))
theorem Kb {e : Evt} (h : ¬ Vf e) : Bt e = false := by simp [Bt, h]
theorem Aur {e : Evt} (h : ¬ Aj3 e) : Bt e = false := by simp [Bt, h]
theorem Aup {e : Evt} (h : Bx (Bv e) = false) : Bt e = false := by simp [Bt, h]
theorem Auq {e : Evt} (h1 : Vf e) (h2 : Aj3 e) (h3 : Bx (Bv e) = true) : Bt e = Er e := by simp [Bt, h1, h2, h3]
def ev (e : Evt) : Prop := e.gone.ok ∧ e.base.ok ∧ e.gone.l.length ≤ 1000 ∧ e.base.l.length ≤ 1000 ∧ e.data.length ≤ 100000
theorem Afz {e : Evt} (h : e.kind = 1) : Er e = (Et e && (Ep e.name)) := by simp [Er, h]
theorem Atc {e : Evt} (h : e.kind = 2) : Er e = (Et e && (Ep e.name)) := by simp [Er, h]
theorem J0 {e : Evt} (h : e.kind = 3) : Er e = (Bn e.dep e.orep e.oseq && (E1 e.base.l 1 e.dep && (Da (e.off) && (decide ((1 : Int) ≤ (e.data.length : Int)) && (Da ((e.data.length : Int)) && (Da (e.off + (e.data.length : Int)))))))) := by simp [Er, h]
theorem Om {e : Evt} (h : e.kind = 4) : Er e = (Bn e.dep e.orep e.oseq && (E1 e.base.l 1 e.dep && (Da (e.off)))) := by simp [Er, h]
theorem Ol {e : Evt} (h : e.kind = 5) : Er e = (Bn e.dep e.orep e.oseq && (E1 e.base.l 8 e.dep && (decide ((2 : Int) ≤ (e.base.l.length : Int)) && (Da ((e.data.length : Int)))))) := by simp [Er, h]
theorem Yd {e : Evt} (h : e.kind = 6) : Er e = (Bn e.dep e.orep e.oseq && (E1 e.gone.l 8 e.dep)) := by simp [Er, h]
theorem Yc {e : Evt} (h : e.kind = 7) : Er e = (Bn e.dep e.orep e.oseq && (E1 e.gone.l 8 e.dep && (Et e && (Ep e.name)))) := by simp [Er, h]
theorem Atb {e : Evt} (h : e.kind = 8) : Er e = (decide (1 ≤ e.ward) && (decide (e.ward ≤ 4))) := by simp [Er, h]
theorem Ata {e : Evt} (h : e.kind = 9) : Er e = (true) := by simp [Er, h]
def Ae8 (e : Evt) (k : Nat) : FS := mk [(55, .pv (.i .i64 k)), (54, .vec 8 (vE e.dep)), (1, .p 1 0)] [(1, some (.var (.vec 21 (Bp e))))]
set_option maxHeartbeats 16000000 in
theorem Ase (e : Evt) (he : ev e) {h d} : FunOk Try.prog 48 [.vec 21 (Bp e)] h d (.pv (.b (Bt e))) [] := by
 refine A5 Am fn48 (by simp) rfl rfl fun F => ?_;have hl := Be e;obtain ⟨hg, hb, hgn, hbn, hdl⟩ := he;by_cases r1 : e.rep < 1
 · have eb := Kb (e := e) fun h => by have := h.1; omega
   simp (disch := omega) only [ir48, G2, r1, eb, go_sem]
 by_cases r2 : 8 < e.rep
 · have eb := Kb (e := e) fun h => by have := h.2.1; omega
   simp (disch := omega) only [ir48, G2, r1, r2, eb, go_sem]
 by_cases r3 : (e.seq : Int) < 1
 · have eb := Kb (e := e) fun h => by have := h.2.2.1; omega
   simp (disch := omega) only [ir48, G2, Nd, r1, r2, r3, eb, go_sem]
 by_cases r4 : 1048576 < (e.seq : Int)
 · have eb := Kb (e := e) fun h => by have := h.2.2.2.1; omega
   simp (disch := omega) only [ir48, G2, Nd, r1, r2, r3, r4, eb, go_sem]
 obtain ⟨k, hk⟩ : ∃ k : Nat, e.rep = (k : Int) + 1 := ⟨(e.rep - 1).toNat, by omega⟩
 have hk8 : k < 8 := by omega
 have ek : ((k : Int) + 1 - 1) = (k : Int) := by omega
 have ekn : (e.rep - 1).toNat = k := by omega
 by_cases r5 : (e.dep k : Int) = (e.seq : Int) - 1;rotate_left
 · have eb := Kb (e := e) fun h => by have := h.2.2.2.2.1; rw [ekn] at this; omega
   simp (disch := omega) only [ir48, G2, Nd, Jz, hk, ek, r3, r4, r5, eb, go_sem]
 by_cases r6 : e.kind < 1
 · have eb := Kb (e := e) fun h => by have := h.2.2.2.2.2.1; omega
   simp (disch := omega) only [ir48, G2, Nd, Az, Jz, hk, ek, r3, r4, r5, r6, eb, go_sem]
 by_cases r7 : 9 < e.kind
 · have eb := Kb (e := e) fun h => by have := h.2.2.2.2.2.2; omega
   simp (disch := omega) only [ir48, G2, Nd, Az, Jz, hk, ek, r3, r4, r5, r6, r7, eb, go_sem]
 have hB : Vf e := ⟨by omega, by omega, by omega, by omega, by rw [ekn]; omega, by omega, by omega⟩
 simp (disch := omega) only [ir48, G2, Nd, Az, I5, Jz, hk, ek, r3, r4, r5, r6, r7, go_sem];refine Bd Am (Ae8 e) (fun k => k ≤ 8 ∧ ∀ i, i < k → e.dep i ≤ 1048576) (fun k => 8 - k) 0 (by simp) (A2 ?_ ?_) fun j hj => ?_
 · simp (disch := omega) only [go_sem]
 · simp (disch := omega) only [go_sem]
 obtain ⟨hj1, hj2⟩ := hj;by_cases hlt : j < 8
 · by_cases hd : 1048576 < (e.dep j : Int)
   · have eb := Aur (e := e) fun h => by have := h j hlt; omega
     simp (disch := omega) only [Ae8, hd, eb, go_sem]
   · simp (disch := omega) only [Ae8, hd, go_sem];refine Au (j + 1) _ _ rfl ⟨by omega, fun i hi => ?_⟩ (by omega) ?_ ?_
     · by_cases e : i = j
       · subst e; omega
       · exact hj2 i (by omega)
     · simp (disch := omega) only [go_sem]
     · simp (disch := omega) only [go_sem]
 obtain rfl : j = 8 := by omega
 have hD : Aj3 e := hj2;simp (disch := omega) only [Ae8, B9, go_sem];refine Aa (Ax0 e) ?_;have cz := Aup (e := e);have ck := fun h3 => Auq (e := e) hB hD h3;have hbl := Be (Bv e);generalize Bv e = b at *

 by_cases z1' : Gk b.orep b.oseq = false
 · have eb := cz (by simp only [Bx, z1', decide_true, decide_false, Bool.true_and, Bool.false_and, Bool.and_true, Bool.and_false, Bool.and_self]);simp (disch := omega) only [Ao, Ah, Aj, Dk, hl, hbl, z1', eb, go_sem]
 have z1 : Gk b.orep b.oseq = true := by simpa using z1'
 by_cases z2' : Gk b.drep b.dseq = false
 · have eb := cz (by simp only [Bx, z1, z2', decide_true, decide_false, Bool.true_and, Bool.false_and, Bool.and_true, Bool.and_false, Bool.and_self]);simp (disch := omega) only [Ao, Ah, Aj, Dk, hl, hbl, z1, z2', eb, go_sem]
 have z2 : Gk b.drep b.dseq = true := by simpa using z2'
 by_cases z3 : b.name = [];rotate_left
 · have eb := cz (by simp only [Bx, z1, z2, z3, decide_true, decide_false, Bool.true_and, Bool.false_and, Bool.and_true, Bool.and_false, Bool.and_self]);simp (disch := omega) only [Ao, Ah, Aj, Dk, hl, hbl, z1, z2, z3, eb, go_sem]
 by_cases z4 : (b.gone.l.length : Int) = 0;rotate_left
 · have eb := cz (by simp only [Bx, z1, z2, z3, z4, decide_true, decide_false, Bool.true_and, Bool.false_and, Bool.and_true, Bool.and_false, Bool.and_self]);simp (disch := omega) only [Ao, Ah, Aj, Dk, hl, hbl, z1, z2, z3, z4, eb, go_sem]
 by_cases z5 : (b.base.l.length : Int) = 0;rotate_left
 · have eb := cz (by simp only [Bx, z1, z2, z3, z4, z5, decide_true, decide_false, Bool.true_and, Bool.false_and, Bool.and_true, Bool.and_false, Bool.and_self]);simp (disch := omega) only [Ao, Ah, Aj, Dk, hl, hbl, z1, z2, z3, z4, z5, eb, go_sem]
 by_cases z6 : b.off = 0;rotate_left
 · have eb := cz (by simp only [Bx, z1, z2, z3, z4, z5, z6, decide_true, decide_false, Bool.true_and, Bool.false_and, Bool.and_true, Bool.and_false, Bool.and_self]);simp (disch := omega) only [Ao, Ah, Aj, Dk, hl, hbl, z1, z2, z3, z4, z5, z6, eb, go_sem]
 by_cases z7 : b.data = [];rotate_left
 · have eb := cz (by simp only [Bx, z1, z2, z3, z4, z5, z6, z7, decide_true, decide_false, Bool.true_and, Bool.false_and, Bool.and_true, Bool.and_false, Bool.and_self]);simp (disch := omega) only [Ao, Ah, Aj, Dk, hl, hbl, z1, z2, z3, z4, z5, z6, z7, eb, go_sem]
 by_cases z8 : b.ward = 0;rotate_left
 · have eb := cz (by simp only [Bx, z1, z2, z3, z4, z5, z6, z7, z8, decide_true, decide_false, Bool.true_and, Bool.false_and, Bool.and_true, Bool.and_false, Bool.and_self]);simp (disch := omega) only [Ao, Ah, Aj, Dk, hl, hbl, z1, z2, z3, z4, z5, z6, z7, z8, eb, go_sem]
 have ez := ck (by simp only [Bx, z1, z2, z3, z4, z5, z6, z7, z8, decide_true, decide_false, Bool.true_and, Bool.false_and, Bool.and_true, Bool.and_false, Bool.and_self]);have hkk : e.kind = 1 ∨ e.kind = 2 ∨ e.kind = 3 ∨ e.kind = 4 ∨ e.kind = 5 ∨ e.kind = 6 ∨ e.kind = 7 ∨ e.kind = 8 ∨ e.kind = 9 := by omega
 rcases hkk with hki | hki | hki | hki | hki | hki | hki | hki | hki
 · rw [Afz hki] at ez;simp (disch := omega) only [Ao, Ah, Aj, Dk, hl, hbl, z1, z2, z3, z4, z5, z6, z7, z8, hki, go_sem];refine Aa (X2 e) ?_;by_cases s0' : Et e = false
   · simp only [s0', decide_true, decide_false, Bool.true_and, Bool.false_and, Bool.and_true, Bool.and_false, Bool.and_self] at ez;simp (disch := omega) only [Ao, Ah, Aj, s0', ez, go_sem]
   have s0 : Et e = true := by simpa using s0'
   simp (disch := omega) only [Ao, Ah, Aj, s0, go_sem];refine Aa (Ac4 _) ?_;by_cases s1' : Ep e.name = false
   · simp only [s0, s1', decide_true, decide_false, Bool.true_and, Bool.false_and, Bool.and_true, Bool.and_false, Bool.and_self] at ez;simp (disch := omega) only [Ao, Ah, Aj, s0, s1', ez, go_sem]
   have s1 : Ep e.name = true := by simpa using s1'
   simp only [s0, s1, decide_true, decide_false, Bool.true_and, Bool.false_and, Bool.and_true, Bool.and_false, Bool.and_self] at ez;simp (disch := omega) only [Ao, Ah, Aj, s0, s1, ez, go_sem]
 · rw [Atc hki] at ez;simp (disch := omega) only [Ao, Ah, Aj, Dk, hl, hbl, z1, z2, z3, z4, z5, z6, z7, z8, hki, go_sem];refine Aa (X2 e) ?_;by_cases s0' : Et e = false
   · simp only [s0', decide_true, decide_false, Bool.true_and, Bool.false_and, Bool.and_true, Bool.and_false, Bool.and_self] at ez;simp (disch := omega) only [Ao, Ah, Aj, s0', ez, go_sem]
   have s0 : Et e = true := by simpa using s0'
   simp (disch := omega) only [Ao, Ah, Aj, s0, go_sem];refine Aa (Ac4 _) ?_;by_cases s1' : Ep e.name = false
   · simp only [s0, s1', decide_true, decide_false, Bool.true_and, Bool.false_and, Bool.and_true, Bool.and_false, Bool.and_self] at ez;simp (disch := omega) only [Ao, Ah, Aj, s0, s1', ez, go_sem]
   have s1 : Ep e.name = true := by simpa using s1'
   simp only [s0, s1, decide_true, decide_false, Bool.true_and, Bool.false_and, Bool.and_true, Bool.and_false, Bool.and_self] at ez;simp (disch := omega) only [Ao, Ah, Aj, s0, s1, ez, go_sem]
 · rw [J0 hki] at ez;simp (disch := omega) only [Ao, Ah, Aj, Dk, hl, hbl, z1, z2, z3, z4, z5, z6, z7, z8, hki, go_sem];refine Aa (E6 _ _ _) ?_;by_cases s0' : Bn e.dep e.orep e.oseq = false
   · simp only [s0', decide_true, decide_false, Bool.true_and, Bool.false_and, Bool.and_true, Bool.and_false, Bool.and_self] at ez;simp (disch := omega) only [Ao, Ah, Aj, s0', ez, go_sem]
   have s0 : Bn e.dep e.orep e.oseq = true := by simpa using s0'
   simp (disch := omega) only [Ao, Ah, Aj, s0, go_sem];refine Aa (Aad (l := e.base.l) (most := 1) hb hbn) ?_;by_cases s1' : E1 e.base.l 1 e.dep = false
   · simp only [s0, s1', decide_true, decide_false, Bool.true_and, Bool.false_and, Bool.and_true, Bool.and_false, Bool.and_self] at ez;simp (disch := omega) only [Ao, Ah, Aj, s0, s1', ez, go_sem]
   have s1 : E1 e.base.l 1 e.dep = true := by simpa using s1'
   simp (disch := omega) only [Ao, Ah, Aj, s0, s1, go_sem];refine Aa (Tq (e.off)) ?_;by_cases s2' : Da (e.off) = false
   · simp only [s0, s1, s2', decide_true, decide_false, Bool.true_and, Bool.false_and, Bool.and_true, Bool.and_false, Bool.and_self] at ez;simp (disch := omega) only [Ao, Ah, Aj, s0, s1, s2', ez, go_sem]
   have s2 : Da (e.off) = true := by simpa using s2'
   have s2b := of_decide_eq_true s2;by_cases s3 : (1 : Int) ≤ (e.data.length : Int);rotate_left
   · simp only [s0, s1, s2, s3, decide_true, decide_false, Bool.true_and, Bool.false_and, Bool.and_true, Bool.and_false, Bool.and_self] at ez;simp (disch := omega) only [Ao, Ah, Aj, s0, s1, s2, s3, ez, go_sem]
   simp (disch := omega) only [Ao, Ah, Aj, s0, s1, s2, s3, go_sem];refine Aa (Tq ((e.data.length : Int))) ?_;by_cases s4' : Da ((e.data.length : Int)) = false
   · simp only [s0, s1, s2, s3, s4', decide_true, decide_false, Bool.true_and, Bool.false_and, Bool.and_true, Bool.and_false, Bool.and_self] at ez;simp (disch := omega) only [Ao, Ah, Aj, s0, s1, s2, s3, s4', ez, go_sem]
   have s4 : Da ((e.data.length : Int)) = true := by simpa using s4'
   have s4b := of_decide_eq_true s4;simp (disch := omega) only [Ao, Ah, Aj, s0, s1, s2, s3, s4, go_sem];refine Aa (Tq (e.off + (e.data.length : Int))) ?_;by_cases s5' : Da (e.off + (e.data.length : Int)) = false
   · simp only [s0, s1, s2, s3, s4, s5', decide_true, decide_false, Bool.true_and, Bool.false_and, Bool.and_true, Bool.and_false, Bool.and_self] at ez;simp (disch := omega) only [Ao, Ah, Aj, s0, s1, s2, s3, s4, s5', ez, go_sem]
   have s5 : Da (e.off + (e.data.length : Int)) = true := by simpa using s5'
   have s5b := of_decide_eq_true s5;simp only [s0, s1, s2, s3, s4, s5, decide_true, decide_false, Bool.true_and, Bool.false_and, Bool.and_true, Bool.and_false, Bool.and_self] at ez;simp (disch := omega) only [Ao, Ah, Aj, s0, s1, s2, s3, s4, s5, ez, go_sem]
 · rw [Om hki] at ez;simp (disch := omega) only [Ao, Ah, Aj, Dk, hl, hbl, z1, z2, z3, z4, z5, z6, z7, z8, hki, go_sem];refine Aa (E6 _ _ _) ?_;by_cases s0' : Bn e.dep e.orep e.oseq = false
   · simp only [s0', decide_true, decide_false, Bool.true_and, Bool.false_and, Bool.and_true, Bool.and_false, Bool.and_self] at ez;simp (disch := omega) only [Ao, Ah, Aj, s0', ez, go_sem]
   have s0 : Bn e.dep e.orep e.oseq = true := by simpa using s0'
   simp (disch := omega) only [Ao, Ah, Aj, s0, go_sem];refine Aa (Aad (l := e.base.l) (most := 1) hb hbn) ?_;by_cases s1' : E1 e.base.l 1 e.dep = false
   · simp only [s0, s1', decide_true, decide_false, Bool.true_and, Bool.false_and, Bool.and_true, Bool.and_false, Bool.and_self] at ez;simp (disch := omega) only [Ao, Ah, Aj, s0, s1', ez, go_sem]
   have s1 : E1 e.base.l 1 e.dep = true := by simpa using s1'
   simp (disch := omega) only [Ao, Ah, Aj, s0, s1, go_sem];refine Aa (Tq (e.off)) ?_;by_cases s2' : Da (e.off) = false
   · simp only [s0, s1, s2', decide_true, decide_false, Bool.true_and, Bool.false_and, Bool.and_true, Bool.and_false, Bool.and_self] at ez;simp (disch := omega) only [Ao, Ah, Aj, s0, s1, s2', ez, go_sem]
   have s2 : Da (e.off) = true := by simpa using s2'
   have s2b := of_decide_eq_true s2;simp only [s0, s1, s2, decide_true, decide_false, Bool.true_and, Bool.false_and, Bool.and_true, Bool.and_false, Bool.and_self] at ez;simp (disch := omega) only [Ao, Ah, Aj, s0, s1, s2, ez, go_sem]
 · rw [Ol hki] at ez;simp (disch := omega) only [Ao, Ah, Aj, Dk, hl, hbl, z1, z2, z3, z4, z5, z6, z7, z8, hki, go_sem];refine Aa (E6 _ _ _) ?_;by_cases s0' : Bn e.dep e.orep e.oseq = false
   · simp only [s0', decide_true, decide_false, Bool.true_and, Bool.false_and, Bool.and_true, Bool.and_false, Bool.and_self] at ez;simp (disch := omega) only [Ao, Ah, Aj, s0', ez, go_sem]
   have s0 : Bn e.dep e.orep e.oseq = true := by simpa using s0'
   simp (disch := omega) only [Ao, Ah, Aj, s0, go_sem];refine Aa (Aad (l := e.base.l) (most := 8) hb hbn) ?_;by_cases s1' : E1 e.base.l 8 e.dep = false
   · simp only [s0, s1', decide_true, decide_false, Bool.true_and, Bool.false_and, Bool.and_true, Bool.and_false, Bool.and_self] at ez;simp (disch := omega) only [Ao, Ah, Aj, s0, s1', ez, go_sem]
   have s1 : E1 e.base.l 8 e.dep = true := by simpa using s1'
   by_cases s2 : (2 : Int) ≤ (e.base.l.length : Int);rotate_left
   · simp only [s0, s1, s2, decide_true, decide_false, Bool.true_and, Bool.false_and, Bool.and_true, Bool.and_false, Bool.and_self] at ez;simp (disch := omega) only [Ao, Ah, Aj, s0, s1, s2, ez, go_sem]
   simp (disch := omega) only [Ao, Ah, Aj, s0, s1, s2, go_sem];refine Aa (Tq ((e.data.length : Int))) ?_;by_cases s3' : Da ((e.data.length : Int)) = false
   · simp only [s0, s1, s2, s3', decide_true, decide_false, Bool.true_and, Bool.false_and, Bool.and_true, Bool.and_false, Bool.and_self] at ez;simp (disch := omega) only [Ao, Ah, Aj, s0, s1, s2, s3', ez, go_sem]
   have s3 : Da ((e.data.length : Int)) = true := by simpa using s3'
   have s3b := of_decide_eq_true s3;simp only [s0, s1, s2, s3, decide_true, decide_false, Bool.true_and, Bool.false_and, Bool.and_true, Bool.and_false, Bool.and_self] at ez;simp (disch := omega) only [Ao, Ah, Aj, s0, s1, s2, s3, ez, go_sem]
 · rw [Yd hki] at ez;simp (disch := omega) only [Ao, Ah, Aj, Dk, hl, hbl, z1, z2, z3, z4, z5, z6, z7, z8, hki, go_sem];refine Aa (E6 _ _ _) ?_;by_cases s0' : Bn e.dep e.orep e.oseq = false
   · simp only [s0', decide_true, decide_false, Bool.true_and, Bool.false_and, Bool.and_true, Bool.and_false, Bool.and_self] at ez;simp (disch := omega) only [Ao, Ah, Aj, s0', ez, go_sem]
   have s0 : Bn e.dep e.orep e.oseq = true := by simpa using s0'
   simp (disch := omega) only [Ao, Ah, Aj, s0, go_sem];refine Aa (Aad (l := e.gone.l) (most := 8) hg hgn) ?_;by_cases s1' : E1 e.gone.l 8 e.dep = false
   · simp only [s0, s1', decide_true, decide_false, Bool.true_and, Bool.false_and, Bool.and_true, Bool.and_false, Bool.and_self] at ez;simp (disch := omega) only [Ao, Ah, Aj, s0, s1', ez, go_sem]
   have s1 : E1 e.gone.l 8 e.dep = true := by simpa using s1'
   simp only [s0, s1, decide_true, decide_false, Bool.true_and, Bool.false_and, Bool.and_true, Bool.and_false, Bool.and_self] at ez;simp (disch := omega) only [Ao, Ah, Aj, s0, s1, ez, go_sem]
 · rw [Yc hki] at ez;simp (disch := omega) only [Ao, Ah, Aj, Dk, hl, hbl, z1, z2, z3, z4, z5, z6, z7, z8, hki, go_sem];refine Aa (E6 _ _ _) ?_;by_cases s0' : Bn e.dep e.orep e.oseq = false
   · simp only [s0', decide_true, decide_false, Bool.true_and, Bool.false_and, Bool.and_true, Bool.and_false, Bool.and_self] at ez;simp (disch := omega) only [Ao, Ah, Aj, s0', ez, go_sem]
   have s0 : Bn e.dep e.orep e.oseq = true := by simpa using s0'
   simp (disch := omega) only [Ao, Ah, Aj, s0, go_sem];refine Aa (Aad (l := e.gone.l) (most := 8) hg hgn) ?_;by_cases s1' : E1 e.gone.l 8 e.dep = false
   · simp only [s0, s1', decide_true, decide_false, Bool.true_and, Bool.false_and, Bool.and_true, Bool.and_false, Bool.and_self] at ez;simp (disch := omega) only [Ao, Ah, Aj, s0, s1', ez, go_sem]
   have s1 : E1 e.gone.l 8 e.dep = true := by simpa using s1'
   simp (disch := omega) only [Ao, Ah, Aj, s0, s1, go_sem];refine Aa (X2 e) ?_;by_cases s2' : Et e = false
   · simp only [s0, s1, s2', decide_true, decide_false, Bool.true_and, Bool.false_and, Bool.and_true, Bool.and_false, Bool.and_self] at ez;simp (disch := omega) only [Ao, Ah, Aj, s0, s1, s2', ez, go_sem]
   have s2 : Et e = true := by simpa using s2'
   simp (disch := omega) only [Ao, Ah, Aj, s0, s1, s2, go_sem];refine Aa (Ac4 _) ?_;by_cases s3' : Ep e.name = false
   · simp only [s0, s1, s2, s3', decide_true, decide_false, Bool.true_and, Bool.false_and, Bool.and_true, Bool.and_false, Bool.and_self] at ez;simp (disch := omega) only [Ao, Ah, Aj, s0, s1, s2, s3', ez, go_sem]
   have s3 : Ep e.name = true := by simpa using s3'
   simp only [s0, s1, s2, s3, decide_true, decide_false, Bool.true_and, Bool.false_and, Bool.and_true, Bool.and_false, Bool.and_self] at ez;simp (disch := omega) only [Ao, Ah, Aj, s0, s1, s2, s3, ez, go_sem]
 · rw [Atb hki] at ez;by_cases s0 : 1 ≤ e.ward;rotate_left
   · simp only [s0, decide_true, decide_false, Bool.true_and, Bool.false_and, Bool.and_true, Bool.and_false, Bool.and_self] at ez;simp (disch := omega) only [Ao, Ah, Aj, Dk, hl, hbl, z1, z2, z3, z4, z5, z6, z7, z8, hki, s0, ez, go_sem]
   by_cases s1 : e.ward ≤ 4;rotate_left
   · simp only [s0, s1, decide_true, decide_false, Bool.true_and, Bool.false_and, Bool.and_true, Bool.and_false, Bool.and_self] at ez;simp (disch := omega) only [Ao, Ah, Aj, Dk, hl, hbl, z1, z2, z3, z4, z5, z6, z7, z8, hki, s0, s1, ez, go_sem]
   simp only [s0, s1, decide_true, decide_false, Bool.true_and, Bool.false_and, Bool.and_true, Bool.and_false, Bool.and_self] at ez;simp (disch := omega) only [Ao, Ah, Aj, Dk, hl, hbl, z1, z2, z3, z4, z5, z6, z7, z8, hki, s0, s1, ez, go_sem]
 · rw [Ata hki] at ez;simp (disch := omega) only [Ao, Ah, Aj, Dk, hl, hbl, z1, z2, z3, z4, z5, z6, z7, z8, hki, ez, go_sem]
theorem Apl {e : Evt} (h1 : Vf e) (h2 : Aj3 e) : Bt e = (Bx (Bv e) && Er e) := by simp [Bt, h1, h2]
theorem Jg : Gk 0 0 = true := rfl
theorem Av1 {e : Evt} (h : e.kind = 1) : Bx (Bv e) = Cu e false true false false false false false := by simp [Bx, Bv, Cu, h, Jg, SlI.nil, Bool.and_assoc]
theorem A04 {e : Evt} (h : e.kind = 2) : Bx (Bv e) = Cu e false true false false false false false := by simp [Bx, Bv, Cu, h, Jg, SlI.nil, Bool.and_assoc]
theorem A5y {e : Evt} (h : e.kind = 3) : Bx (Bv e) = Cu e true false false true true true false := by simp [Bx, Bv, Cu, h, Jg, SlI.nil, Bool.and_assoc]
theorem A03 {e : Evt} (h : e.kind = 4) : Bx (Bv e) = Cu e true false false true true false false := by simp [Bx, Bv, Cu, h, Jg, SlI.nil, Bool.and_assoc]
theorem A5x {e : Evt} (h : e.kind = 5) : Bx (Bv e) = Cu e true false false true false true false := by simp [Bx, Bv, Cu, h, Jg, SlI.nil, Bool.and_assoc]
theorem A5w {e : Evt} (h : e.kind = 6) : Bx (Bv e) = Cu e true false true false false false false := by simp [Bx, Bv, Cu, h, Jg, SlI.nil, Bool.and_assoc]
theorem A5v {e : Evt} (h : e.kind = 7) : Bx (Bv e) = Cu e true true true false false false false := by simp [Bx, Bv, Cu, h, Jg, SlI.nil, Bool.and_assoc]
theorem A02 {e : Evt} (h : e.kind = 8) : Bx (Bv e) = Cu e false false false false false false true := by simp [Bx, Bv, Cu, h, Jg, SlI.nil, Bool.and_assoc]
theorem A01 {e : Evt} (h : e.kind = 9) : Bx (Bv e) = Cu e false false false false false false false := by simp [Bx, Bv, Cu, h, Jg, SlI.nil, Bool.and_assoc]
end Go.Proofs.Ythmjebkldgdeiaa.Fw
namespace Go.Proofs.Ythmjebkldgdeiaa.Fw
open Go.RowKit Go.Proofs
def zs (n : Nat) : List UInt8 := List.replicate n 0
theorem Ab0 (n : Nat) : (zs n).length = n := by simp [zs]
theorem Aqs (n : Nat) : zs (n + 1) = zs n ++ [0] := by simp [zs, List.replicate_succ']
theorem A5t : zs 0 = [] := rfl
theorem A1k (l : List UInt8) : A3 l ++ [[.i .u8 0]] = A3 (l ++ [0]) := by
 rw [← Ri]; rfl
def Jt (data : List UInt8) (o : Nat) (s : List UInt8) : List UInt8 :=
 (data ++ zs (o + s.length - data.length)).take o ++ s ++ (data ++ zs (o + s.length - data.length)).drop (o + s.length)
def Ey (data : List UInt8) (off : Int) (s : List UInt8) : Prop := off < 0 ∨ 200 < off ∨ 200 < (data.length : Int) ∨ 200 - off < s.length
open Classical in
noncomputable def Py (data : List UInt8) (off : Int) (s : List UInt8) : SV := if Ey data off s then .tup [.pv (.s []), .pv (.i .i64 4)] else .tup [.pv (.s (Jt data off.toNat s)), .pv (.i .i64 0)]
theorem Js {data off s} (h : Ey data off s) : Py data off s = .tup [.pv (.s []), .pv (.i .i64 4)] := by unfold Py; rw [if_pos h]
theorem Px {data off s} (h : ¬ Ey data off s) : Py data off s = .tup [.pv (.s (Jt data off.toNat s)), .pv (.i .i64 0)] := by unfold Py; rw [if_neg h]
def Xn (data s : List UInt8) (o k : Nat) : FS := mk [(8, .os 60), (2, .pv (.s s)), (1, .pv (.i .i64 o))] [(60, some (.row 1 (A3 (data ++ zs k))))]
set_option maxHeartbeats 2000000 in
theorem Afm (data s : List UInt8) (off : Int) {h d} : FunOk Try.prog 83 [.pv (.s data), .pv (.i .i64 off), .pv (.s s)] h d (Py data off s) [] := by
 refine A5 Am fn83 (by simp) rfl (by unfold Py; split <;> rfl) fun F => ?_;by_cases h1 : off < 0
 · rw [Js (.inl h1)];simp (disch := omega) only [ir83, go_sem]
 by_cases h2 : 200 < off
 · rw [Js (.inr (.inl h2))];simp (disch := omega) only [ir83, go_sem]
 by_cases h3 : 200 < (data.length : Int)
 · rw [Js (.inr (.inr (.inl h3)))];simp (disch := omega) only [ir83, go_sem]
 by_cases h4 : 200 - off < (s.length : Int)
 · rw [Js (.inr (.inr (.inr h4)))];simp (disch := omega) only [ir83, go_sem]
 have hok : ¬ Ey data off s := by unfold Ey; omega
 obtain ⟨o, rfl⟩ : ∃ o : Nat, off = o := ⟨off.toNat, by omega⟩
 rw [Px hok];simp (disch := omega) only [ir83, go_sem];refine Bd Am (Xn data s o) (fun k => k ≤ o + s.length - data.length) (fun k => o + s.length - data.length - k) 0 (by omega) (Ks 28 60 (by decide) rfl (A2 ?_ ?_)) fun k hk => ?_
 · simp (disch := omega) only [go_sem]
 · simp (disch := omega) only [A5t, go_sem]
 have hl : (data ++ zs k).length = data.length + k := by simp [zs]
 by_cases hlt : data.length + k < o + s.length
 · simp (disch := omega) only [Xn, hl, A1k, go_sem];refine ⟨k + 1, by omega, by omega, Ks 38 60 (by decide) rfl (A2 ?_ ?_)⟩
   · simp (disch := omega) only [go_sem]
   · simp (disch := omega) only [Aqs, List.append_assoc, go_sem]
 · obtain rfl : k = o + s.length - data.length := by omega
   have hp : Jt data o s = (data ++ zs (o + s.length - data.length)).take o ++ s ++ (data ++ zs (o + s.length - data.length)).drop (o + s.length) := rfl;generalize hX : data ++ zs (o + s.length - data.length) = X at *;have hle : o + s.length ≤ X.length := by omega
   have e1 : min s.length (X.length - o) = s.length := by omega
   have e2 : s.take (X.length - o) = s := List.take_of_length_le (by omega);simp (disch := omega) only [Xn, hX, e1, e2, hp, go_sem]
def Ru (data : List UInt8) (n : Nat) : List UInt8 := if n < data.length then data.take n else data ++ zs (n - data.length)
open Classical in
noncomputable def Wy (data : List UInt8) (n : Int) : SV := if n < 0 ∨ 200 < n then .tup [.pv (.s []), .pv (.i .i64 4)] else .tup [.pv (.s (Ru data n.toNat)), .pv (.i .i64 0)]
theorem Wx {data n} (h : n < 0 ∨ 200 < n) : Wy data n = .tup [.pv (.s []), .pv (.i .i64 4)] := by unfold Wy; rw [if_pos h]
theorem Uu {data n} (h : ¬ (n < 0 ∨ 200 < n)) : Wy data n = .tup [.pv (.s (Ru data n.toNat)), .pv (.i .i64 0)] := by unfold Wy; rw [if_neg h]
theorem A5u (n : Nat) : List.replicate n [PV.i .u8 0] = A3 (zs n) := by simp [zs, A3]
set_option maxHeartbeats 2000000 in
theorem Avp (data : List UInt8) (n : Int) (hd : data.length ≤ 1000) {h d} : FunOk Try.prog 82 [.pv (.s data), .pv (.i .i64 n)] h d (Wy data n) [] := by
 refine A5 Am fn82 (by simp) rfl (by unfold Wy; split <;> rfl) fun F => ?_;by_cases h1 : n < 0
 · rw [Wx (.inl h1)];simp (disch := omega) only [ir82, go_sem]
 by_cases h2 : 200 < n
 · rw [Wx (.inr h2)];simp (disch := omega) only [ir82, go_sem]
 rw [Uu (by omega)];obtain ⟨o, rfl⟩ : ∃ o : Nat, n = o := ⟨n.toNat, by omega⟩
 by_cases hlt : o < data.length
 · have e : Ru data o = data.take o := by unfold Ru; rw [if_pos hlt]
   simp (disch := omega) only [ir82, e, go_sem]
 · have e : Ru data o = data ++ zs (o - data.length) := by unfold Ru; rw [if_neg hlt]
   have e1 : ((o : Int) - (data.length : Int)).toNat = o - data.length := by omega
   have hz := Ab0 (o - data.length);simp (disch := omega) only [ir82, e, e1, A5u, hz, go_sem]
theorem A1w {m n lo hi : Nat} {es fs : List (List PV)} {h} (hm : h m = some (.row 11 fs)) (hn : h n = some (.row 11 es)) (hne : m ≠ n) (hfs : fs ≠ []) (hes : es ≠ []) (hlt : lo < hi) : Xe Try.prog 94 [.os m, .ov n 11 lo hi] h (.pv (.b false)) := by
 intro F N ρ s a w hR hh vs hc;simp only [ConcL] at hc;obtain ⟨v, us, rfl, hv, u, us', rfl, hu, rfl⟩ := hc;have hsm := (hh m (by simp [Aw, tn])).trans hm;have hsn := (hh n (by simp [Aw, tn])).trans hn;refine ⟨.bool false, ?_, Dq⟩;rw [run_callFunc_extern (fn := (Try.prog.funcs[94]?).getD default) (by kernel_rfl) (by kernel_rfl) (by kernel_rfl) (by kernel_rfl) (e := Extern.SlicesOverlaps.overlaps #[82, 82] #[4]) (by kernel_rfl)];rw [Hl (tS := 82) (e := 95) (by kernel_rfl) (by kernel_rfl) (by decide) hR hsm hsn hne hfs hes hlt hv hu];rfl
set_option maxHeartbeats 4000000 in
theorem Aab (es : List (List PV)) (cs : List PV) (i : Nat) (hi : i ≤ es.length) (hb : es.length ≤ 1000) (hes : ∀ c ∈ es, c.length = 11) (hcs : cs.length = 11) {h d} (h1 : h 16 = some (.row 11 es)) (h2 : h 55 = some (.row 11 [cs])) : FunOk Try.prog 85 [.os 16, .pv (.i .i64 i), .os 55] h d (.os d) [.del 16, .del 55, .new d (.row 11 (es.take i ++ cs :: es.drop i))] := by
 refine Yp Am fn85 (by simp) rfl fun F => ?_;simp only [A9];by_cases he : i = es.length
 · subst he;have e1 : es.take es.length ++ cs :: es.drop es.length = es ++ [cs] := by simp
   rw [e1];simp (disch := omega) only [ir85, h1, h2, go_sem]
 · have hne : es ≠ [] := by intro e; subst e; simp at hi; exact he (by simpa using hi)
   simp (disch := omega) only [ir85, h1, h2, go_sem];intro c hc;by_cases hcap : c < es.length + 1
   · have hp : ((c : Int) < (es.length : Int) + ((1 : Nat) : Int)) = True := eq_true (by omega);have ek : ((es.length : Int) + ((1 : Nat) : Int) - (i : Int)).toNat = es.length + 1 - i := by omega
     (try simp only [D9, D8, D7, D6, D5, D4, D3, D2]); simp (disch := omega) only [hp, ek, go_sem]
     generalize hT : List.take i es ++ List.replicate (es.length + 1 - i) _ = T;have hTl : T.length = es.length + 1 := by rw [← hT]; simp; omega
     have t1 : T.take i = es.take i := by
      rw [← hT, List.take_append_of_le_length (by simp; omega), List.take_take, Nat.min_self]
     have hi' : (es.take i).length = i := by simp; omega
     have m1 : min 1 (es.length + 1 - i) = 1 := by omega
     have m2 : [cs].take (es.length + 1 - i) = [cs] := List.take_of_length_le (by simp; omega);have hU : (es.take i ++ [cs] ++ T.drop (i + 1)).length = es.length + 1 := by simp [hTl]; omega
     have e1 : ((i : Int) + ((1 : Nat) : Int)).toNat = i + 1 := by omega
     have u1 : (es.take i ++ [cs] ++ T.drop (i + 1)).take (i + 1) = es.take i ++ [cs] := by
      rw [List.take_append_of_le_length (by simp; omega)];exact List.take_of_length_le (by simp; omega)
     have u2 : (es.take es.length).drop i = es.drop i := by rw [List.take_length]
     have u3 : min (es.drop i).length (es.length + 1 - (i + 1)) = es.length - i := by simp
     have u4 : (es.drop i).take (es.length + 1 - (i + 1)) = es.drop i := List.take_of_length_le (by simp);have u5 : (es.take i ++ [cs] ++ T.drop (i + 1)).drop (i + 1 + (es.length - i)) = [] := List.drop_of_length_le (by rw [hU]; omega);have u6 : es.take i ++ cs :: es.drop i = es.take i ++ [cs] ++ es.drop i := by simp
     simp only [hTl, t1, m1, m2, e1, List.length_singleton];simp only [hU, u1, u2, u3, u4, u5, u6, List.append_nil];exact ⟨by omega, by omega, trivial⟩
   · have hp : ((c : Int) < (es.length : Int) + ((1 : Nat) : Int)) = False := eq_false (by omega)
     (try simp only [D9, D8, D7, D6, D5, D4, D3, D2]); simp (disch := omega) only [hp, go_sem]
     intro g hg hgs;have hg1 : g.length = 1 := by omega
     have e1 : ((i : Int) + ((1 : Nat) : Int)).toNat = i + 1 := by omega
     have hE : (es ++ g).length = es.length + 1 := by simp [hg1]
     refine ⟨by omega, ?_⟩;rw [e1];refine Pa (A1w (es := es ++ g) (fs := [cs]) rfl rfl (by decide) (by simp) (by simp [hne]) (by omega)) ?_;have v1 : ((es ++ g).take (es ++ g).length).drop i = (es ++ g).drop i := by rw [List.take_length]
     have v2 : min ((es ++ g).drop i).length ((es ++ g).length - (i + 1)) = es.length - i := by simp [hg1]; omega
     have v3 : ((es ++ g).drop i).take ((es ++ g).length - (i + 1)) = es.drop i := by
      rw [hE, List.drop_append_of_le_length hi, show es.length + 1 - (i + 1) = (es.drop i).length from by simp];exact List.take_left
     have v4 : (es ++ g).drop (i + 1 + (es.length - i)) = [] := List.drop_of_length_le (by omega);have v5 : ((es ++ g).take (i + 1) ++ es.drop i).length = es.length + 1 := by simp [hg1]; omega
     have v6 : ((es ++ g).take (i + 1) ++ es.drop i).take i = es.take i := by
      rw [List.take_append_of_le_length (by simp; omega), List.take_take, Nat.min_eq_left (by omega), List.take_append_of_le_length hi]
     have v7 : ((es ++ g).take (i + 1) ++ es.drop i).drop (i + 1) = es.drop i := by
      rw [List.drop_append_of_le_length (by simp; omega), List.drop_of_length_le (by simp; omega), List.nil_append]
     have m1 : min 1 (es.length + 1 - i) = 1 := by omega
     have m2 : [cs].take (es.length + 1 - i) = [cs] := List.take_of_length_le (by simp; omega);have u6 : es.take i ++ cs :: es.drop i = es.take i ++ [cs] ++ es.drop i := by simp
     simp (disch := omega) only [e1, v1, v2, v3, v4, v5, v6, v7, m1, m2, u6, go_sem]
theorem Asd {x : SV} {f : Bool} {z : Nat} {es : List (List PV)} {h d} (hx : Cl h [x] = [.pv (.sl f z es)]) (hl : Ba [x] = true) (hz : es = [] ∨ z = 11) (hb : es.length ≤ 1000) (hs : SV.closedL [x] = true) :
 FunOk Try.prog 47 [x] h d (.os d) [.new d (.row 11 es)] := by
 refine O1 Am fn47 (by simp) hl (.inl hs) fun F => ?_;rw [hx];simp (disch := omega) only [ir47, go_sem];intro b hb';cases b
 · simp (disch := omega) only [go_sem]
 · have he : es = [] := by
    cases es with
    | nil => rfl
    | cons c l => exact absurd (hb' (by simp)) (by simp)
   subst he
   (try simp only [D9, D8, D7, D6, D5, D4, D3, D2]); simp (disch := omega) only [go_sem]
   decide
structure Ver where
 rep : Int
 seq : Nat
 data : List UInt8
 gone : Vc
def Bk (v : Ver) : List PV := .i .i64 v.rep :: .i .u32 v.seq :: .s v.data :: vE v.gone
def Pb : List Ver → Int → Nat → Nat → Nat × Bool
 | [], _, _, k => (k, false)
 | v :: l, r, q, k => if v.rep = r ∧ v.seq = q then (k, true) else if C8 r q v.rep v.seq = true then (k, false) else Pb l r q (k + 1)
theorem Oj (v : Ver) (K : KK) : LoadK (some (Bk v)) 0 2 true K = K (.vec 2 [.i .i64 v.rep, .i .u32 v.seq]) [] := by
 simp only [LoadK, Gr, eq_iff_iff];exact ⟨fun h => h.2.2, fun h => ⟨by simp [Bk], .inl trivial, h⟩⟩
theorem Adl (v : Ver) (K : KK) : LoadK (some (Bk v)) 0 11 true K = K (.vec 11 (Bk v)) [] := by
 simp only [LoadK, Gr, eq_iff_iff];have e : ((Bk v).drop 0).take 11 = Bk v := List.take_of_length_le (by simp [Bk, vE, Cb]);rw [e];exact ⟨fun h => h.2.2, fun h => ⟨by simp [Bk, vE, Cb], .inl trivial, h⟩⟩
theorem Ad2 (r : Int) (q : Nat) : C5 [K1.int .i64, K1.int .u32] [.i .i64 r, .i .u32 q] = True := eq_true rfl
def Arj (f : Bool) (l : List Ver) (r : Int) (q k : Nat) : FS := mk [(10, .pv (.i .i64 k)), (9, .pv (.i .i64 l.length)), (8, .pv (.sl f 11 (l.map Bk))), (3, .p 3 0), (0, .pv (.sl f 11 (l.map Bk)))] [(3, some (.var (.vec 2 [.i .i64 r, .i .u32 q])))]
set_option maxHeartbeats 1000000 in
theorem Ax1 {x : SV} {f : Bool} {l : List Ver} (r : Int) (q : Nat) {h d} (hx : Cl h [x, .vec 2 [.i .i64 r, .i .u32 q]] = [.pv (.sl f 11 (l.map Bk)), .vec 2 [.i .i64 r, .i .u32 q]]) (hl : Ba [x, .vec 2 [.i .i64 r, .i .u32 q]] = true) (hn : l.length ≤ 1000) :
 FunOk Try.prog 84 [x, .vec 2 [.i .i64 r, .i .u32 q]] h d (.tup [.pv (.i .i64 (Pb l r q 0).1), .pv (.b (Pb l r q 0).2)]) [] := by
 refine Cp Am fn84 (by simp) hl rfl fun F => ?_;rw [hx];simp (disch := omega) only [ir84, List.length_map, go_sem];refine Bd Am (Arj f l r q) (fun k => k ≤ l.length ∧ Pb l r q 0 = Pb (l.drop k) r q k) (fun k => l.length - k) 0 (by simp) (A2 ?_ ?_) fun k hk => ?_
 · simp (disch := omega) only [go_sem]
 · simp (disch := omega) only [go_sem]
 obtain ⟨hk1, hk2⟩ := hk;by_cases hlt : k < l.length
 · have hd : l.drop k = l[k] :: l.drop (k + 1) := List.drop_eq_getElem_cons hlt;have he : (l.map Bk)[k]? = some (Bk l[k]) := by simp [hlt]
   rw [hd] at hk2;generalize l[k] = v at *;simp only [Pb] at hk2;by_cases hid : v.rep = r ∧ v.seq = q
   · rw [if_pos hid] at hk2;have hp := Afi hid;simp (disch := omega) only [Arj, List.length_map, he, Adl, Oj, Ad2, hp, hk2, go_sem]
   · rw [if_neg hid] at hk2;have hp := Ry hid;simp (disch := omega) only [Arj, List.length_map, he, Adl, Oj, Ad2, hp, go_sem];refine Aa (K3 _ _ _ _) ?_;by_cases hl : C8 r q v.rep v.seq = true
     · rw [if_pos hl] at hk2;simp (disch := omega) only [hl, hk2, go_sem]
     · rw [if_neg hl] at hk2;have hl' : C8 r q v.rep v.seq = false := by simpa using hl
       simp (disch := omega) only [hl', go_sem];refine Au (k + 1) _ _ rfl ⟨by omega, hk2⟩ (by omega) ?_ ?_
       · simp (disch := omega) only [List.length_map, go_sem]
       · simp (disch := omega) only [go_sem]
 · have : k = l.length := by omega
   subst this;rw [List.drop_length] at hk2;simp only [Pb] at hk2;rw [hk2]
   (try simp only [D9, D8, D7, D6, D5, D4, D3, D2]); simp (disch := omega) only [Arj, List.length_map, go_sem]
theorem Anj (v : Ver) (K : KK) : LoadK (some (Bk v)) 3 8 true K = K (.vec 8 (vE v.gone)) [] := by
 simp only [LoadK, Gr, eq_iff_iff];have e : ((Bk v).drop 3).take 8 = vE v.gone := List.take_of_length_le (by simp [Bk, vE, Cb]);rw [e];exact ⟨fun h => h.2.2, fun h => ⟨by simp [Bk, vE, Cb], .inl trivial, h⟩⟩
theorem Sv (v : Ver) : (Bk v).length = 11 := by simp [Bk, vE, Cb]
theorem Aor (v : Ver) : C5 [K1.int .i64, K1.int .u32, .str, .int .u32, .int .u32, .int .u32, .int .u32, .int .u32, .int .u32, .int .u32, .int .u32] (Bk v) = True := eq_true rfl
theorem Z0 (c : List PV) : Rz c c = true := by simp [Rz]
def Acg (f g : Bool) (l m : List Ver) (k : Nat) : FS := mk [(5, .pv (.i .i64 k)), (0, .pv (.sl f 11 (l.map Bk))), (1, .pv (.sl g 11 (m.map Bk)))] []
theorem Axr {x y : SV} {f g : Bool} {l m : List Ver} {h d} (hx : Cl h [x, y] = [.pv (.sl f 11 (l.map Bk)), .pv (.sl g 11 (m.map Bk))]) (hl : Ba [x, y] = true) (he : l.map Bk = m.map Bk) (hn : l.length ≤ 1000) :
 FunOk Try.prog 38 [x, y] h d (.pv (.b true)) [] := by
 refine Cp Am fn38 (by simp) hl rfl fun F => ?_;have hlen : l.length = m.length := by simpa using congrArg List.length he
 rw [hx];simp (disch := omega) only [ir38, List.length_map, hlen, go_sem];refine Bd Am (Acg f g l m) (fun k => k ≤ m.length) (fun k => m.length - k) 0 (by simp) (A2 ?_ ?_) fun k hk => ?_
 · simp (disch := omega) only [go_sem]
 · simp (disch := omega) only [go_sem]
 by_cases hlt : k < m.length
 · have h2 : (m.map Bk)[k]? = some (Bk m[k]) := by simp [hlt]
   have h1 : (l.map Bk)[k]? = some (Bk m[k]) := by rw [he]; exact h2
   generalize m[k] = v at *;have hp := Z0 (Bk v);have hf := Aor v;simp (disch := omega) only [Acg, List.length_map, hlen, h1, h2, Adl, hp, hf, go_sem];refine Au (k + 1) _ _ rfl (by omega) (by omega) ?_ ?_
   · simp (disch := omega) only [go_sem]
   · simp (disch := omega) only [go_sem]
 · simp (disch := omega) only [Acg, List.length_map, hlen, go_sem]
def Co : List Ver → Int → Nat → Option Ver
 | [], _, _ => none
 | v :: l, r, q => if v.rep = r ∧ v.seq = q then some v else Co l r q
def Ky (v : Ver) (r : Int) (q : Nat) : Prop := v.rep = r ∧ v.seq = q
instance (v : Ver) (r : Int) (q : Nat) : Decidable (Ky v r q) := inferInstanceAs (Decidable (_ ∧ _))
theorem Adk (v : Ver) (K : KK) : LoadK (some (Bk v)) 2 1 false K = K (.pv (.s v.data)) [] := by
 simp only [LoadK, Gr, eq_iff_iff];exact ⟨fun h => h.2.2, fun h => ⟨by simp [Bk], .inr trivial, h⟩⟩
theorem Uc {r : Int} {q : Nat} {r' : Int} {q' : Nat} : C8 r q r' q' = true ↔ (q < q' ∨ q = q' ∧ r < r') := by simp [C8]
theorem Nf {r : Int} {q : Nat} {r' : Int} {q' : Nat} {r'' : Int} {q'' : Nat} (h : C8 r q r' q' = true) (k : C8 r' q' r'' q'' = true) : C8 r q r'' q'' = true := by
 rw [Uc] at *; omega
theorem Yn {r : Int} {q : Nat} {r' : Int} {q' : Nat} (h : C8 r q r' q' = true) : ¬ (r = r' ∧ q = q') := by
 rw [Uc] at h; omega
theorem An4 {r : Int} {q : Nat} {r' : Int} {q' : Nat} (h : ¬ (r = r' ∧ q = q')) (k : ¬ C8 r q r' q' = true) : C8 r' q' r q = true := by
 rw [Uc] at *; omega
def Cd (l : List Ver) : Prop := l.Pairwise fun a b => C8 a.rep a.seq b.rep b.seq = true
theorem Hu : ∀ {l : List Ver} {r q k i}, Pb l r q k = (i, true) → k ≤ i ∧ ∃ v, l[i - k]? = some v ∧ Ky v r q ∧ Co l r q = some v
 | [], r, q, k, i, h => by simp [Pb] at h
 | v :: l, r, q, k, i, h => by
   simp only [Pb] at h;split at h
   · rename_i hs;cases h;exact ⟨Nat.le_refl _, v, by simp, hs, by simp [Co, hs]⟩
   · rename_i hs;split at h
     · cases h
     · obtain ⟨h1, u, h2, h3, h4⟩ := Hu h;refine ⟨by omega, u, ?_, h3, by simp only [Co]; rw [if_neg hs]; exact h4⟩;rw [show i - k = (i - (k + 1)) + 1 by omega, List.getElem?_cons_succ]; exact h2
theorem Hi : ∀ {l : List Ver} {r q k i}, Cd l → Pb l r q k = (i, false) → k ≤ i ∧ i - k ≤ l.length ∧ Co l r q = none ∧ (∀ v ∈ l, ¬ Ky v r q) ∧ (∀ v ∈ l.take (i - k), C8 v.rep v.seq r q = true) ∧ ∀ v ∈ l.drop (i - k), C8 r q v.rep v.seq = true
 | [], r, q, k, i, _, h => by simp only [Pb] at h; cases h; simp [Co]
 | v :: l, r, q, k, i, hs, h => by
   obtain ⟨h1, h2⟩ := List.pairwise_cons.1 hs;simp only [Pb] at h;split at h
   · cases h
   · rename_i hn;split at h
     · rename_i hlt;cases h;have hall : ∀ u ∈ v :: l, C8 r q u.rep u.seq = true := fun u hu => by
        rcases List.mem_cons.1 hu with rfl | hu
        · exact hlt
        · exact Nf hlt (h1 u hu)
       have hno : ∀ u ∈ v :: l, ¬ Ky u r q := fun u hu e => Yn (hall u hu) ⟨e.1.symm, e.2.symm⟩;refine ⟨Nat.le_refl _, by simp, ?_, hno, by simp, by simpa using hall⟩;have : ∀ m : List Ver, (∀ u ∈ m, ¬ Ky u r q) → Co m r q = none := fun m hm => by
        induction m with
        | nil => rfl
        | cons u m ih => simp only [Co]; rw [if_neg (show ¬ (u.rep = r ∧ u.seq = q) from hm u List.mem_cons_self)]; exact ih fun x hx => hm x (List.mem_cons_of_mem _ hx)
       exact this _ hno
     · rename_i hge;obtain ⟨g1, g2, g3, g4, g5, g6⟩ := Hi h2 h;have e : i - k = (i - (k + 1)) + 1 := by omega
       refine ⟨by omega, by rw [e]; simpa using g2, by simp only [Co]; rw [if_neg hn]; exact g3, fun u hu => ?_, ?_, ?_⟩
       · rcases List.mem_cons.1 hu with rfl | hu
         · exact hn
         · exact g4 u hu
       · rw [e, List.take_succ_cons];intro u hu;rcases List.mem_cons.1 hu with rfl | hu
         · exact An4 (fun e => hn ⟨e.1.symm, e.2.symm⟩) hge
         · exact g5 u hu
       · rw [e, List.drop_succ_cons]; exact g6
theorem Ni {l : List Ver} {r : Int} {q : Nat} : Co l r q = none ↔ ∀ v ∈ l, ¬ Ky v r q := by
 induction l with
 | nil => simp [Co]
 | cons u m ih =>
   simp only [Co];by_cases h : u.rep = r ∧ u.seq = q
   · rw [if_pos h];exact ⟨fun e => (nomatch e), fun e => absurd h (e u List.mem_cons_self)⟩
   · rw [if_neg h, ih];simp only [List.mem_cons, forall_eq_or_imp];exact ⟨fun e => ⟨h, e⟩, fun e => e.2⟩
theorem Wq {l : List Ver} {r : Int} {q : Nat} {v : Ver} (h : Co l r q = some v) : v ∈ l ∧ Ky v r q := by
 induction l with
 | nil => simp [Co] at h
 | cons u m ih =>
   simp only [Co] at h;by_cases e : u.rep = r ∧ u.seq = q
   · rw [if_pos e] at h; cases h; exact ⟨List.mem_cons_self, e⟩
   · rw [if_neg e] at h; exact ⟨List.mem_cons_of_mem _ (ih h).1, (ih h).2⟩
def C3 (l : List Ver) (r : Int) (q : Nat) : List UInt8 × Int := if r = 0 ∧ q = 0 then ([], 0) else match Co l r q with
 | some v => (v.data, 0)
 | none => ([], 2)
theorem Yz {l : List Ver} {r : Int} {q : Nat} (h : r = 0 ∧ q = 0) : C3 l r q = ([], 0) := by simp [C3, h]
theorem Yy {l : List Ver} {r : Int} {q : Nat} {v : Ver} (h : ¬ (r = 0 ∧ q = 0)) (k : Co l r q = some v) : C3 l r q = (v.data, 0) := by unfold C3; rw [if_neg h, k]
theorem Aum {l : List Ver} {r : Int} {q : Nat} (h : ¬ (r = 0 ∧ q = 0)) (k : Co l r q = none) : C3 l r q = ([], 2) := by unfold C3; rw [if_neg h, k]
theorem Axn : Rz [.i .i64 0, .i .u32 0] [.i .i64 0, .i .u32 0] = true := by simp [Rz]
theorem Axo {r : Int} {q : Nat} (h : ¬ (r = 0 ∧ q = 0)) : Rz [.i .i64 r, .i .u32 q] [.i .i64 0, .i .u32 0] = false := Ry (q' := 0) fun e => h e
theorem Aga : C5 [K1.int .i64, K1.int .u32] [.i .i64 0, .i .u32 0] = True := eq_true rfl
set_option maxHeartbeats 1000000 in
theorem Amg {x : SV} {f : Bool} {l : List Ver} (r : Int) (q : Nat) {h d} (hx : Cl h [x, .vec 2 [.i .i64 r, .i .u32 q]] = [.pv (.sl f 11 (l.map Bk)), .vec 2 [.i .i64 r, .i .u32 q]]) (hl : Ba [x, .vec 2 [.i .i64 r, .i .u32 q]] = true) (hs : Cd l) (hn : l.length ≤ 1000) :
 FunOk Try.prog 81 [x, .vec 2 [.i .i64 r, .i .u32 q]] h d (.tup [.pv (.s (C3 l r q).1), .pv (.i .i64 (C3 l r q).2)]) [] := by
 refine Cp Am fn81 (by simp) hl rfl fun F => ?_;rw [hx];by_cases hz : r = 0 ∧ q = 0
 · have e := Yz (l := l) hz;rw [e];obtain ⟨rfl, rfl⟩ := hz;have e1 := Axn;have e2 := Aga
   (try simp only [D9, D8, D7, D6, D5, D4, D3, D2]); simp (disch := omega) only [ir81, e1, e2, Int.natCast_zero, go_sem]
 · have hp := Axo hz;simp (disch := omega) only [ir81, Aga, Ad2, hp, go_sem];refine Aa (Ax1 (l := l) r q rfl rfl hn) ?_;rcases ha : Pb l r q 0 with ⟨i, b⟩
   cases b with
   | true =>
     obtain ⟨_, v, h2, h3, h4⟩ := Hu ha;rw [Yy hz h4];have he : (l.map Bk)[i]? = some (Bk v) := by rw [List.getElem?_map, show l[i]? = some v from by simpa using h2]; rfl
     have hi : i < l.length := by
      have := (List.getElem?_eq_some_iff.1 h2).1; simpa using this
     (try simp only [D9, D8, D7, D6, D5, D4, D3, D2]); simp (disch := omega) only [List.length_map, he, Adk, go_sem]
   | false =>
     obtain ⟨_, _, h3, _⟩ := Hi hs ha;rw [Aum hz h3]
     (try simp only [D9, D8, D7, D6, D5, D4, D3, D2]); simp (disch := omega) only [go_sem]
theorem A3d (b : Bg) (K : KK) : LoadK (some (Ev b)) 0 2 true K = K (.vec 2 [.i .i64 b.1, .i .u32 b.2]) [] := by
 simp only [LoadK, Gr, eq_iff_iff];exact ⟨fun h => h.2.2, fun h => ⟨by simp [Ev], .inl trivial, h⟩⟩
def Q6 (v : Ver) (r : Int) (q : Nat) : Ver := { v with gone := Bq v.gone r q }
def C6 (l : List Ver) (bs : List Bg) (r : Int) (q : Nat) : List Ver := l.map fun x => if (x.rep, x.seq) ∈ bs then Q6 x r q else x
theorem Ab3 (g : Vc) (r : Int) (q : Nat) : Bq (Bq g r q) r q = Bq g r q := by
 unfold Bq;split
 · funext i;simp only [Gy];split <;> simp
 · rfl
theorem L9 (l : List Ver) (r : Int) (q : Nat) : C6 l [] r q = l := by simp [C6]
theorem Ahw (l : List Ver) (bs) (r : Int) (q : Nat) : (C6 l bs r q).length = l.length := by simp [C6]
theorem Hd (x : Ver) (bs : List Bg) (r : Int) (q : Nat) : (if (x.rep, x.seq) ∈ bs then Q6 x r q else x).rep = x.rep ∧ (if (x.rep, x.seq) ∈ bs then Q6 x r q else x).seq = x.seq := by split <;> exact ⟨rfl, rfl⟩
theorem Og {l : List Ver} {bs} {r : Int} {q : Nat} (h : Cd l) : Cd (C6 l bs r q) := by
 unfold C6 Cd;rw [List.pairwise_map];refine List.Pairwise.imp (fun {a b} hab => ?_) h;rw [(Hd a bs r q).1, (Hd a bs r q).2, (Hd b bs r q).1, (Hd b bs r q).2]; exact hab
theorem Abi (bs : List Bg) (r : Int) (q : Nat) (r' : Int) (q' : Nat) : ∀ (l : List Ver) (k : Nat), Pb (C6 l bs r q) r' q' k = Pb l r' q' k
 | [], k => rfl
 | x :: l, k => by
   have ih := Abi bs r q r' q' l (k + 1);unfold C6 at ih ⊢;simp only [List.map_cons, Pb, ih, (Hd x bs r q).1, (Hd x bs r q).2]
theorem Zr {l : List Ver} (h : Cd l) {i j : Nat} {a b : Ver} (hi : l[i]? = some a) (hj : l[j]? = some b) (he : a.rep = b.rep ∧ a.seq = b.seq) : i = j := by
 obtain ⟨h1, rfl⟩ := List.getElem?_eq_some_iff.1 hi;obtain ⟨h2, rfl⟩ := List.getElem?_eq_some_iff.1 hj;rcases Nat.lt_trichotomy i j with h3 | h3 | h3
 · exact absurd he (Yn (List.pairwise_iff_getElem.1 h i j h1 h2 h3))
 · exact h3
 · exact absurd ⟨he.1.symm, he.2.symm⟩ (Yn (List.pairwise_iff_getElem.1 h j i h2 h1 h3))
theorem Am6 {l : List Ver} (h : Cd l) {bs : List Bg} {b : Bg} {r : Int} {q : Nat} {i : Nat} {u : Ver} (hi : (C6 l bs r q)[i]? = some u) (hu : Ky u b.1 b.2) :
 (C6 l bs r q).set i (Q6 u r q) = C6 l (bs ++ [b]) r q := by
 apply List.ext_getElem?;intro j;have hi' := hi;unfold C6 at hi';rw [List.getElem?_map] at hi';obtain ⟨x, hx, rfl⟩ := Option.map_eq_some_iff.1 hi';have hxi : (x.rep, x.seq) = b := by
  have h1 := (Hd x bs r q).1;have h2 := (Hd x bs r q).2;obtain ⟨g1, g2⟩ := hu;rw [h1] at g1; rw [h2] at g2;rw [g1, g2]
 by_cases hij : i = j
 · subst hij;rw [List.getElem?_set_self (List.getElem?_eq_some_iff.1 hi).1];unfold C6;rw [List.getElem?_map, hx];simp only [Option.map_some, List.mem_append, List.mem_singleton, hxi, or_true, if_true, Option.some.injEq];split
   · simp only [Q6, Ab3]
   · rfl
 · rw [List.getElem?_set_ne hij];unfold C6;rw [List.getElem?_map, List.getElem?_map];cases hy : l[j]? with
   | none => rfl
   | some y =>
     have hne : ¬ (y.rep, y.seq) = b := fun e => hij (Zr h hx hy (by rw [← e] at hxi; simpa using hxi));simp only [Option.map_some, List.mem_append, List.mem_singleton, hne, or_false]
def Dw (l : List Ver) (bs : List Bg) : Prop := ∃ b ∈ bs, Co l b.1 b.2 = none
def Fe (l : List Ver) (bs : List Bg) (v : Ver) : List Ver := (C6 l bs v.rep v.seq).take (Pb l v.rep v.seq 0).1 ++ v :: (C6 l bs v.rep v.seq).drop (Pb l v.rep v.seq 0).1
theorem Acl (u : Ver) (g : Vc) : splice (Bk u) 3 (vE g) = Bk { u with gone := g } := by
 simp [splice, Bk, vE, Cb]
def Akw (f : Bool) (l : List Ver) (g : Bool) (bs : List Bg) (v : Ver) (k : Nat) : FS := mk [(19, .pv (.i .i64 k)), (18, .pv (.i .i64 bs.length)), (17, .pv (.sl g 2 (bs.map Ev))), (8, .os 16), (5, .p 5 0)]
 [(5, some (.var (.vec 11 (Bk v)))), (16, some (.row 11 ((C6 l (bs.take k) v.rep v.seq).map Bk)))]
set_option maxHeartbeats 2000000 in
theorem Age {F : Fr} {f : Bool} {l : List Ver} {g : Bool} {bs : List Bg} {v : Ver} {R : SV → (Nat → Option Blk) → Prop} (hs : Cd l) (hn : l.length ≤ 900) (hbn : bs.length ≤ 900)
 (h1 : Dw l bs → ∀ h, R (.tup [.pv (.sl true 0 []), .pv (.i .i64 2)]) h)
 (h2 : ¬ Dw l bs → (Co l v.rep v.seq).isSome = true → ∀ h, R (.tup [.pv (.sl true 0 []), .pv (.i .i64 11)]) h)
 (h3 : ¬ Dw l bs → Co l v.rep v.seq = none → ∀ h n, h n = some (.row 11 ((Fe l bs v).map Bk)) → R (.tup [.os n, .pv (.i .i64 0)]) h) :
 sx (Rt Try.prog F 57) ir69 (Qq [.t 6, .t 7] R) (mk (Ca 0 [.pv (.sl f 11 (l.map Bk)), .pv (.sl g 2 (bs.map Ev)), .vec 11 (Bk v)]) []) := by
 have hv := Sv v;simp (disch := omega) only [ir69, List.length_map, go_sem];refine Aa (Asd (es := l.map Bk) rfl rfl (.inr rfl) (by simp; omega) rfl) ?_;simp (disch := omega) only [List.length_map, go_sem];refine Bd Am (Akw f l g bs v) (fun k => k ≤ bs.length ∧ ∀ b ∈ bs.take k, Co l b.1 b.2 ≠ none) (fun k => bs.length - k) 0 (by simp) (A2 ?_ ?_) fun k hk => ?_
 · simp (disch := omega) only [go_sem]
 · simp (disch := omega) only [List.take_zero, L9, go_sem]
 obtain ⟨hk1, hk2⟩ := hk;have hsM := Og (bs := bs.take k) (r := v.rep) (q := v.seq) hs;have hlM := Ahw l (bs.take k) v.rep v.seq;have haM := fun r q => Abi (bs.take k) v.rep v.seq r q l 0;by_cases hlt : k < bs.length
 · have he : (bs.map Ev)[k]? = some (Ev bs[k]) := by simp [hlt]
   have ht : bs.take (k + 1) = bs.take k ++ [bs[k]] := by rw [List.take_add_one, List.getElem?_eq_getElem hlt]; rfl
   have hb : bs[k] ∈ bs := List.getElem_mem hlt;generalize bs[k] = b at *;simp (disch := omega) only [Akw, List.length_map, he, A3d, go_sem];refine Aa (Ax1 (l := C6 l (bs.take k) v.rep v.seq) b.1 b.2 rfl rfl (by omega)) ?_;rcases ha : Pb (C6 l (bs.take k) v.rep v.seq) b.1 b.2 0 with ⟨i, is⟩
   have ha' := ha;rw [haM] at ha';cases is with
   | false =>
     obtain ⟨_, _, g3, _⟩ := Hi hs ha'
     (try simp only [D9, D8, D7, D6, D5, D4, D3, D2]); simp (disch := omega) only [go_sem]
     exact h1 ⟨b, hb, g3⟩ _
   | true =>
     obtain ⟨_, u, g2, g3, g4⟩ := Hu ha;obtain ⟨_, u', _, _, g5⟩ := Hu ha';have hu : (C6 l (bs.take k) v.rep v.seq)[i]? = some u := by simpa using g2
     have hi : i < (C6 l (bs.take k) v.rep v.seq).length := (List.getElem?_eq_some_iff.1 hu).1;have heu : ((C6 l (bs.take k) v.rep v.seq).map Bk)[i]? = some (Bk u) := by rw [List.getElem?_map, hu]; rfl
     have hm := Am6 (b := b) hs hu g3;have hgd : ((C6 l (bs.take k) v.rep v.seq).map Bk).getD i [] = Bk u := by rw [List.getD_eq_getElem?_getD, heu]; rfl
     (try simp only [D9, D8, D7, D6, D5, D4, D3, D2]); simp (disch := omega) only [List.length_map, heu, Anj, Oj, go_sem]
     refine Aa (X1 _ _ _) ?_;have hw : splice (Bk u) 3 (vE (Bq u.gone v.rep v.seq)) = Bk (Q6 u v.rep v.seq) := Acl _ _;simp (disch := omega) only [List.length_map, heu, hgd, hw, go_sem];refine Au (k + 1) _ _ rfl ⟨by omega, fun c hc => ?_⟩ (by omega) ?_ ?_
     · rw [ht] at hc;rcases List.mem_append.1 hc with hc | hc
       · exact hk2 c hc
       · simp at hc; subst hc; rw [g5]; simp
     · simp (disch := omega) only [List.length_map, go_sem]
     · simp (disch := omega) only [go_sem];rw [ht, ← hm, List.map_set]
 · obtain rfl : k = bs.length := by omega
   have hmiss : ¬ Dw l bs := fun ⟨b, hb, e⟩ => hk2 b (by rw [List.take_length]; exact hb) e;rw [List.take_length] at hsM hlM haM;have e := List.take_length (l := bs);simp (disch := omega) only [Akw, e, Oj, go_sem];refine Aa (Ax1 (l := C6 l bs v.rep v.seq) v.rep v.seq rfl rfl (by omega)) ?_;rcases ha : Pb (C6 l bs v.rep v.seq) v.rep v.seq 0 with ⟨i, is⟩
   have ha' := ha;rw [haM] at ha';cases is with
   | true =>
     obtain ⟨_, u', _, _, g5⟩ := Hu ha'
     (try simp only [D9, D8, D7, D6, D5, D4, D3, D2]); simp (disch := omega) only [go_sem]
     exact h2 hmiss (by rw [g5]; rfl) _
   | false =>
     obtain ⟨_, g2, g3, _⟩ := Hi hs ha'
     (try simp only [D9, D8, D7, D6, D5, D4, D3, D2]); simp (disch := omega) only [hv, go_sem]
     refine Aa (Aab ((C6 l bs v.rep v.seq).map Bk) (Bk v) i (by simp [hlM]; omega) (by simp [hlM]; omega) (by intro c hc; obtain ⟨x, _, rfl⟩ := List.mem_map.1 hc; exact Sv x) hv rfl rfl) ?_;simp (disch := omega) only [go_sem];refine h3 hmiss g3 _ _ ?_;simp (disch := omega) only [go_sem];simp [Fe, ha', List.map_take, List.map_drop]
theorem Ada {x y : SV} {f g : Bool} {l : List Ver} {bs : List Bg} {v : Ver} {h d} (hx : Cl h [x, y, .vec 11 (Bk v)] = [.pv (.sl f 11 (l.map Bk)), .pv (.sl g 2 (bs.map Ev)), .vec 11 (Bk v)]) (hl : Ba [x, y, .vec 11 (Bk v)] = true)
 (hs : Cd l) (hn : l.length ≤ 900) (hbn : bs.length ≤ 900) (hm : Dw l bs) :
 FunOk Try.prog 69 [x, y, .vec 11 (Bk v)] h d (.tup [.pv (.sl true 0 []), .pv (.i .i64 2)]) [] := by
 refine Cp Am fn69 (by simp) hl rfl fun F => ?_;rw [hx];exact Age hs hn hbn (fun _ _ => rfl) (fun h => absurd hm h) (fun h => absurd hm h)
end Go.Proofs.Ythmjebkldgdeiaa.Fw
namespace Go.Proofs.Ythmjebkldgdeiaa.Fw
open Go.RowKit Go.Proofs
variable {P : Program} {F : Fr} {N : Nat} {ρ ρ' : Nat → Value} {s : FS} {a : Act} {w w' : World} {V V' : View}
def PImp (x y : PV) : Prop := ∀ (V : View) (v : Value), PConc V x v → PConc V y v
theorem PImp.refl (x : PV) : PImp x x := fun _ _ h => h
def PImpL : List PV → List PV → Prop
 | [], [] => True
 | x :: l, y :: m => PImp x y ∧ PImpL l m
 | _, _ => False
def PImpR : List (List PV) → List (List PV) → Prop
 | [], [] => True
 | x :: l, y :: m => PImpL x y ∧ PImpR l m
 | _, _ => False
theorem PImpL.refl : ∀ l : List PV, PImpL l l
 | [] => trivial
 | x :: l => ⟨.refl x, PImpL.refl l⟩
theorem PImpR.refl : ∀ l : List (List PV), PImpR l l
 | [] => trivial
 | x :: l => ⟨.refl x, PImpR.refl l⟩
theorem PImpL.len : ∀ {l m : List PV}, PImpL l m → l.length = m.length
 | [], [], _ => rfl
 | x :: l, y :: m, h => by simp [PImpL.len h.2]
 | [], _ :: _, h => h.elim
 | _ :: _, [], h => h.elim
theorem PImpR.len : ∀ {l m : List (List PV)}, PImpR l m → l.length = m.length
 | [], [], _ => rfl
 | x :: l, y :: m, h => by simp [PImpR.len h.2]
 | [], _ :: _, h => h.elim
 | _ :: _, [], h => h.elim
theorem PImpL.get : ∀ {l m : List PV} {j : Nat} {y : PV}, PImpL l m → m[j]? = some y → ∃ x, l[j]? = some x ∧ PImp x y
 | x :: l, z :: m, 0, y, h, hy => by simp at hy; subst hy; exact ⟨x, by simp, h.1⟩
 | x :: l, z :: m, j + 1, y, h, hy => by
   obtain ⟨u, h1, h2⟩ := PImpL.get (j := j) h.2 (by simpa using hy);exact ⟨u, by simpa using h1, h2⟩
 | [], [], j, y, _, hy => by simp at hy
 | [], _ :: _, _, _, h, _ => h.elim
 | _ :: _, [], _, _, h, _ => h.elim
theorem PImpR.get : ∀ {l m : List (List PV)} {j : Nat} {y : List PV}, PImpR l m → m[j]? = some y → ∃ x, l[j]? = some x ∧ PImpL x y
 | x :: l, z :: m, 0, y, h, hy => by simp at hy; subst hy; exact ⟨x, by simp, h.1⟩
 | x :: l, z :: m, j + 1, y, h, hy => by
   obtain ⟨u, h1, h2⟩ := PImpR.get (j := j) h.2 (by simpa using hy);exact ⟨u, by simpa using h1, h2⟩
 | [], [], j, y, _, hy => by simp at hy
 | [], _ :: _, _, _, h, _ => h.elim
 | _ :: _, [], _, _, h, _ => h.elim
theorem PImpL.app : ∀ {a b c d : List PV}, PImpL a b → PImpL c d → PImpL (a ++ c) (b ++ d)
 | [], [], c, d, _, k => k
 | x :: a, y :: b, c, d, h, k => ⟨h.1, PImpL.app h.2 k⟩
 | [], _ :: _, _, _, h, _ => h.elim
 | _ :: _, [], _, _, h, _ => h.elim
theorem PImpR.app : ∀ {a b c d : List (List PV)}, PImpR a b → PImpR c d → PImpR (a ++ c) (b ++ d)
 | [], [], c, d, _, k => k
 | x :: a, y :: b, c, d, h, k => ⟨h.1, PImpR.app h.2 k⟩
 | [], _ :: _, _, _, h, _ => h.elim
 | _ :: _, [], _, _, h, _ => h.elim
theorem Hc {f f' : Bool} {z z' : Nat} {es es' : List (List PV)} (hf : f' = true → f = true) (hz : es = [] ∨ z = z') (h : PImpR es es') : PImp (.sl f z es) (.sl f' z' es') := by
 intro V v hv;cases hv with
 | sl full sz es a cap cs bl off arr hcap hfull hsz ha hcs hel =>
   have hl := h.len;have hne : es' ≠ [] → es ≠ [] := fun e1 e2 => by subst e2; exact e1 (List.eq_nil_of_length_eq_zero hl.symm)
   rw [hl];refine .sl f' z' es' a cap cs bl off arr (by omega) (fun e => by rw [hfull (hf e)]; exact hl) (fun c hc => ?_) (fun e => ha (hne e)) (fun i j hi hj => ?_) fun i j c x hi hx => ?_
   · obtain ⟨j, hj⟩ := List.mem_iff_getElem?.1 hc;obtain ⟨u, h1, h2⟩ := h.get hj;rw [← h2.len, hsz u (List.mem_of_getElem? h1)];exact hz.resolve_left (hne (List.ne_nil_of_mem hc))
   · have e : z = z' := hz.resolve_left (hne fun e => by subst e; simp at hi);subst e;exact hcs i j (by omega) hj
   · obtain ⟨u, h1, h2⟩ := h.get hi;obtain ⟨y, h3, h4⟩ := h2.get hx;exact h4 V _ (hel i j u y h1 h3)
theorem Ua {x y : PV} (h : PImp x y) : Imp (.pv x) (.pv y) := fun V ρ v hv => by simp only [Conc] at hv ⊢; exact h V v hv
def ImpS : List SV → List SV → Prop
 | [], [] => True
 | x :: l, y :: m => (Imp x y ∧ x.width = y.width) ∧ ImpS l m
 | _, _ => False
theorem ImpS.cells : ∀ {l m : List SV} {vs : List Value}, ImpS l m → Cells V ρ l vs → Cells V ρ m vs
 | [], [], vs, _, h => h
 | x :: l, y :: m, vs, h, k => by
   simp only [Cells] at k ⊢;obtain ⟨u, us, rfl, k1, k2, k3, k4⟩ := k;exact ⟨u, us, rfl, h.1.1 V ρ u k1, by rw [← h.1.2]; exact k2, k3, h.2.cells k4⟩
 | [], _ :: _, _, h, _ => h.elim
 | _ :: _, [], _, h, _ => h.elim
theorem Ub {l m : List SV} (h : ImpS l m) : Imp (.agg l) (.agg m) := fun V ρ v hv => by
 simp only [Conc] at hv ⊢;obtain ⟨vs, h1, h2⟩ := hv;exact ⟨vs, h1, h.cells h2⟩
theorem Atp {l m : List SV} (h : ImpL l m) : Imp (.tup l) (.tup m) := fun V ρ v hv => by
 simp only [Conc] at hv ⊢;obtain ⟨vs, h1, h2⟩ := hv;exact ⟨vs, h1, h.conc h2⟩
theorem Ais (hm : P.follows .mixedOrders = true) {f N' : Nat} {rs : List Rv} {c : C} (hf : A7 P f = some (N', rs, c)) {args : List SV} {h : Nat → Option Blk} {d : Nat} {x : SV} (hlen : args.length ≤ N')
 (hargs : SV.closedL args = true) (hx : x.closed = true) (hrun : ∀ F, sx (Rt P F N') c (Y8 rs fun y _ => Imp y x) (mk (Ca 0 args) [])) : FunOk P f args h d x [] := by
 obtain ⟨h1, h2, h3⟩ := Bl hargs;refine ⟨Bs hf, fun F N ρ s a w hR hh vs hc => ?_⟩;refine Calls.mono (Cs hm hf (h := h) hlen h2 M5 (by rw [h3]; exact hrun) hR hh hc) fun e w' he => ?_;obtain ⟨v, rfl, hg, N'', ρ', s', a', y, hR', hy, hyx⟩ := he;rw [h1, Ck] at hR' hy;exact ⟨v, ρ, rfl, hR.grew hg, Bf (Ds hR') hx (hyx _ _ _ hy)⟩
theorem Ti {N' : Nat} {a' : Act} {s' : FS} (hR' : RelR ⟨w, fun _ => False, F.out ρ s.h, fun _ => undef, []⟩ N' ρ' s' a' w') {n sz : Nat} {es : List (List PV)} (hn : s'.h n = some (.row sz es)) : PConc (vw F w' ρ s) (.sl false sz es) (ρ' n) :=
 (Jo hR' hn).mono (A4 fun b c ho hc => ⟨fun hb => ho (.inr hb), hc⟩)
theorem Ui (hm : P.follows .mixedOrders = true) {f N' : Nat} {rs : List Rv} {c : C} (hf : A7 P f = some (N', rs, c)) {args : List SV} {h : Nat → Option Blk} {d : Nat} {sz : Nat} {es : List (List PV)} (hlen : args.length ≤ N')
 (hargs : SV.closedL args = true) (hrun : ∀ F, sx (Rt P F N') c (Qq rs fun y g => (∃ n, y = .os n ∧ g n = some (.row sz es)) ∨ ∃ z, y = .pv (.sl true z []) ∧ es = [] ∧ 0 < sz) (mk (Ca 0 args) [])) :
 FunOk P f args h d (.pv (.sl false sz es)) [] := by
 obtain ⟨h1, h2, h3⟩ := Bl hargs;refine ⟨Bs hf, fun F N ρ s a w hR hh vs hc => ?_⟩;refine Calls.mono (Cs hm hf (h := h) hlen h2 Jq (by rw [h3]; exact hrun) hR hh hc) fun e w' he => ?_;obtain ⟨v, rfl, hg, N'', ρ', s', a', y, hR', hy, hyy⟩ := he;rw [h1, Ck] at hR' hy;refine ⟨v, ρ, rfl, hR.grew hg, ?_⟩;rcases hyy with ⟨n, rfl, hn⟩ | ⟨z, rfl, rfl, hsz⟩
 · simp only [Conc] at hy ⊢;rw [hy.1];exact Ti hR' hn
 · simp only [Conc] at hy ⊢;exact (Hc (by simp) (.inl rfl) (.refl [])) _ _ (hy.mono (Ds hR'))
theorem Air (hm : P.follows .mixedOrders = true) {f N' : Nat} {rs : List Rv} {c : C} (hf : A7 P f = some (N', rs, c)) {args : List SV} {h : Nat → Option Blk} {d : Nat} {sz : Nat} {es : List (List PV)} {z0 : SV} (hlen : args.length ≤ N')
 (hargs : SV.closedL args = true) (hz : z0.closed = true) (hrun : ∀ F, sx (Rt P F N') c (Qq rs fun y g => (∃ n, y = .tup [.os n, z0] ∧ g n = some (.row sz es)) ∨ ∃ z, y = .tup [.pv (.sl true z []), z0] ∧ es = []) (mk (Ca 0 args) [])) :
 FunOk P f args h d (.tup [.pv (.sl false sz es), z0]) [] := by
 obtain ⟨h1, h2, h3⟩ := Bl hargs;refine ⟨Bs hf, fun F N ρ s a w hR hh vs hc => ?_⟩;refine Calls.mono (Cs hm hf (h := h) hlen h2 Jq (by rw [h3]; exact hrun) hR hh hc) fun e w' he => ?_;obtain ⟨v, rfl, hg, N'', ρ', s', a', y, hR', hy, hyy⟩ := he;rw [h1, Ck] at hR' hy;refine ⟨v, ρ, rfl, hR.grew hg, ?_⟩;rcases hyy with ⟨n, rfl, hn⟩ | ⟨z, rfl, rfl⟩
 · simp only [Conc, ConcL] at hy ⊢;obtain ⟨vs, rfl, u, us, rfl, hu, u2, us2, rfl, hu2, rfl⟩ := hy;refine ⟨_, rfl, u, _, rfl, ?_, u2, _, rfl, Bf (Ds hR') hz hu2, rfl⟩;rw [hu.1]; exact Ti hR' hn
 · simp only [Conc, ConcL] at hy ⊢;obtain ⟨vs, rfl, u, us, rfl, hu, u2, us2, rfl, hu2, rfl⟩ := hy;exact ⟨_, rfl, u, _, rfl, (Hc (by simp) (.inl rfl) (.refl [])) _ _ (hu.mono (Ds hR')), u2, _, rfl, Bf (Ds hR') hz hu2, rfl⟩
theorem DeepOk.frz {f : Nat} {args args' : List SV} {h h' : Nat → Option Blk} {d d' : Nat} {x : SV} {u : List HU} {n sz : Nat} {es : List (List PV)} (hn : h n = some (.row sz es)) (ha : SV.frzL n (.sl false sz es) args = args')
 (hh' : ∀ k ∈ Aw args', (if k = n then none else (h k).map (Blk.frz n (.sl false sz es))) = h' k) (hf : FunOk P f args' h' d' x u) : DeepOk P f args h d x (.frz n (.sl false sz es) :: u) := by
 refine ⟨hf.1, fun F N ρ s a w hR hh vs hv => ?_⟩;subst ha;have hs : s.h n = some (.row sz es) := by rw [hh]; exact hn
 obtain ⟨hR', hV, hV2⟩ := hR.frz hs;have hp := (Jo hR hs).mono hV2;exact hf.2 F N ρ (s.frz n (.sl false sz es)) a w hR' (fun k hk => by rw [← hh' k hk]; simp only [FS.frz, hh]) vs (ConcL.frz hV hp hv)
end Go.Proofs.Ythmjebkldgdeiaa.Fw
namespace Go.Proofs.Ythmjebkldgdeiaa.Fw
open Go.RowKit Go.Proofs
structure Obj where
 id : Bg
 dir : Bool
 last : Bg
 name : List UInt8
 seen : Vc
 vers : List Ver
def Du (f : Bool) (z : Nat) (o : Obj) : List PV := [.i .i64 o.id.1, .i .u32 o.id.2, .b o.dir, .i .i64 o.last.1, .i .u32 o.last.2, .s o.name] ++ vE o.seen ++ [.sl f z (o.vers.map Bk)]
def Av (o : Obj) : List PV := Du false 11 o
theorem Dd (f z) (o : Obj) : (Du f z o).length = 15 := by simp [Du, Bw]
theorem Oc (o : Obj) : (Av o).length = 15 := Dd _ _ o
theorem Ash {f : Bool} {z : Nat} (o : Obj) (h : o.vers = [] ∨ z = 11) : PImpL (Du f z o) (Av o) := by
 refine PImpL.app (PImpL.refl _) ⟨Hc (by simp) (h.imp (fun e => by rw [e]; rfl) id) (.refl _), trivial⟩
theorem Ah3 (f : Bool) (z : Nat) (o : Obj) (K : KK) : LoadK (some (Du f z o)) 0 2 true K = K (.vec 2 ([.i .i64 o.id.1, .i .u32 o.id.2])) [] := by
 simp only [LoadK, Gr, eq_iff_iff];have e : ((Du f z o).drop 0).take 2 = [.i .i64 o.id.1, .i .u32 o.id.2] := by
  obtain ⟨i, b, l, n, s, v⟩ := o;simp only [Du, vE, Cb]; rfl
 rw [e];exact ⟨fun h => h.2.2, fun h => ⟨by simp [Dd], .inl trivial, h⟩⟩
theorem Aay (f : Bool) (z : Nat) (o : Obj) (K : KK) : LoadK (some (Du f z o)) 3 2 true K = K (.vec 2 ([.i .i64 o.last.1, .i .u32 o.last.2])) [] := by
 simp only [LoadK, Gr, eq_iff_iff];have e : ((Du f z o).drop 3).take 2 = [.i .i64 o.last.1, .i .u32 o.last.2] := by
  obtain ⟨i, b, l, n, s, v⟩ := o;simp only [Du, vE, Cb]; rfl
 rw [e];exact ⟨fun h => h.2.2, fun h => ⟨by simp [Dd], .inl trivial, h⟩⟩
theorem Aaw (f : Bool) (z : Nat) (o : Obj) (K : KK) : LoadK (some (Du f z o)) 6 8 true K = K (.vec 8 (vE o.seen)) [] := by
 simp only [LoadK, Gr, eq_iff_iff];have e : ((Du f z o).drop 6).take 8 = vE o.seen := by
  obtain ⟨i, b, l, n, s, v⟩ := o;simp only [Du, vE, Cb]; rfl
 rw [e];exact ⟨fun h => h.2.2, fun h => ⟨by simp [Dd], .inl trivial, h⟩⟩
theorem Adj (f : Bool) (z : Nat) (o : Obj) (K : KK) : LoadK (some (Du f z o)) 2 1 false K = K (.pv (.b o.dir)) [] := by
 simp only [LoadK, Gr, eq_iff_iff];have e : (Du f z o).getD 2 (.b false) = .b o.dir := by
  obtain ⟨i, b, l, n, s, v⟩ := o;simp only [Du, vE, Cb]; rfl
 rw [e];exact ⟨fun h => h.2.2, fun h => ⟨by simp [Dd], .inr trivial, h⟩⟩
theorem Aax (f : Bool) (z : Nat) (o : Obj) (K : KK) : LoadK (some (Du f z o)) 5 1 false K = K (.pv (.s o.name)) [] := by
 simp only [LoadK, Gr, eq_iff_iff];have e : (Du f z o).getD 5 (.b false) = .s o.name := by
  obtain ⟨i, b, l, n, s, v⟩ := o;simp only [Du, vE, Cb]; rfl
 rw [e];exact ⟨fun h => h.2.2, fun h => ⟨by simp [Dd], .inr trivial, h⟩⟩
theorem Aav (f : Bool) (z : Nat) (o : Obj) (K : KK) : LoadK (some (Du f z o)) 14 1 false K = K (.pv (.sl f z (o.vers.map Bk))) [] := by
 simp only [LoadK, Gr, eq_iff_iff];have e : (Du f z o).getD 14 (.b false) = .sl f z (o.vers.map Bk) := by
  obtain ⟨i, b, l, n, s, v⟩ := o;simp only [Du, vE, Cb]; rfl
 rw [e];exact ⟨fun h => h.2.2, fun h => ⟨by simp [Dd], .inr trivial, h⟩⟩
theorem As4 (f : Bool) (z : Nat) (o : Obj) (K : KK) : LoadK (some (Du f z o)) 0 15 true K = K (.vec 15 (Du f z o)) [] := by
 simp only [LoadK, Gr, eq_iff_iff];have e : ((Du f z o).drop 0).take 15 = Du f z o := List.take_of_length_le (by simp [Dd]);rw [e];exact ⟨fun h => h.2.2, fun h => ⟨by simp [Dd], .inl trivial, h⟩⟩
theorem T7 (o : Obj) (K : KK) : LoadK (some (Av o)) 0 2 true K = K (.vec 2 [.i .i64 o.id.1, .i .u32 o.id.2]) [] := Ah3 _ _ o K
theorem T6 (o : Obj) (K : KK) : LoadK (some (Av o)) 3 2 true K = K (.vec 2 [.i .i64 o.last.1, .i .u32 o.last.2]) [] := Aay _ _ o K
theorem T5 (o : Obj) (K : KK) : LoadK (some (Av o)) 6 8 true K = K (.vec 8 (vE o.seen)) [] := Aaw _ _ o K
theorem F7 (o : Obj) (K : KK) : LoadK (some (Av o)) 2 1 false K = K (.pv (.b o.dir)) [] := Adj _ _ o K
theorem Adn (o : Obj) (K : KK) : LoadK (some (Av o)) 5 1 false K = K (.pv (.s o.name)) [] := Aax _ _ o K
theorem Dm (o : Obj) (K : KK) : LoadK (some (Av o)) 14 1 false K = K (.pv (.sl false 11 (o.vers.map Bk))) [] := Aav _ _ o K
theorem Jy (o : Obj) (K : KK) : LoadK (some (Av o)) 0 15 true K = K (.vec 15 (Av o)) [] := As4 _ _ o K
theorem Ak0 (o : Obj) (i : Bg) : splice (Av o) 3 ([.i .i64 i.1, .i .u32 i.2]) = Av { o with last := i } := by
 obtain ⟨i, b, l, n, s, v⟩ := o;simp only [splice, Av, Du, vE, Cb]; rfl
theorem Akz (o : Obj) (s : List UInt8) : splice (Av o) 5 ([.s s]) = Av { o with name := s } := by
 obtain ⟨i, b, l, n, s, v⟩ := o;simp only [splice, Av, Du, vE, Cb]; rfl
theorem Aky (o : Obj) (v : Vc) : splice (Av o) 6 (vE v) = Av { o with seen := v } := by
 obtain ⟨i, b, l, n, s, v⟩ := o;simp only [splice, Av, Du, vE, Cb]; rfl
theorem S7 (o : Obj) (f : Bool) (z : Nat) (l : List Ver) : splice (Av o) 14 ([.sl f z (l.map Bk)]) = Du f z { o with vers := l } := by
 obtain ⟨i, b, l, n, s, v⟩ := o;simp only [splice, Av, Du, vE, Cb]; rfl
def obN (o : Obj) : Ent := ⟨o.id, (0, 0), [], (0, 0), fun _ => 0⟩
def D1 (l : List Obj) : Prop := Cx (l.map obN)
def Ct (l : List Obj) (i : Bg) : Nat := Fv (l.map obN) i
def isO (l : List Obj) (i : Bg) : Bool := Ou (l.map obN) i
structure St where
 known : Vc
 objs : List Obj
 ents : List Ent
 wards : Nat → Int
 ret : Nat → Bool
def Ax (s : St) (x y : SV) : List SV := [.vec 8 (vE s.known), x, y, .vec 8 (iE s.wards), .vec 8 (wE s.ret)]
def A8 (s : St) : List SV := Ax s (.pv (.sl false 15 (s.objs.map Av))) (.pv (.sl false 15 (s.ents.map Bb)))
def st0 : St := ⟨fun _ => 0, [], [], fun _ => 0, fun _ => false⟩
theorem Afb {s : St} {f g : Bool} {y z : Nat} {es fs : List (List PV)} (hy : es = [] ∨ y = 15) (hz : fs = [] ∨ z = 15) (he : PImpR es (s.objs.map Av)) (hf : PImpR fs (s.ents.map Bb)) : Imp (.agg (Ax s (.pv (.sl f y es)) (.pv (.sl g z fs)))) (.agg (A8 s)) :=
 Ub ⟨⟨Imp.refl _, rfl⟩, ⟨Ua (Hc (by simp) hy he), rfl⟩, ⟨Ua (Hc (by simp) hz hf), rfl⟩, ⟨Imp.refl _, rfl⟩, ⟨Imp.refl _, rfl⟩, trivial⟩
theorem Te : Imp (.agg [.vec 8 (List.replicate 8 (.i .u32 0)), .pv (.sl true 0 []), .pv (.sl true 0 []), .vec 8 (List.replicate 8 (.i .i64 0)), .vec 8 (List.replicate 8 (.b false))]) (.agg (A8 st0)) :=
 Afb (s := st0) (.inl rfl) (.inl rfl) trivial trivial
theorem Axs {m n lo hi : Nat} {es fs : List (List PV)} {h} (hm : h m = some (.row 15 fs)) (hn : h n = some (.row 15 es)) (hne : m ≠ n) (hfs : fs ≠ []) (hes : es ≠ []) (hlt : lo < hi) : Xe Try.prog 75 [.os m, .ov n 15 lo hi] h (.pv (.b false)) := by
 intro F N ρ s a w hR hh vs hc;simp only [ConcL] at hc;obtain ⟨v, us, rfl, hv, u, us', rfl, hu, rfl⟩ := hc;have hsm := (hh m (by simp [Aw, tn])).trans hm;have hsn := (hh n (by simp [Aw, tn])).trans hn;refine ⟨.bool false, ?_, Dq⟩;rw [run_callFunc_extern (fn := (Try.prog.funcs[75]?).getD default) (by kernel_rfl) (by kernel_rfl) (by kernel_rfl) (by kernel_rfl) (e := Extern.SlicesOverlaps.overlaps #[30, 30] #[4]) (by kernel_rfl)];rw [Hl (tS := 30) (e := 84) (by kernel_rfl) (by kernel_rfl) (by decide) hR hsm hsn hne hfs hes hlt hv hu];rfl
set_option maxHeartbeats 4000000 in
theorem Tr (es : List (List PV)) (cs : List PV) (i : Nat) (hi : i ≤ es.length) (hb : es.length ≤ 1000) (hes : ∀ c ∈ es, c.length = 15) (hcs : cs.length = 15) {h d} (h1 : h 900 = some (.row 15 es)) (h2 : h 901 = some (.row 15 [cs])) : FunOk Try.prog 65 [.os 900, .pv (.i .i64 i), .os 901] h d (.os d) [.del 900, .del 901, .new d (.row 15 (es.take i ++ cs :: es.drop i))] := by
 refine Yp Am fn65 (by simp) rfl fun F => ?_;simp only [A9];by_cases he : i = es.length
 · subst he;have e1 : es.take es.length ++ cs :: es.drop es.length = es ++ [cs] := by simp
   rw [e1];simp (disch := omega) only [ir65, h1, h2, go_sem]
 · have hne : es ≠ [] := by intro e; subst e; simp at hi; exact he (by simpa using hi)
   simp (disch := omega) only [ir65, h1, h2, go_sem];intro c hc;by_cases hcap : c < es.length + 1
   · have hp : ((c : Int) < (es.length : Int) + ((1 : Nat) : Int)) = True := eq_true (by omega);have ek : ((es.length : Int) + ((1 : Nat) : Int) - (i : Int)).toNat = es.length + 1 - i := by omega
     (try simp only [D9, D8, D7, D6, D5, D4, D3, D2]); simp (disch := omega) only [hp, ek, go_sem]
     generalize hT : List.take i es ++ List.replicate (es.length + 1 - i) _ = T;have hTl : T.length = es.length + 1 := by rw [← hT]; simp; omega
     have t1 : T.take i = es.take i := by
      rw [← hT, List.take_append_of_le_length (by simp; omega), List.take_take, Nat.min_self]
     have hi' : (es.take i).length = i := by simp; omega
     have m1 : min 1 (es.length + 1 - i) = 1 := by omega
     have m2 : [cs].take (es.length + 1 - i) = [cs] := List.take_of_length_le (by simp; omega);have hU : (es.take i ++ [cs] ++ T.drop (i + 1)).length = es.length + 1 := by simp [hTl]; omega
     have e1 : ((i : Int) + ((1 : Nat) : Int)).toNat = i + 1 := by omega
     have u1 : (es.take i ++ [cs] ++ T.drop (i + 1)).take (i + 1) = es.take i ++ [cs] := by
      rw [List.take_append_of_le_length (by simp; omega)];exact List.take_of_length_le (by simp; omega)
     have u2 : (es.take es.length).drop i = es.drop i := by rw [List.take_length]
     have u3 : min (es.drop i).length (es.length + 1 - (i + 1)) = es.length - i := by simp
     have u4 : (es.drop i).take (es.length + 1 - (i + 1)) = es.drop i := List.take_of_length_le (by simp);have u5 : (es.take i ++ [cs] ++ T.drop (i + 1)).drop (i + 1 + (es.length - i)) = [] := List.drop_of_length_le (by rw [hU]; omega);have u6 : es.take i ++ cs :: es.drop i = es.take i ++ [cs] ++ es.drop i := by simp
     simp only [hTl, t1, m1, m2, e1, List.length_singleton];simp only [hU, u1, u2, u3, u4, u5, u6, List.append_nil];exact ⟨by omega, by omega, trivial⟩
   · have hp : ((c : Int) < (es.length : Int) + ((1 : Nat) : Int)) = False := eq_false (by omega)
     (try simp only [D9, D8, D7, D6, D5, D4, D3, D2]); simp (disch := omega) only [hp, go_sem]
     intro g hg hgs;have hg1 : g.length = 1 := by omega
     have e1 : ((i : Int) + ((1 : Nat) : Int)).toNat = i + 1 := by omega
     have hE : (es ++ g).length = es.length + 1 := by simp [hg1]
     refine ⟨by omega, ?_⟩;rw [e1];refine Pa (Axs (es := es ++ g) (fs := [cs]) rfl rfl (by decide) (by simp) (by simp [hne]) (by omega)) ?_;have v1 : ((es ++ g).take (es ++ g).length).drop i = (es ++ g).drop i := by rw [List.take_length]
     have v2 : min ((es ++ g).drop i).length ((es ++ g).length - (i + 1)) = es.length - i := by simp [hg1]; omega
     have v3 : ((es ++ g).drop i).take ((es ++ g).length - (i + 1)) = es.drop i := by
      rw [hE, List.drop_append_of_le_length hi, show es.length + 1 - (i + 1) = (es.drop i).length from by simp];exact List.take_left
     have v4 : (es ++ g).drop (i + 1 + (es.length - i)) = [] := List.drop_of_length_le (by omega);have v5 : ((es ++ g).take (i + 1) ++ es.drop i).length = es.length + 1 := by simp [hg1]; omega
     have v6 : ((es ++ g).take (i + 1) ++ es.drop i).take i = es.take i := by
      rw [List.take_append_of_le_length (by simp; omega), List.take_take, Nat.min_eq_left (by omega), List.take_append_of_le_length hi]
     have v7 : ((es ++ g).take (i + 1) ++ es.drop i).drop (i + 1) = es.drop i := by
      rw [List.drop_append_of_le_length (by simp; omega), List.drop_of_length_le (by simp; omega), List.nil_append]
     have m1 : min 1 (es.length + 1 - i) = 1 := by omega
     have m2 : [cs].take (es.length + 1 - i) = [cs] := List.take_of_length_le (by simp; omega);have u6 : es.take i ++ cs :: es.drop i = es.take i ++ [cs] ++ es.drop i := by simp
     simp (disch := omega) only [e1, v1, v2, v3, v4, v5, v6, v7, m1, m2, u6, go_sem]
theorem Al7 {m n : Nat} (es : List (List PV)) (cs : List PV) (i : Nat) (hi : i ≤ es.length) (hb : es.length ≤ 1000) (hes : ∀ c ∈ es, c.length = 15) (hcs : cs.length = 15) (hmn : m ≠ n) (hm : m < 900) (hn : n < 900) {h d} (hd : d ≠ m ∧ d ≠ n ∧ d < 900) (h1 : h m = some (.row 15 es)) (h2 : h n = some (.row 15 [cs])) : FunOk Try.prog 65 [.os m, .pv (.i .i64 i), .os n] h d (.os d) [.del m, .del n, .new d (.row 15 (es.take i ++ cs :: es.drop i))] := by
 have hπ := Ae4 (a := 900) (m := m) (b := 901) (n := n) (by omega) (by omega) (by omega) hmn;have e1 : Xm 900 m 901 n 900 = m := by unfold Xm; simp
 have e2 : Xm 900 m 901 n 901 = n := by unfold Xm; repeat' split <;> (try omega)
 have e3 : Xm 900 m 901 n d = d := by unfold Xm; repeat' split <;> (try omega)
 have := (Tr es cs i hi hb hes hcs (h := fun k => (h (Xm 900 m 901 n k))) (d := d) (by rw [← h1, e1]) (by rw [← h2, e2])).rn (π := Xm 900 m 901 n) hπ (d' := d);simp only [SV.rnL, SV.rn, HU.rn, Blk.rn, List.map_cons, List.map_nil, e1, e2, e3] at this;refine this.at fun k hk => ?_;simp only [Aw, tn, List.append_nil, List.nil_append, List.mem_append, List.mem_singleton] at hk;simp only [hπ];rcases hk with rfl | rfl
 · rw [h1]; rfl
 · rw [h2]; rfl
theorem Amk (x : Obj) (b : Bg) {h d} : FunOk Try.prog 74 [.vec 15 (Av x), .vec 2 [.i .i64 b.1, .i .u32 b.2]] h d (.pv (.i .i64 (G5 x.id b))) [] := by
 refine A5 Am fn74 (by simp) rfl rfl fun F => ?_;simp (disch := omega) only [ir74, T7, go_sem];refine Aa (K3 _ _ _ _) ?_;by_cases h1 : C8 x.id.1 x.id.2 b.1 b.2 = true
 · have e : G5 x.id b = -1 := if_pos h1;simp (disch := omega) only [h1, e, go_sem]
 · have h1' : C8 x.id.1 x.id.2 b.1 b.2 = false := by simpa using h1
   simp (disch := omega) only [h1', T7, go_sem];refine Aa (K3 _ _ _ _) ?_;by_cases h2 : C8 b.1 b.2 x.id.1 x.id.2 = true
   · have e : G5 x.id b = 1 := by unfold G5; rw [if_neg h1, if_pos h2]
     simp (disch := omega) only [h2, e, go_sem]
   · have h2' : C8 b.1 b.2 x.id.1 x.id.2 = false := by simpa using h2
     have e : G5 x.id b = 0 := by unfold G5; rw [if_neg h1, if_neg h2]
     simp (disch := omega) only [h2', e, go_sem]
theorem Afs {l : List Obj} {j : Nat} {y : Ent} (h : (l.map obN)[j]? = some y) : ∃ o, l[j]? = some o ∧ y.id = o.id := by
 rw [List.getElem?_map] at h;obtain ⟨o, h1, h2⟩ := Option.map_eq_some_iff.1 h;exact ⟨o, h1, by rw [← h2]; rfl⟩
theorem Af7 {l : List Obj} {j : Nat} {o : Obj} (h : l[j]? = some o) : (l.map obN)[j]? = some (obN o) := by rw [List.getElem?_map, h]; rfl
theorem L0 {l : List Obj} (hs : D1 l) {j m : Nat} {x v : Obj} (hj : l[j]? = some x) (hm : l[m]? = some v) (h : j < m) : Ip x.id v.id = true := S9 (l := l.map obN) hs (Af7 hj) (Af7 hm) h
theorem Ar7 {l : List Obj} {i : Bg} {k : Nat} (hk : k ≤ l.length) (h1 : ∀ j x, j < k → l[j]? = some x → Ip x.id i = true) (h2 : ∀ x, l[k]? = some x → ¬ Ip x.id i = true) : Ct l i = k :=
 Afh (l := l.map obN) (by simpa using hk) (fun j x hj hx => by
  obtain ⟨o, h3, h4⟩ := Afs hx;rw [h4]; exact h1 j o hj h3) fun x hx => by
  obtain ⟨o, h3, h4⟩ := Afs hx;rw [h4]; exact h2 o h3
theorem Xw (l : List Obj) (i : Bg) : Ct l i ≤ l.length := by have := Xx (l.map obN) i; simpa [Ct] using this
theorem Ot {l : List Obj} (hs : D1 l) (i : Bg) : isO l i = match l[Ct l i]? with | some x => decide (x.id = i) | none => false := by
 have h := Oh (l := l.map obN) hs i;unfold isO Ou;rw [h];show _ = match l[Ct l i]? with | some x => decide (x.id = i) | none => false
 unfold Ct;cases hx : l[Fv (l.map obN) i]? with
 | none => rw [List.getElem?_map, hx]; rfl
 | some x =>
   rw [List.getElem?_map, hx];show (if x.id = i then some (obN x) else none).isSome = decide (x.id = i);by_cases e : x.id = i <;> simp [e]
theorem Ayr {l : List Obj} (hs : D1 l) {i : Bg} (h : isO l i = true) : ∃ o, l[Ct l i]? = some o ∧ o.id = i := by
 rw [Ot hs] at h;cases hx : l[Ct l i]? with
 | none => rw [hx] at h; cases h
 | some x => rw [hx] at h; exact ⟨x, rfl, by simpa using h⟩
def Xp (f : Bool) (l : List Obj) (i : Bg) (p : Nat × Nat) : FS := mk [(9, .pv (.i .i64 p.1)), (10, .pv (.i .i64 p.2)), (8, .pv (.i .i64 l.length)), (0, .pv (.sl f 15 (l.map Av))), (2, .fn (.func 74) []), (4, .p 4 0)] [(4, some (.var (.vec 2 [.i .i64 i.1, .i .u32 i.2])))]
set_option maxHeartbeats 1000000 in
theorem Axz {x : SV} {f : Bool} {l : List Obj} (i : Bg) {h d} (hx : Cl h [x, .vec 2 [.i .i64 i.1, .i .u32 i.2], .fn (.func 74) []] = [.pv (.sl f 15 (l.map Av)), .vec 2 [.i .i64 i.1, .i .u32 i.2], .fn (.func 74) []]) (hl : Ba [x, .vec 2 [.i .i64 i.1, .i .u32 i.2], .fn (.func 74) []] = true) (hs : D1 l) (hn : l.length ≤ 1000) :
 FunOk Try.prog 73 [x, .vec 2 [.i .i64 i.1, .i .u32 i.2], .fn (.func 74) []] h d (.tup [.pv (.i .i64 (Ct l i)), .pv (.b (isO l i))]) [] := by
 refine Cp Am fn73 (by simp) hl rfl fun F => ?_;rw [hx];simp (disch := omega) only [ir73, List.length_map, go_sem];refine Bd Am (Xp f l i) (fun p => p.1 ≤ p.2 ∧ p.2 ≤ l.length ∧ (∀ j x, j < p.1 → l[j]? = some x → Ip x.id i = true) ∧ ∀ j x, p.2 ≤ j → l[j]? = some x → ¬ Ip x.id i = true) (fun p => p.2 - p.1) (0, l.length) ⟨by simp, by simp, by simp, fun j x hj hx => by simp only at hj; rw [List.getElem?_eq_none hj] at hx; cases hx⟩ (A2 ?_ ?_) fun p hp => ?_
 · (try simp only [D9, D8, D7, D6, D5, D4, D3, D2]); simp (disch := omega) only [go_sem]
 · simp (disch := omega) only [go_sem]
 obtain ⟨a, b⟩ := p;obtain ⟨p1, p2, p3, p4⟩ := hp;simp only at p1 p2 p3 p4;by_cases hlt : a < b
 · have hm : (a + b) / 2 < l.length := by omega
   have hx : l[(a + b) / 2]? = some l[(a + b) / 2] := List.getElem?_eq_getElem hm;have he : (l.map Av)[(a + b) / 2]? = some (Av l[(a + b) / 2]) := by rw [List.getElem?_map, hx]; rfl
   have e1 : ((a : Int) + (b : Int)).fdiv (2 ^ min (Int.toNat 1) 64) = (((a + b) / 2 : Nat) : Int) := by
    rw [show (2 : Int) ^ min (Int.toNat 1) 64 = 2 from rfl, Int.fdiv_eq_ediv_of_nonneg _ (by omega)]; omega
   have hm1 : a ≤ (a + b) / 2 := by omega
   have hm2 : (a + b) / 2 < b := by omega
   generalize l[(a + b) / 2] = v at *;generalize (a + b) / 2 = m at *;simp (disch := omega) only [Xp, List.length_map, e1, he, Jy, go_sem];refine Aa (Amk v i) ?_;by_cases hc : Ip v.id i = true
   · have e2 : (G5 v.id i < 0) = True := by rw [Sf]; exact eq_true hc
     simp (disch := omega) only [e2, go_sem];refine Au (x := (a, b)) (m + 1, b) _ _ rfl ⟨by show m + 1 ≤ b; omega, p2, fun j x hj hx' => ?_, p4⟩ (by show b - (m + 1) < b - a; omega) ?_ ?_
     · by_cases e : j = m
       · subst e; rw [hx] at hx'; cases hx'; exact hc
       · exact F8 (L0 hs hx' hx (by simp only at hj; omega)) hc
     · (try simp only [D9, D8, D7, D6, D5, D4, D3, D2]); simp (disch := omega) only [go_sem]
     · simp (disch := omega) only [go_sem]
   · have e2 : (G5 v.id i < 0) = False := by rw [Sf]; exact eq_false hc
     simp (disch := omega) only [e2, go_sem];refine Au (x := (a, b)) (a, m) _ _ rfl ⟨by show a ≤ m; omega, by show m ≤ _; omega, p3, fun j x hj hx' => ?_⟩ (by show m - a < b - a; omega) ?_ ?_
     · by_cases e : j = m
       · subst e; rw [hx] at hx'; cases hx'; exact hc
       · exact fun q => hc (F8 (L0 hs hx hx' (by simp only at hj; omega)) q)
     · (try simp only [D9, D8, D7, D6, D5, D4, D3, D2]); simp (disch := omega) only [go_sem]
     · simp (disch := omega) only [go_sem]
 · obtain rfl : a = b := by omega
   have hpos : Ct l i = a := Ar7 p2 p3 fun x hx' => p4 a x (Nat.le_refl a) hx';have hk := Ot hs i;rw [hpos] at hk;by_cases hal : a < l.length
   · have hx' : l[a]? = some l[a] := List.getElem?_eq_getElem hal;have he : (l.map Av)[a]? = some (Av l[a]) := by rw [List.getElem?_map, hx']; rfl
     rw [hx'] at hk;simp only at hk;generalize l[a] = v at *;simp (disch := omega) only [Xp, hal, he, Jy, List.length_map, go_sem];refine Aa (Amk v i) ?_;by_cases hv : v.id = i
     · have e2 : (G5 v.id i = 0) = True := by rw [Si]; exact eq_true hv
       have e3 : isO l i = true := by rw [hk]; simp [hv]
       simp (disch := omega) only [e2, e3, hpos, go_sem]
     · have e2 : (G5 v.id i = 0) = False := by rw [Si]; exact eq_false hv
       have e3 : isO l i = false := by rw [hk]; simp [hv]
       simp (disch := omega) only [e2, e3, hpos, go_sem]
   · rw [List.getElem?_eq_none (by omega)] at hk;simp (disch := omega) only [Xp, hal, hpos, hk, go_sem]
theorem K5 {x : SV} {f : Bool} {l : List Obj} (i : Bg) {h d} (hx : Cl h [x, .vec 2 [.i .i64 i.1, .i .u32 i.2]] = [.pv (.sl f 15 (l.map Av)), .vec 2 [.i .i64 i.1, .i .u32 i.2]]) (hl : Ba [x, .vec 2 [.i .i64 i.1, .i .u32 i.2]] = true) (hs : D1 l) (hn : l.length ≤ 1000) :
 FunOk Try.prog 64 [x, .vec 2 [.i .i64 i.1, .i .u32 i.2]] h d (.tup [.pv (.i .i64 (Ct l i)), .pv (.b (isO l i))]) [] := by
 refine Cp Am fn64 (by simp) hl rfl fun F => ?_;rw [hx];simp (disch := omega) only [ir64, go_sem];refine Aa (Axz (l := l) i rfl rfl hs hn) ?_;simp (disch := omega) only [go_sem]
def Kr (l : List Obj) (i : Bg) : Int := if i = (0, 0) then 0 else match l[Ct l i]? with
 | some o => if o.id = i then (if o.dir = true then 0 else 22) else 2
 | none => 2
theorem Azl {l : List Obj} (hs : D1 l) {i : Bg} (h : i ≠ (0, 0)) (k : isO l i = false) : Kr l i = 2 := by
 unfold Kr; rw [if_neg h];rw [Ot hs] at k;cases hx : l[Ct l i]? with
 | none => rfl
 | some x => rw [hx] at k; simp only at k ⊢; rw [if_neg (by simpa using k)]
theorem Azk {l : List Obj} {i : Bg} {o : Obj} (h : i ≠ (0, 0)) (k : l[Ct l i]? = some o) (ho : o.id = i) : Kr l i = if o.dir = true then 0 else 22 := by
 unfold Kr; rw [if_neg h, k]; simp only; rw [if_pos ho]
theorem Aj9 {i : Bg} (h : i = (0, 0)) : i.1 = 0 ∧ i.2 = 0 := by subst h; exact ⟨rfl, rfl⟩
theorem Ama {s : St} (i : Bg) {h d} (hs : D1 s.objs) (hn : s.objs.length ≤ 1000) : FunOk Try.prog 63 [.agg (A8 s), .vec 2 [.i .i64 i.1, .i .u32 i.2]] h d (.pv (.i .i64 (Kr s.objs i))) [] := by
 refine A5 Am fn63 (by simp) rfl rfl fun F => ?_;by_cases h0 : i = (0, 0)
 · have e : Kr s.objs i = 0 := if_pos h0;have hz : Gk i.1 i.2 = true := decide_eq_true (Aj9 h0);simp (disch := omega) only [ir63, A8, Ax, Ao, Ah, Aj, hz, e, go_sem]
 · have hz : Gk i.1 i.2 = false := decide_eq_false fun e => h0 (Prod.ext e.1 e.2);simp (disch := omega) only [ir63, A8, Ax, Ao, Ah, Aj, hz, go_sem];refine Aa (K5 (l := s.objs) i rfl rfl hs hn) ?_;by_cases hi : isO s.objs i = true
   · obtain ⟨o, h1, h2⟩ := Ayr hs hi;have e := Azk h0 h1 h2;have hlt := (List.getElem?_eq_some_iff.1 h1).1;have he : (s.objs.map Av)[Ct s.objs i]? = some (Av o) := by rw [List.getElem?_map, h1]; rfl
     by_cases hd : o.dir = true
     · rw [if_pos hd] at e;simp (disch := omega) only [hi, List.length_map, he, F7, hd, e, go_sem]
     · rw [if_neg hd] at e;have hd' : o.dir = false := by simpa using hd
       simp (disch := omega) only [hi, List.length_map, he, F7, hd', e, go_sem]
   · have hi' : isO s.objs i = false := by simpa using hi
     have e := Azl hs h0 hi';simp (disch := omega) only [hi', e, go_sem]
theorem Aom {P : Program} (hm : P.follows .mixedOrders = true) {f N' : Nat} {rs : List Rv} {c : C} (hf : A7 P f = some (N', rs, c)) {args : List SV} {h : Nat → Option Blk} {d : Nat} {sz : Nat} {es : List (List PV)} {X : Nat → SV} (hlen : args.length ≤ N')
 (hargs : SV.closedL args = true) (hX : ∀ (V V' : View) (ρ ρ' : Nat → Value) (n d : Nat) (v : Value), View.le V V' → ρ' d = ρ n → Conc V ρ (X n) v → Conc V' ρ' (X d) v)
 (hrun : ∀ F, sx (Rt P F N') c (Qq rs fun y g => ∃ n, y = X n ∧ g n = some (.row sz es)) (mk (Ca 0 args) [])) :
 FunOk P f args h d (X d) [.new d (.row sz es)] := by
 obtain ⟨h1, h2, h3⟩ := Bl hargs;refine ⟨Bs hf, fun F N ρ s a w hR hh vs hc => ?_⟩;refine Calls.mono (Cs hm hf (h := h) hlen h2 Jq (by rw [h3]; exact hrun) hR hh hc) fun e w' he => ?_;obtain ⟨v, rfl, hg, N'', ρ', s', a', y, hR', hy, n, rfl, hn⟩ := he;rw [h1, Ck] at hR' hy;obtain ⟨base, cap, g1, g2, g3, g4, g5⟩ := hR'.own n _ hn;have hown : ∀ b, Bm (ρ' n) = some b → w.heap.size ≤ b ∧ b < w'.heap.size := fun b hb => by
  have ho : Bo ρ' s'.h b := ⟨n, _, hn, hb⟩
  exact ⟨(hR'.may b ho).resolve_right id, hR'.lt ho⟩
 have hnew := hR.adopt hg d (.row sz es) (ρ' n) hown fun _ => by
  refine ⟨base, cap, by rw [Al]; exact g1, g2, g3, g4, fun hcap => ?_⟩;obtain ⟨b, vs', ty, fr, k1, k2, k3, k4, k5, k6⟩ := g5 hcap;refine ⟨b, vs', ty, fr, k1, k2, k3, k4, k5, fun i c hi => (k6 i c hi).mono (A4 fun b' c' ho hc' => ⟨fun hb' => ?_, hc'⟩)⟩;rcases hb' with ⟨m, z, hm1, hm2⟩ | hb'
  · by_cases hmd : m = d
    · subst hmd;rw [Al] at hm2;exact ho (.inl ⟨n, _, hn, hm2⟩)
    · rw [A6 hmd] at hm2;simp only [FS.hup, FS.seth, FS.kill, hmd, if_false] at hm1;obtain ⟨z', hz', _⟩ := Option.map_eq_some_iff.1 hm1;exact ho (.inr (.inl ⟨m, z', hz', hm2⟩))
  · exact ho (.inr (.inr hb'))
 refine ⟨v, _, rfl, hnew.1, hX _ _ _ _ _ _ _ (A4 fun b' c' ho hc' => ⟨fun hb' => ?_, hc'⟩) Al hy⟩;rcases hb' with ⟨m, z, hm1, hm2⟩ | hb'
 · by_cases hmd : m = d
   · subst hmd;rw [Al] at hm2;exact ho (.inl ⟨n, _, hn, hm2⟩)
   · rw [A6 hmd] at hm2;simp only [FS.hup, FS.seth, FS.kill, hmd, if_false] at hm1;obtain ⟨z', hz', _⟩ := Option.map_eq_some_iff.1 hm1;exact ho (.inr (.inl ⟨m, z', hz', hm2⟩))
 · exact ho (.inr (.inr hb'))
theorem Ahm {f : Bool} {z : Nat} {es : List (List PV)} {h d} (hz : es = [] ∨ z = 15) (hb : es.length ≤ 1000) : FunOk Try.prog 46 [.pv (.sl f z es)] h d (.pv (.sl false 15 es)) [] := by
 refine Ui Am fn46 (by simp) rfl fun F => ?_;simp (disch := omega) only [ir46, go_sem];intro b hb';cases b
 · simp (disch := omega) only [go_sem]
 · have he : es = [] := by
    cases es with
    | nil => rfl
    | cons c l => exact absurd (hb' (by simp)) (by simp)
   subst he
   (try simp only [D9, D8, D7, D6, D5, D4, D3, D2]); simp (disch := omega) only [go_sem]
   decide
theorem V6 {f : Bool} {z : Nat} {es : List (List PV)} {h d} (hz : es = [] ∨ z = 11) (hb : es.length ≤ 1000) : FunOk Try.prog 47 [.pv (.sl f z es)] h d (.pv (.sl false 11 es)) [] := by
 refine Ui Am fn47 (by simp) rfl fun F => ?_;simp (disch := omega) only [ir47, go_sem];intro b hb';cases b
 · simp (disch := omega) only [go_sem]
 · have he : es = [] := by
    cases es with
    | nil => rfl
    | cons c l => exact absurd (hb' (by simp)) (by simp)
   subst he
   (try simp only [D9, D8, D7, D6, D5, D4, D3, D2]); simp (disch := omega) only [go_sem]
   decide
theorem Lj {V V' : View} {ρ ρ' : Nat → Value} {n d : Nat} {a b : List SV} {v : Value} (hV : V.le V') (he : ρ' d = ρ n) (ha : SV.closedL a = true) (hb : SV.closedL b = true) (h : Conc V ρ (.agg (a ++ .os n :: b)) v) : Conc V' ρ' (.agg (a ++ .os d :: b)) v := by
 simp only [Conc] at h ⊢;obtain ⟨vs, rfl, hc⟩ := h;obtain ⟨va, vb, rfl, h1, h2⟩ := Gu hc;simp only [Cells] at h2;obtain ⟨u, ub, rfl, h3, h4, h5, h6⟩ := h2;refine ⟨_, rfl, Hr (Ci hV ha h1) ?_⟩;simp only [Cells];refine ⟨u, ub, rfl, ?_, h4, h5, Ci hV hb h6⟩;simp only [Conc] at h3 ⊢;rw [he]; exact h3
def cpS (k : Nat) : SV := if k = 0 then .pv (.sl true 0 []) else .os 40
def cpK (l : List Obj) (k : Nat) : Option Blk := if k = 0 then none else some (.row 15 ((l.take k).map Av))
theorem W0 : cpS 0 = .pv (.sl true 0 []) := rfl
theorem Rb {k : Nat} (h : k ≠ 0) : cpS k = .os 40 := if_neg h
theorem W2 (l : List Obj) : cpK l 0 = none := rfl
theorem Rc {l : List Obj} {k : Nat} (h : k ≠ 0) : cpK l k = some (.row 15 ((l.take k).map Av)) := if_neg h
def G6 : SV := .agg [.vec 8 (List.replicate 8 (.i .u32 0)), .pv (.sl true 0 []), .pv (.sl true 0 []), .vec 8 (List.replicate 8 (.i .i64 0)), .vec 8 (List.replicate 8 (.b false))]
def Dt (s : St) : SV := .pv (.sl false 15 (s.ents.map Bb))
def Ari (s : St) (k : Nat) : FS := mk [(15, .pv (.i .i64 k)), (14, .pv (.i .i64 s.objs.length)), (13, .pv (.sl false 15 (s.objs.map Av))), (3, .p 3 0), (2, .p 2 0)] [(3, some (.var (.agg (Ax s (cpS k) (Dt s))))), (2, some (.var G6)), (40, cpK s.objs k)]
theorem Iy {α : Type} {l : List α} {k : Nat} {y : α} (h : l[k]? = some y) : l.take (k + 1) = l.take k ++ [y] := by
 rw [List.take_add_one, h]; rfl
theorem V9 (l : List Obj) : ∀ c ∈ l.map Av, c.length = 15 := fun c hc => by
 obtain ⟨o, _, rfl⟩ := List.mem_map.1 hc;exact Oc o
set_option maxHeartbeats 4000000 in
theorem Qk {s : St} (hn : s.objs.length ≤ 1000) (hv : ∀ o ∈ s.objs, o.vers.length ≤ 1000) (he : s.ents.length ≤ 1000) {F : Fr} {R : SV → (Nat → Option Blk) → Prop}
 (h1 : s.objs = [] → ∀ h, R (.agg (Ax s (.pv (.sl true 0 [])) (Dt s))) h) (h2 : s.objs ≠ [] → ∀ h, h 40 = some (.row 15 (s.objs.map Av)) → R (.agg (Ax s (.os 40) (Dt s))) h) :
 sx (Rt Try.prog F 31) ir28 (Qq [.c 2 26 true] R) (mk (Ca 0 [.agg (A8 s)]) []) := by
 simp (disch := omega) only [ir28, A8, Ax, go_sem];refine Aa (Ahm (es := s.ents.map Bb) (.inr rfl) (by simpa using he)) ?_;simp (disch := omega) only [List.length_map, go_sem];refine Bd Am (Ari s) (fun k => k ≤ s.objs.length) (fun k => s.objs.length - k) 0 (by simp) (A2 ?_ ?_) fun k hk => ?_
 · simp (disch := omega) only [go_sem]
 · simp (disch := omega) only [W0, W2, Ax, Dt, G6, go_sem]
 by_cases hlt : k < s.objs.length
 · have hx : s.objs[k]? = some s.objs[k] := List.getElem?_eq_getElem hlt;have hel : (s.objs.map Av)[k]? = some (Av s.objs[k]) := by rw [List.getElem?_map, hx]; rfl
   have ht := Iy hx;have hvk := hv _ (List.getElem_mem hlt);generalize s.objs[k] = o at *;have hsp : splice (Av o) 14 [.sl false 11 (o.vers.map Bk)] = Av o := S7 o false 11 o.vers;have hol := Oc o;have htm : (s.objs.take (k + 1)).map Av = (s.objs.take k).map Av ++ [Av o] := by rw [ht]; simp
   have hkl : ((s.objs.take k).map Av).length = k := by simp; omega
   simp (disch := omega) only [Ari, Ax, List.length_map, hel, Jy, go_sem];simp (disch := omega) only [Dm, go_sem];refine Aa (V6 (es := o.vers.map Bk) (.inr rfl) (by simpa using hvk)) ?_;by_cases h0 : k = 0
   · subst h0;simp (disch := omega) only [hsp, W0, W2, Jy, hol, Ax, Dt, G6, go_sem];have hS := Rb (k := 1) (by omega);have hK := Rc (l := s.objs) (k := 1) (by omega);refine ⟨fun _ => trivial, (1 : Nat), by omega, by show _ - 1 < _ - 0; omega, Ks 27 40 (by decide) rfl (A2 ?_ ?_)⟩
     · simp (disch := omega) only [go_sem]
     · simp (disch := omega) only [hS, hK, htm, Ax, Dt, G6, go_sem];rfl
   · have hS := Rb h0;have hK := Rc (l := s.objs) h0;simp (disch := omega) only [hsp, hS, hK, Jy, hol, Ax, Dt, G6, hkl, go_sem];have hS' := Rb (k := k + 1) (by omega);have hK' := Rc (l := s.objs) (k := k + 1) (by omega);refine ⟨k + 1, by omega, by omega, Ks 27 40 (by decide) rfl (A2 ?_ ?_)⟩
     · simp (disch := omega) only [go_sem]
     · simp (disch := omega) only [hS', hK', htm, Ax, Dt, G6, go_sem]
 · obtain rfl : k = s.objs.length := by omega
   by_cases h0 : s.objs = []
   · have := h1 h0;have e : s.objs.length = 0 := by rw [h0]; rfl
     simp (disch := omega) only [Ari, Ax, e, W0, W2, Dt, G6, go_sem];exact this _
   · have e : s.objs.length ≠ 0 := fun e => h0 (List.eq_nil_of_length_eq_zero e);have hS := Rb e;have hK := Rc (l := s.objs) e;simp (disch := omega) only [Ari, Ax, hS, hK, Dt, G6, go_sem];exact h2 h0 _ (by simp [mk, lk])
theorem Aiq {P : Program} (hm : P.follows .mixedOrders = true) {f N' : Nat} {rs : List Rv} {c : C} (hf : A7 P f = some (N', rs, c)) {args : List SV} {h : Nat → Option Blk} {d : Nat} {sz : Nat} {es : List (List PV)} {l r : List SV} (hlen : args.length ≤ N')
 (hargs : SV.closedL args = true) (hl : SV.closedL l = true) (hr : SV.closedL r = true) (hrun : ∀ F, sx (Rt P F N') c (Qq rs fun y g => (∃ n, y = .agg (l ++ .os n :: r) ∧ g n = some (.row sz es)) ∨ ∃ z, y = .agg (l ++ .pv (.sl true z []) :: r) ∧ es = []) (mk (Ca 0 args) [])) :
 FunOk P f args h d (.agg (l ++ .pv (.sl false sz es) :: r)) [] := by
 obtain ⟨h1, h2, h3⟩ := Bl hargs;refine ⟨Bs hf, fun F N ρ s a w hR hh vs hc => ?_⟩;refine Calls.mono (Cs hm hf (h := h) hlen h2 Jq (by rw [h3]; exact hrun) hR hh hc) fun e w' he => ?_;obtain ⟨v, rfl, hg, N'', ρ', s', a', y, hR', hy, hyy⟩ := he;rw [h1, Ck] at hR' hy;refine ⟨v, ρ, rfl, hR.grew hg, ?_⟩;have key : ∀ (x : SV), x.width = 1 → y = .agg (l ++ x :: r) → (∀ u, Conc (vw ⟨w, fun _ => False, F.out ρ s.h, fun _ => undef, []⟩ w' ρ' s') ρ' x u → PConc (vw F w' ρ s) (.sl false sz es) u) → Conc (vw F w' ρ (s.hup [])) ρ (.agg (l ++ .pv (.sl false sz es) :: r)) v := fun x hw e k => by
  subst e;simp only [Conc] at hy ⊢;obtain ⟨vs, rfl, hc⟩ := hy;obtain ⟨va, vb, rfl, g1, g2⟩ := Gu hc;simp only [Cells] at g2;obtain ⟨u, ub, rfl, g3, g4, g5, g6⟩ := g2;refine ⟨_, rfl, Hr (Ci (Ds hR') hl g1) ?_⟩;simp only [Cells];exact ⟨u, ub, rfl, by simp only [Conc]; exact k u g3, g4.trans hw, g5, Ci (Ds hR') hr g6⟩
 rcases hyy with ⟨n, e, hn⟩ | ⟨z, e, rfl⟩
 · refine key _ rfl e fun u hu => ?_;simp only [Conc] at hu;rw [hu.1]; exact Ti hR' hn
 · refine key _ rfl e fun u hu => ?_;simp only [Conc] at hu;exact (Hc (by simp) (.inl rfl) (.refl [])) _ _ (hu.mono (Ds hR'))
structure Fine (s : St) : Prop where
 on : s.objs.length ≤ 500
 ov : ∀ o ∈ s.objs, o.vers.length ≤ 500
 en : s.ents.length ≤ 500
theorem Amh {s : St} (hs : Fine s) {h d} : FunOk Try.prog 28 [.agg (A8 s)] h d (.agg (Ax s (.os d) (Dt s))) [.new d (.row 15 (s.objs.map Av))] := by
 have a1 : s.objs.length ≤ 1000 := Nat.le_trans hs.on (by omega);have a2 : ∀ o ∈ s.objs, o.vers.length ≤ 1000 := fun o ho => Nat.le_trans (hs.ov o ho) (by omega);have a3 : s.ents.length ≤ 1000 := Nat.le_trans hs.en (by omega);by_cases h0 : s.objs = []
 · rw [h0];refine FunOk.nilos (a := [.vec 8 (vE s.known)]) (b := [Dt s, .vec 8 (iE s.wards), .vec 8 (wE s.ret)]) (z := 0) (sz := 15) ?_ rfl rfl (by omega);refine A5 Am fn28 (by simp) rfl rfl fun F => ?_;exact Qk a1 a2 a3 (fun _ _ => rfl) fun e => absurd h0 e
 · refine Aom (X := fun n => .agg (Ax s (.os n) (Dt s))) Am fn28 (by simp) rfl (fun V V' ρ ρ' n d v hV he hc => Lj (a := [.vec 8 (vE s.known)]) (b := [Dt s, .vec 8 (iE s.wards), .vec 8 (wE s.ret)]) hV he rfl rfl hc) fun F => ?_;exact Qk a1 a2 a3 (fun e => absurd e h0) fun _ h hh => ⟨40, rfl, hh⟩
theorem P2 {s : St} (hs : Fine s) {h d} : FunOk Try.prog 28 [.agg (A8 s)] h d (.agg (A8 s)) [] := by
 have a1 : s.objs.length ≤ 1000 := Nat.le_trans hs.on (by omega);have a2 : ∀ o ∈ s.objs, o.vers.length ≤ 1000 := fun o ho => Nat.le_trans (hs.ov o ho) (by omega);have a3 : s.ents.length ≤ 1000 := Nat.le_trans hs.en (by omega);refine Aiq (l := [.vec 8 (vE s.known)]) (r := [Dt s, .vec 8 (iE s.wards), .vec 8 (wE s.ret)]) Am fn28 (by simp) rfl rfl rfl fun F => ?_;exact Qk a1 a2 a3 (fun e h => .inr ⟨0, rfl, by rw [e]; rfl⟩) fun _ h hh => .inl ⟨40, rfl, hh⟩
def Agf : List SV → List PV → Prop
 | [], cs => cs = []
 | .pv x :: l, cs => ∃ r, cs = x :: r ∧ Agf l r
 | .vec n c :: l, cs => c.length = n ∧ ∃ r, cs = c ++ r ∧ Agf l r
 | _ :: _, _ => False
theorem Ql {V : View} {ρ : Nat → Value} : ∀ {l : List SV} {cs : List PV} {vs : List Value}, Agf l cs → PCells V cs vs → Cells V ρ l vs
 | [], cs, vs, h, hp => by
   have h : cs = [] := h;subst h;simp only [Cells];exact List.eq_nil_of_length_eq_zero hp.1.symm
 | .pv x :: l, cs, vs, h, hp => by
   obtain ⟨r, rfl, h⟩ := h;simp only [Cells];obtain ⟨v, hv, hx⟩ := hp.2 0 x rfl;cases vs with
   | nil => cases hv
   | cons u us =>
     have : u = v := by simpa using hv
     subst this;have hf : An u = [u] := by have := hx.one; cases u <;> simp_all [An, Ay]
     refine ⟨u, us, by rw [hf]; rfl, by simp only [Conc]; exact hx, by rw [hf]; rfl, fun c hc => ?_, Ql h ⟨by simpa using hp.1, fun j y hy => by simpa using hp.2 (j + 1) y (by simpa using hy)⟩⟩;rw [hf] at hc;rw [List.mem_singleton.1 hc];exact hx.one
 | .vec n c :: l, cs, vs, h, hp => by
   obtain ⟨hn, r, rfl, h⟩ := h;simp only [Cells];have hl : c.length + r.length = vs.length := by simpa using hp.1
   have hA : PCells V c (vs.take n) := ⟨by simp; omega, fun j y hy => by
    have hj := (List.getElem?_eq_some_iff.1 hy).1;obtain ⟨v, h1, h2⟩ := hp.2 j y (by rw [List.getElem?_append_left hj]; exact hy);exact ⟨v, by rw [List.getElem?_take_of_lt (by omega)]; exact h1, h2⟩⟩
   refine ⟨.agg ⟨vs.take n⟩, vs.drop n, (List.take_append_drop n vs).symm, by simp only [Conc]; exact ⟨_, rfl, by simp; omega, hA⟩, by simp [An, SV.width]; omega, fun x hx => hA.one x hx, Ql h ⟨by simp; omega, fun j y hy => by
    obtain ⟨v, h1, h2⟩ := hp.2 (n + j) y (by rw [List.getElem?_append_right (by omega)]; simpa [hn] using hy);exact ⟨v, by rw [List.getElem?_drop]; exact h1, h2⟩⟩⟩
 | .agg _ :: _, _, _, h, _ => h.elim
 | .tup _ :: _, _, _, h, _ => h.elim
 | .p _ _ :: _, _, _, h, _ => h.elim
 | .ps _ _ :: _, _, _, h, _ => h.elim
 | .pr _ _ _ _ :: _, _, _, h, _ => h.elim
 | .pi _ _ _ _ :: _, _, _, h, _ => h.elim
 | .os _ :: _, _, _, h, _ => h.elim
 | .ov _ _ _ _ :: _, _, _, h, _ => h.elim
 | .fn _ _ :: _, _, _, h, _ => h.elim
 | .dead :: _, _, _, h, _ => h.elim
theorem Yk {l : List SV} {cs : List PV} {n : Nat} (h : Agf l cs) : Imp (.vec n cs) (.agg l) := by
 intro V ρ v hv;simp only [Conc] at hv ⊢;obtain ⟨vs, rfl, _, hp⟩ := hv;exact ⟨vs, rfl, Ql h hp⟩
def Ae6 (a b : Vc) (k : Nat) : FS := mk [(8, .pv (.i .i64 k)), (7, .vec 8 (vE a)), (4, .pv (.b false)), (3, .p 3 0)] [(3, some (.var (.vec 8 (vE b))))]
theorem Afn (a b : Vc) {h d} : FunOk Try.prog 32 [.vec 8 (vE a), .vec 8 (vE b)] h d (.pv (.b (decide (vLe a b)))) [] := by
 refine A5 Am fn32 (by simp) rfl rfl fun F => ?_;simp (disch := omega) only [ir32, go_sem];refine Bd Am (Ae6 a b) (fun k => k ≤ 8 ∧ ∀ i, i < k → a i ≤ b i) (fun k => 8 - k) 0 (by simp) (A2 ?_ ?_) fun k hk => ?_
 · simp (disch := omega) only [go_sem]
 · simp (disch := omega) only [go_sem]
 obtain ⟨hk, hle⟩ := hk;by_cases hlt : k < 8
 · by_cases hc : a k ≤ b k
   · simp (disch := omega) only [Ae6, go_sem];refine Au (k + 1) _ _ rfl ⟨by omega, fun i hi => ?_⟩ (by omega) ?_ ?_
     · by_cases e : i = k
       · subst e; exact hc
       · exact hle i (by omega)
     · simp (disch := omega) only [go_sem]
     · simp (disch := omega) only [go_sem]
   · have hn : ¬ vLe a b := fun h => hc (h k hlt);simp (disch := omega) only [Ae6, hn, go_sem]
 · have hn : vLe a b := fun i hi => hle i (by omega);simp (disch := omega) only [Ae6, hn, go_sem]
theorem Xq (g : SlI) (h : g.ok) : Imp (.pv g.pv) (.pv (.sl g.f 2 (g.l.map Ev))) := Ua (Hc id (h.imp (fun e => by rw [e]; rfl) id) (.refl _))
def Pm (r : Int) (q : Nat) (s : List UInt8) : Ver := ⟨r, q, s, fun _ => 0⟩
theorem Ae0 (r : Int) (q : Nat) (s : List UInt8) : Imp (.agg [.vec 2 [.i .i64 r, .i .u32 q], .pv (.s s), .vec 8 (vE fun _ => 0)]) (.vec 11 (Bk (Pm r q s))) := Ow (by rfl) (Sv _)
theorem Asg {l : List Ver} {g : SlI} {r : Int} {q : Nat} {s : List UInt8} {h d} (hg : g.ok) (hs : Cd l) (hn : l.length ≤ 900) (hbn : g.l.length ≤ 900) (hm : ¬ Dw l g.l) (ho : Co l r q = none) :
 FunOk Try.prog 69 [.pv (.sl false 11 (l.map Bk)), .pv g.pv, .agg [.vec 2 [.i .i64 r, .i .u32 q], .pv (.s s), .vec 8 (vE fun _ => 0)]] h d (.tup [.pv (.sl false 11 ((Fe l g.l (Pm r q s)).map Bk)), .pv (.i .i64 0)]) [] := by
 refine FunOk.imp (args' := [.pv (.sl false 11 (l.map Bk)), .pv (.sl g.f 2 (g.l.map Ev)), .vec 11 (Bk (Pm r q s))]) ?_ ⟨Imp.refl _, Xq g hg, Ae0 r q s, trivial⟩ (by simp [Aw, tn]);refine Air Am fn69 (by simp) rfl rfl fun F => ?_;exact Age hs hn hbn (fun h => absurd h hm) (fun _ h => by
  have ho' : Co l (Pm r q s).rep (Pm r q s).seq = none := ho;rw [ho'] at h; cases h) (fun _ _ g n hg => .inl ⟨n, rfl, hg⟩)
theorem Aag {l : List Ver} {g : SlI} {r : Int} {q : Nat} {s : List UInt8} {h d} (hg : g.ok) (hs : Cd l) (hn : l.length ≤ 900) (hbn : g.l.length ≤ 900) (hm : Dw l g.l) :
 FunOk Try.prog 69 [.pv (.sl false 11 (l.map Bk)), .pv g.pv, .agg [.vec 2 [.i .i64 r, .i .u32 q], .pv (.s s), .vec 8 (vE fun _ => 0)]] h d (.tup [.pv (.sl true 0 []), .pv (.i .i64 2)]) [] := by
 refine FunOk.imp (args' := [.pv (.sl false 11 (l.map Bk)), .pv (.sl g.f 2 (g.l.map Ev)), .vec 11 (Bk (Pm r q s))]) ?_ ⟨Imp.refl _, Xq g hg, Ae0 r q s, trivial⟩ (by simp [Aw, tn]);exact Ada rfl rfl hs hn hbn hm
def Db (e : Evt) : Bg := match e.base.l with
 | [] => (0, 0)
 | b :: _ => b
def Dv (l : List Ver) (e : Evt) : List UInt8 :=
 if e.kind = 5 then e.data
 else if e.kind = 4 then Ru (C3 l (Db e).1 (Db e).2).1 e.off.toNat
 else Jt (C3 l (Db e).1 (Db e).2).1 e.off.toNat e.data
structure FitsW (l : List Ver) (e : Evt) : Prop where
 k : e.kind = 3 ∨ e.kind = 4 ∨ e.kind = 5
 off : e.kind ≠ 5 → 0 ≤ e.off ∧ e.off ≤ 200
 len : e.kind = 3 → e.off + e.data.length ≤ 200
 data : ∀ v ∈ l, v.data.length ≤ 200
theorem Wv {l : List Ver} (h : ∀ v ∈ l, v.data.length ≤ 200) (r : Int) (q : Nat) : (C3 l r q).1.length ≤ 200 := by
 unfold C3;split
 · simp
 · split
   · rename_i v hv; exact h v (Wq hv).1
   · simp
theorem Ww (l : List Ver) (r : Int) (q : Nat) : (C3 l r q).2 = 0 ∨ (C3 l r q).2 = 2 := by
 unfold C3;split
 · exact .inl rfl
 · split
   · exact .inl rfl
   · exact .inr rfl
set_option maxHeartbeats 2000000 in
theorem Afp {l : List Ver} {e : Evt} (he : ev e) (hf : FitsW l e) (hs : Cd l) (hn : l.length ≤ 900) {h d} :
 FunOk Try.prog 68 [.pv (.sl false 11 (l.map Bk)), .vec 21 (Bp e)] h d (if e.kind = 5 ∨ (C3 l (Db e).1 (Db e).2).2 = 0 then .tup [.pv (.s (Dv l e)), .pv (.i .i64 0)] else .tup [.pv (.s []), .pv (.i .i64 2)]) [] := by
 refine A5 Am fn68 (by simp) rfl (by split <;> rfl) fun F => ?_;by_cases h5 : e.kind = 5
 · rw [if_pos (.inl h5)];have hb : Dv l e = e.data := if_pos h5;simp (disch := omega) only [ir68, Az, h5, H8, hb, go_sem]
 · have hz : (if e.kind = 5 ∨ (C3 l (Db e).1 (Db e).2).2 = 0 then (SV.tup [.pv (.s (Dv l e)), .pv (.i .i64 0)]) else .tup [.pv (.s []), .pv (.i .i64 2)]) = if (C3 l (Db e).1 (Db e).2).2 = 0 then (SV.tup [.pv (.s (Dv l e)), .pv (.i .i64 0)]) else .tup [.pv (.s []), .pv (.i .i64 2)] := by
    by_cases hd : (C3 l (Db e).1 (Db e).2).2 = 0
    · rw [if_pos (.inr hd), if_pos hd]
    · rw [if_neg (fun q => q.elim h5 hd), if_neg hd]
   rw [hz];have hoff := hf.off h5;have hdl := Wv hf.data (Db e).1 (Db e).2;have hpv : e.base.pv = .sl e.base.f e.base.z (e.base.l.map Ev) := rfl;cases hbl : e.base.l with
   | nil =>
     obtain ⟨b, hb⟩ : ∃ b : Bg, b = (0, 0) := ⟨_, rfl⟩
     have hbi : Db e = b := by unfold Db; rw [hbl, hb]
     simp (disch := omega) only [ir68, Az, h5, Gh, hpv, hbl, List.map_nil, go_sem];rw [hbi] at hdl ⊢;have hde := Ww l b.1 b.2;have hbv : Dv l e = if e.kind = 4 then Ru (C3 l b.1 b.2).1 e.off.toNat else Jt (C3 l b.1 b.2).1 e.off.toNat e.data := by unfold Dv; rw [if_neg h5, hbi]
     refine Aa (FunOk.imp (Amg (l := l) b.1 b.2 rfl rfl hs (by omega)) ⟨Imp.refl _, by subst hb; exact Ow (by rfl) rfl, trivial⟩ (by simp [Aw, tn])) ?_;generalize C3 l b.1 b.2 = w at *;by_cases hw : w.2 = 0
     · rw [if_pos hw];by_cases h4 : e.kind = 4
       · rw [if_pos h4] at hbv;have hc := Uu (data := w.1) (n := e.off) (by omega);simp (disch := omega) only [hw, Az, h4, Ok, go_sem];refine Aa (Avp w.1 e.off (by omega)) ?_;simp (disch := omega) only [hc, hbv, go_sem]
       · rw [if_neg h4] at hbv;have h3 : e.kind = 3 := by have := hf.k; omega
         have hl := hf.len h3;have hc := Px (data := w.1) (off := e.off) (s := e.data) (by unfold Ey; omega);simp (disch := omega) only [hw, Az, h4, Ok, H8, go_sem];refine Aa (Afm w.1 e.data e.off) ?_;simp (disch := omega) only [hc, hbv, go_sem]
     · rw [if_neg hw];have hw2 := hde.resolve_left hw;simp (disch := omega) only [hw2, go_sem]
   | cons b t =>
     have hbi : Db e = b := by unfold Db; rw [hbl]
     have hok : e.base.z = 2 := he.2.1.resolve_left (by rw [hbl]; simp);have h0 : (List.map Ev (b :: t))[0]? = some (Ev b) := rfl;have hpos : (0 : Int) < ((t.length : Int) + 1) := by omega
     simp (disch := omega) only [ir68, Az, h5, Gh, hpv, hbl, hok, List.length_map, h0, Im, go_sem];rw [hbi] at hdl ⊢;have hde := Ww l b.1 b.2;have hbv : Dv l e = if e.kind = 4 then Ru (C3 l b.1 b.2).1 e.off.toNat else Jt (C3 l b.1 b.2).1 e.off.toNat e.data := by unfold Dv; rw [if_neg h5, hbi]
     refine Aa (FunOk.imp (Amg (l := l) b.1 b.2 rfl rfl hs (by omega)) ⟨Imp.refl _, Imp.refl _, trivial⟩ (by simp [Aw, tn])) ?_;generalize C3 l b.1 b.2 = w at *;by_cases hw : w.2 = 0
     · rw [if_pos hw];by_cases h4 : e.kind = 4
       · rw [if_pos h4] at hbv;have hc := Uu (data := w.1) (n := e.off) (by omega);simp (disch := omega) only [hw, Az, h4, Ok, go_sem];refine Aa (Avp w.1 e.off (by omega)) ?_;simp (disch := omega) only [hc, hbv, go_sem]
       · rw [if_neg h4] at hbv;have h3 : e.kind = 3 := by have := hf.k; omega
         have hl := hf.len h3;have hc := Px (data := w.1) (off := e.off) (s := e.data) (by unfold Ey; omega);simp (disch := omega) only [hw, Az, h4, Ok, H8, go_sem];refine Aa (Afm w.1 e.data e.off) ?_;simp (disch := omega) only [hc, hbv, go_sem]
     · rw [if_neg hw];have hw2 := hde.resolve_left hw;simp (disch := omega) only [hw2, go_sem]
abbrev Ar (e : Evt) : Bg := (e.rep, e.seq)
abbrev Ap (e : Evt) : Bg := (e.orep, e.oseq)
abbrev F4 (e : Evt) : Bg := (e.drep, e.dseq)
theorem Wh {l : List Obj} (hs : D1 l) {i : Bg} {o : Obj} (h : l[Ct l i]? = some o) (ho : o.id = i) : isO l i = true := by
 rw [Ot hs, h]; simp [ho]
theorem Apd {l : List Ver} {e : Evt} (h : ¬ Dw l e.base.l) : (C3 l (Db e).1 (Db e).2).2 = 0 := by
 have key : ∀ b : Bg, (b = (0, 0) ∨ b ∈ e.base.l) → (C3 l b.1 b.2).2 = 0 := fun b hb => by
  by_cases hz : b.1 = 0 ∧ b.2 = 0
  · rw [Yz hz]
  · cases hv : Co l b.1 b.2 with
    | some v => rw [Yy hz hv]
    | none =>
      rcases hb with rfl | hb
      · exact absurd ⟨rfl, rfl⟩ hz
      · exact absurd ⟨b, hb, hv⟩ h
 refine key _ ?_;unfold Db;cases e.base.l with
 | nil => exact .inl rfl
 | cons b t => exact .inr List.mem_cons_self
structure StOk (s : St) : Prop where
 fine : Fine s
 so : D1 s.objs
 se : Cx s.ents
structure VerOk (o : Obj) (e : Evt) : Prop where
 sv : Cd o.vers
 fw : FitsW o.vers e
 new : Co o.vers e.rep e.seq = none
 bl : e.base.l.length ≤ 900
theorem B0 {rs : List Rv} {R : SV → FS → Prop} {s : FS} (h : Jr s rs fun l => R (one l) s) : Vl rs R s := ⟨s, .same s, h⟩
theorem O0 {l : List Obj} {k : Nat} {o : Obj} (h : l[k]? = some o) : (l.map Av).getD k [] = Av o := by
 rw [List.getD_eq_getElem?_getD, List.getElem?_map, h]; rfl
def wrO (s : St) (e : Evt) (o : Obj) : List Obj := s.objs.set (Ct s.objs (Ap e)) { o with vers := Fe o.vers e.base.l (Pm e.rep e.seq (Dv o.vers e)) }
def Hg (s : St) : SV := .agg (Ax s (.os 38) (Dt s))
theorem Cy (s : St) : ∀ n ∈ tn (Hg s), n = 6 ∨ n = 38 := fun n hn => by
 simp [Hg, Ax, Dt, tn, Aw] at hn; exact .inr hn
set_option maxHeartbeats 4000000 in
theorem A10 {s : St} {e : Evt} {o : Obj} (hs : StOk s) (he : ev e) (ho : s.objs[Ct s.objs (Ap e)]? = some o) (hid : o.id = Ap e) (hd : o.dir = false) (hv : VerOk o e) (hm : ¬ Dw o.vers e.base.l) {h d}
 (hg : h 6 = some (.var (Hg s))) (h38 : h 38 = some (.row 15 (s.objs.map Av))) :
 DeepOk Try.prog 50 [.p 6 0, .vec 21 (Bp e)] h d (.pv (.i .i64 0)) [.new 38 (.row 15 ((wrO s e o).map Av)), .upd 6 (.var (Hg s))] := by
 refine Df Am fn50 (by simp) hg h38 (by decide) rfl (Cy s) fun F => ?_;have hk := hv.fw.k;have n8 : ¬ e.kind = 8 := by omega
 have n9 : ¬ e.kind = 9 := by omega
 have n1 : ¬ e.kind = 1 := by omega
 have n2 : ¬ e.kind = 2 := by omega
 have n6 : ¬ e.kind = 6 := by omega
 have n7 : ¬ e.kind = 7 := by omega
 have hi := Wh hs.so ho hid;have hlt := (List.getElem?_eq_some_iff.1 ho).1;have hel : (s.objs.map Av)[Ct s.objs (Ap e)]? = some (Av o) := by rw [List.getElem?_map, ho]; rfl
 have hgd := O0 ho;have a1 := hs.fine.on;have a2 := hs.fine.ov o (List.mem_of_getElem? ho);have hb := Afp he hv.fw hv.sv (by omega) (h := fun _ => none) (d := 0);rw [if_pos (.inr (Apd hm))] at hb;simp (disch := omega) only [ir50, Hg, Ax, Dt, Az, n8, n9, n1, n2, C7, go_sem];refine Aa (K5 (l := s.objs) (Ap e) rfl rfl hs.so (by omega)) ?_;simp (disch := omega) only [hi, List.length_map, n6, n7, Az, hel, F7, hd, Dm, B9, go_sem];refine Aa (hb.at (by simp [Aw, tn])) ?_;simp (disch := omega) only [hel, Dm, Gh, Ch, go_sem];have hpv : e.base.pv = .sl e.base.f e.base.z (e.base.l.map Ev) := rfl;have hA := Asg (g := e.base) (r := e.rep) (q := e.seq) (s := Dv o.vers e) he.2.1 hv.sv (by omega) hv.bl hm hv.new (h := fun _ => none) (d := 0);refine Aa (hA.at (by simp [Aw, tn, hpv])) ?_;have hsp := S7 o false 11 (Fe o.vers e.base.l (Pm e.rep e.seq (Dv o.vers e)));have hset : (s.objs.map Av).set (Ct s.objs (Ap e)) (Du false 11 { o with vers := Fe o.vers e.base.l (Pm e.rep e.seq (Dv o.vers e)) }) = (wrO s e o).map Av := by
  unfold wrO; rw [List.map_set]; rfl
 simp (disch := omega) only [hgd, hsp, List.length_map, hset, go_sem];refine B0 ?_;simp (disch := omega) only [go_sem]
def Xf (s : St) (e : Evt) (n : Int) : Prop := ∀ (h : Nat → Option Blk) (d : Nat), h 6 = some (.var (Hg s)) → h 38 = some (.row 15 (s.objs.map Av)) → ∃ r X, DeepOk Try.prog 50 [.p 6 0, .vec 21 (Bp e)] h d (.pv (.i .i64 n)) [.new 38 (.row 15 r), .upd 6 (.var X)]
set_option maxHeartbeats 4000000 in
theorem Ac8 {s : St} {e : Evt} {o : Obj} (hs : StOk s) (he : ev e) (ho : s.objs[Ct s.objs (Ap e)]? = some o) (hid : o.id = Ap e) (hd : o.dir = false) (hv : VerOk o e) (hm : Dw o.vers e.base.l) : Xf s e 2 := by
 intro h d hg h38;have hk := hv.fw.k;have n8 : ¬ e.kind = 8 := by omega
 have n9 : ¬ e.kind = 9 := by omega
 have n1 : ¬ e.kind = 1 := by omega
 have n2 : ¬ e.kind = 2 := by omega
 have n6 : ¬ e.kind = 6 := by omega
 have n7 : ¬ e.kind = 7 := by omega
 have hi := Wh hs.so ho hid;have hlt := (List.getElem?_eq_some_iff.1 ho).1;have hel : (s.objs.map Av)[Ct s.objs (Ap e)]? = some (Av o) := by rw [List.getElem?_map, ho]; rfl
 have hgd := O0 ho;have a1 := hs.fine.on;have a2 := hs.fine.ov o (List.mem_of_getElem? ho);have hb := Afp he hv.fw hv.sv (by omega) (h := fun _ => none) (d := 0);by_cases hq : e.kind = 5 ∨ (C3 o.vers (Db e).1 (Db e).2).2 = 0
 · rw [if_pos hq] at hb;refine ⟨(s.objs.map Av).set (Ct s.objs (Ap e)) (splice (Av o) 14 [.sl true 0 []]), Hg s, Df Am fn50 (by simp) hg h38 (by decide) rfl (Cy s) fun F => ?_⟩;simp (disch := omega) only [ir50, Hg, Ax, Dt, Az, n8, n9, n1, n2, C7, go_sem];refine Aa (K5 (l := s.objs) (Ap e) rfl rfl hs.so (by omega)) ?_;simp (disch := omega) only [hi, List.length_map, n6, n7, Az, hel, F7, hd, Dm, B9, go_sem];refine Aa (hb.at (by simp [Aw, tn])) ?_;simp (disch := omega) only [hel, Dm, Gh, Ch, go_sem];have hpv : e.base.pv = .sl e.base.f e.base.z (e.base.l.map Ev) := rfl;have hA := Aag (g := e.base) (r := e.rep) (q := e.seq) (s := Dv o.vers e) he.2.1 hv.sv (by omega) hv.bl hm (h := fun _ => none) (d := 0);refine Aa (hA.at (by simp [Aw, tn, hpv])) ?_;simp (disch := omega) only [hgd, List.length_map, go_sem];refine B0 ?_;simp (disch := omega) only [go_sem]
 · rw [if_neg hq] at hb;refine ⟨s.objs.map Av, Hg s, Df Am fn50 (by simp) hg h38 (by decide) rfl (Cy s) fun F => ?_⟩;simp (disch := omega) only [ir50, Hg, Ax, Dt, Az, n8, n9, n1, n2, C7, go_sem];refine Aa (K5 (l := s.objs) (Ap e) rfl rfl hs.so (by omega)) ?_;simp (disch := omega) only [hi, List.length_map, n6, n7, Az, hel, F7, hd, Dm, B9, go_sem];refine Aa (hb.at (by simp [Aw, tn])) ?_;simp (disch := omega) only [go_sem];refine B0 ?_;simp (disch := omega) only [go_sem]
theorem Amb {s : St} {e : Evt} {o : Obj} (hs : StOk s) (hk : e.kind = 3 ∨ e.kind = 4 ∨ e.kind = 5) (ho : s.objs[Ct s.objs (Ap e)]? = some o) (hid : o.id = Ap e) (hd : o.dir = true) : Xf s e 23 := by
 intro h d hg h38;have n8 : ¬ e.kind = 8 := by omega
 have n9 : ¬ e.kind = 9 := by omega
 have n1 : ¬ e.kind = 1 := by omega
 have n2 : ¬ e.kind = 2 := by omega
 have n6 : ¬ e.kind = 6 := by omega
 have n7 : ¬ e.kind = 7 := by omega
 have hi := Wh hs.so ho hid;have hlt := (List.getElem?_eq_some_iff.1 ho).1;have hel : (s.objs.map Av)[Ct s.objs (Ap e)]? = some (Av o) := by rw [List.getElem?_map, ho]; rfl
 have a1 := hs.fine.on;refine ⟨s.objs.map Av, Hg s, Df Am fn50 (by simp) hg h38 (by decide) rfl (Cy s) fun F => ?_⟩;simp (disch := omega) only [ir50, Hg, Ax, Dt, Az, n8, n9, n1, n2, C7, go_sem];refine Aa (K5 (l := s.objs) (Ap e) rfl rfl hs.so (by omega)) ?_;simp (disch := omega) only [hi, List.length_map, n6, n7, Az, hel, F7, hd, Dm, B9, go_sem];refine B0 ?_;simp (disch := omega) only [go_sem]
theorem Ahh {s : St} {e : Evt} (hs : StOk s) (hk : e.kind = 3 ∨ e.kind = 4 ∨ e.kind = 5 ∨ e.kind = 6 ∨ e.kind = 7) (hi : isO s.objs (Ap e) = false) : Xf s e 2 := by
 intro h d hg h38;have n8 : ¬ e.kind = 8 := by omega
 have n9 : ¬ e.kind = 9 := by omega
 have n1 : ¬ e.kind = 1 := by omega
 have n2 : ¬ e.kind = 2 := by omega
 have a1 := hs.fine.on;refine ⟨s.objs.map Av, Hg s, Df Am fn50 (by simp) hg h38 (by decide) rfl (Cy s) fun F => ?_⟩;simp (disch := omega) only [ir50, Hg, Ax, Dt, Az, n8, n9, n1, n2, C7, go_sem];refine Aa (K5 (l := s.objs) (Ap e) rfl rfl hs.so (by omega)) ?_;simp (disch := omega) only [hi, go_sem];refine B0 ?_;simp (disch := omega) only [go_sem]
theorem K4 {s : St} (i : Bg) {h d} (hs : D1 s.objs) (hn : s.objs.length ≤ 1000) (h38 : h 38 = some (.row 15 (s.objs.map Av))) :
 FunOk Try.prog 63 [.agg [.vec 8 (vE s.known), .os 38, .pv (.sl false 15 (s.ents.map Bb)), .vec 8 (iE s.wards), .vec 8 (wE s.ret)], .vec 2 [.i .i64 i.1, .i .u32 i.2]] h d (.pv (.i .i64 (Kr s.objs i))) [] :=
 FunOk.lend (n := 38) (h' := h) (d' := d) h38 (by simp [Aw, tn]) (by simp [Aw, tn, SV.frz, SV.frzL]) rfl (Ama (s := s) i hs hn)
def Tw (e : Evt) : Obj := ⟨Ar e, decide (e.kind = 2), Ar e, e.name, fun _ => 0, []⟩
def Eu (e : Evt) (obj : Bg) : Ent := ⟨Ar e, F4 e, e.name, obj, fun _ => 0⟩
theorem Auh (e : Evt) (obj : Bg) : Imp (.agg [.vec 2 [.i .i64 e.rep, .i .u32 e.seq], .vec 2 [.i .i64 e.drep, .i .u32 e.dseq], .pv (.s e.name), .vec 2 [.i .i64 obj.1, .i .u32 obj.2], .vec 8 (vE fun _ => 0)]) (.vec 15 (Bb (Eu e obj))) := Ow (by rfl) (E3 _)
theorem X4 {l : List Ent} (e : Evt) (obj : Bg) {h d} (hs : Cx l) (hn : l.length ≤ 1000) :
 FunOk Try.prog 66 [.pv (.sl false 15 (l.map Bb)), .agg [.vec 2 [.i .i64 e.rep, .i .u32 e.seq], .vec 2 [.i .i64 e.drep, .i .u32 e.dseq], .pv (.s e.name), .vec 2 [.i .i64 obj.1, .i .u32 obj.2], .vec 8 (vE fun _ => 0)]] h d (.os d) [.new d (.row 15 ((Pc l (Eu e obj)).map Bb))] :=
 FunOk.imp (Ax2 (l := l) (Eu e obj) rfl rfl hs hn) ⟨Imp.refl _, Auh e obj, trivial⟩ (by simp [Aw, tn])
set_option maxHeartbeats 4000000 in
theorem Ahj {s : St} {e : Evt} (hs : StOk s) (hk : e.kind = 1 ∨ e.kind = 2) (hd : Kr s.objs (F4 e) ≠ 0) : Xf s e (Kr s.objs (F4 e)) := by
 intro h d hg h38;have n8 : ¬ e.kind = 8 := by omega
 have n9 : ¬ e.kind = 9 := by omega
 have a1 := hs.fine.on;refine ⟨s.objs.map Av, Hg s, Df Am fn50 (by simp) hg h38 (by decide) rfl (Cy s) fun F => ?_⟩;rcases hk with hk | hk
 all_goals
  simp (disch := omega) only [ir50, Hg, Ax, Dt, Az, n8, n9, hk, Ef, go_sem];refine Aa (K4 (s := s) (F4 e) hs.so (by omega) rfl) ?_;simp (disch := omega) only [hd, go_sem];refine B0 ?_;simp (disch := omega) only [go_sem]
def mkS (s : St) (e : Evt) : St := { s with objs := s.objs.take (Ct s.objs (Ar e)) ++ Tw e :: s.objs.drop (Ct s.objs (Ar e)), ents := Pc s.ents (Eu e (Ar e)) }
set_option maxHeartbeats 4000000 in
theorem A11 {s : St} {e : Evt} (hs : StOk s) (hk : e.kind = 1 ∨ e.kind = 2) (hd : Kr s.objs (F4 e) = 0) {h d}
 (hg : h 6 = some (.var (Hg s))) (h38 : h 38 = some (.row 15 (s.objs.map Av))) :
 DeepOk Try.prog 50 [.p 6 0, .vec 21 (Bp e)] h d (.pv (.i .i64 0)) [.new 38 (.row 15 ((s.objs.map Av).take (Ct s.objs (Ar e)) ++ Du true 0 (Tw e) :: (s.objs.map Av).drop (Ct s.objs (Ar e)))), .upd 6 (.var (Hg (mkS s e)))] := by
 have n8 : ¬ e.kind = 8 := by omega
 have n9 : ¬ e.kind = 9 := by omega
 have a1 := hs.fine.on;have a3 := hs.fine.en;refine Df Am fn50 (by simp) hg h38 (by decide) rfl (Cy _) fun F => ?_;rcases hk with hk | hk
 · skip
   simp (disch := omega) only [ir50, Hg, Ax, Dt, Az, n8, n9, hk, Ef, go_sem];refine Aa (K4 (s := s) (F4 e) hs.so (by omega) rfl) ?_;simp (disch := omega) only [hd, Ch, go_sem];refine Aa (K5 (l := s.objs) (Ar e) rfl rfl hs.so (by omega)) ?_;have hN : ∀ b, b = decide (e.kind = 2) → (PV.i .i64 e.rep :: .i .u32 e.seq :: .b b :: .i .i64 e.rep :: .i .u32 e.seq :: .s e.name :: ((vE fun _ => 0) ++ [.sl true 0 []])) = Du true 0 (Tw e) := fun b hb => by subst hb; rfl
   have hN := hN false (by simp [hk]);have hl9 : ((vE fun _ => 0) ++ [PV.sl true 0 []]).length = 9 := by simp [Bw]
   simp (disch := omega) only [Ch, Az, hk, En, hN, hl9, Dd, go_sem];have hp := Xw s.objs (Ar e);refine Aa (Al7 (m := 38) (n := 75) (s.objs.map Av) (Du true 0 (Tw e)) (Ct s.objs (Ar e)) (by simpa using hp) (by simp; omega) (V9 _) (Dd _ _ _) (by decide) (by decide) (by decide) (by decide) rfl rfl) ?_;simp (disch := omega) only [Ch, Ef, En, go_sem];refine Aa (X4 (l := s.ents) e (Ar e) hs.se (by omega)) ?_;simp (disch := omega) only [go_sem];refine ⟨_, Ij 93 rfl (Ks 76 38 (by decide) rfl (.same _)), ?_⟩
   (try simp only [D9, D8, D7, D6, D5, D4, D3, D2]); simp (disch := omega) only [mkS, go_sem]
 · skip
   simp (disch := omega) only [ir50, Hg, Ax, Dt, Az, n8, n9, hk, Ef, go_sem];refine Aa (K4 (s := s) (F4 e) hs.so (by omega) rfl) ?_;simp (disch := omega) only [hd, Ch, go_sem];refine Aa (K5 (l := s.objs) (Ar e) rfl rfl hs.so (by omega)) ?_;have hN : ∀ b, b = decide (e.kind = 2) → (PV.i .i64 e.rep :: .i .u32 e.seq :: .b b :: .i .i64 e.rep :: .i .u32 e.seq :: .s e.name :: ((vE fun _ => 0) ++ [.sl true 0 []])) = Du true 0 (Tw e) := fun b hb => by subst hb; rfl
   have hN := hN true (by simp [hk]);have hl9 : ((vE fun _ => 0) ++ [PV.sl true 0 []]).length = 9 := by simp [Bw]
   simp (disch := omega) only [Ch, Az, hk, En, hN, hl9, Dd, go_sem];have hp := Xw s.objs (Ar e);refine Aa (Al7 (m := 38) (n := 75) (s.objs.map Av) (Du true 0 (Tw e)) (Ct s.objs (Ar e)) (by simpa using hp) (by simp; omega) (V9 _) (Dd _ _ _) (by decide) (by decide) (by decide) (by decide) rfl rfl) ?_;simp (disch := omega) only [Ch, Ef, En, go_sem];refine Aa (X4 (l := s.ents) e (Ar e) hs.se (by omega)) ?_;simp (disch := omega) only [go_sem];refine ⟨_, Ij 93 rfl (Ks 76 38 (by decide) rfl (.same _)), ?_⟩
   (try simp only [D9, D8, D7, D6, D5, D4, D3, D2]); simp (disch := omega) only [mkS, go_sem]
def Kx (s : St) (e : Evt) : St := { s with wards := Gy s.wards (e.rep - 1).toNat e.ward }
def Vm (s : St) (e : Evt) : St := { s with ret := Gy s.ret (e.rep - 1).toNat true }
theorem Ak1 (s : St) {k : Nat} (hk : k < 8) (n : Int) (a b : PV) : splice (vE s.known ++ a :: b :: (iE s.wards ++ wE s.ret)) (10 + k) [.i .i64 n] = vE s.known ++ a :: b :: (iE (Gy s.wards k n) ++ wE s.ret) := by
 rw [← Vz hk];simp only [splice, vE, iE, wE, Cb];have hk2 : k = 0 ∨ k = 1 ∨ k = 2 ∨ k = 3 ∨ k = 4 ∨ k = 5 ∨ k = 6 ∨ k = 7 := by omega
 rcases hk2 with rfl | rfl | rfl | rfl | rfl | rfl | rfl | rfl <;> rfl
theorem Ark (s : St) {k : Nat} (hk : k < 8) (n : Bool) (a b : PV) : splice (vE s.known ++ a :: b :: (iE s.wards ++ wE s.ret)) (18 + k) [.b n] = vE s.known ++ a :: b :: (iE s.wards ++ wE (Gy s.ret k n)) := by
 rw [← Vy hk];simp only [splice, vE, iE, wE, Cb];have hk2 : k = 0 ∨ k = 1 ∨ k = 2 ∨ k = 3 ∨ k = 4 ∨ k = 5 ∨ k = 6 ∨ k = 7 := by omega
 rcases hk2 with rfl | rfl | rfl | rfl | rfl | rfl | rfl | rfl <;> rfl
theorem Akq (s : St) : Imp (.vec 26 (vE s.known ++ .sl false 15 (s.objs.map Av) :: .sl false 15 (s.ents.map Bb) :: (iE s.wards ++ wE s.ret))) (.agg (A8 s)) :=
 Yk ⟨Bw _, _, rfl, _, rfl, _, rfl, Md _, _, rfl, Pl _, [], by simp, rfl⟩
theorem Ahi {s : St} {e : Evt} (hk : e.kind = 8) (hr : 1 ≤ e.rep ∧ e.rep ≤ 8) {h d} (hg : h 6 = some (.var (.agg (A8 s)))) :
 FunOk Try.prog 50 [.p 6 0, .vec 21 (Bp e)] h d (.pv (.i .i64 0)) [.upd 6 (.var (.agg (A8 (Kx s e))))] := by
 refine Ib (g := 6) Am fn50 (by simp) (by simp [Aw, tn]) (by simp [Aw, tn]) hg rfl (by simp [Blk.ptr, SV.kill]) rfl (fun _ => rfl) fun F => ?_;obtain ⟨k, hk8, hre⟩ : ∃ k : Nat, k < 8 ∧ e.rep - 1 = k := ⟨(e.rep - 1).toNat, by omega, by omega⟩
 have hS : Kx s e = { s with wards := Gy s.wards k e.ward } := by unfold Kx; rw [hre]; rfl
 have hsp := Ak1 s hk8 e.ward (.sl false 15 (s.objs.map Av)) (.sl false 15 (s.ents.map Bb));rw [hS];simp (disch := omega) only [ir50, A8, Ax, Blk.ptr, Az, hk, G2, Afx, hre, hsp, go_sem];refine ⟨mk [(4, .pv (.i .i64 0)), (1000000, .p 6 0)] [(6, some (.var (.agg (A8 { s with wards := Gy s.wards k e.ward }))))], A2 ?_ ?_, ?_⟩
 · simp (disch := omega) only [go_sem]
 · simp (disch := omega) only [go_sem];exact ⟨Akq { s with wards := Gy s.wards k e.ward }, rfl⟩
 (try simp only [D9, D8, D7, D6, D5, D4, D3, D2]); simp (disch := omega) only [go_sem]
 exact ⟨6, rfl, rfl⟩
theorem Amd {s : St} {e : Evt} (hk : e.kind = 9) (hr : 1 ≤ e.rep ∧ e.rep ≤ 8) {h d} (hg : h 6 = some (.var (.agg (A8 s)))) :
 FunOk Try.prog 50 [.p 6 0, .vec 21 (Bp e)] h d (.pv (.i .i64 0)) [.upd 6 (.var (.agg (A8 (Vm s e))))] := by
 refine Ib (g := 6) Am fn50 (by simp) (by simp [Aw, tn]) (by simp [Aw, tn]) hg rfl (by simp [Blk.ptr, SV.kill]) rfl (fun _ => rfl) fun F => ?_;obtain ⟨k, hk8, hre⟩ : ∃ k : Nat, k < 8 ∧ e.rep - 1 = k := ⟨(e.rep - 1).toNat, by omega, by omega⟩
 have hS : Vm s e = { s with ret := Gy s.ret k true } := by unfold Vm; rw [hre]; rfl
 have hsp := Ark s hk8 true (.sl false 15 (s.objs.map Av)) (.sl false 15 (s.ents.map Bb));rw [hS];simp (disch := omega) only [ir50, A8, Ax, Blk.ptr, Az, hk, G2, hre, hsp, go_sem];refine ⟨mk [(4, .pv (.i .i64 0)), (1000000, .p 6 0)] [(6, some (.var (.agg (A8 { s with ret := Gy s.ret k true }))))], A2 ?_ ?_, ?_⟩
 · simp (disch := omega) only [go_sem]
 · simp (disch := omega) only [go_sem];exact ⟨Akq { s with ret := Gy s.ret k true }, rfl⟩
 (try simp only [D9, D8, D7, D6, D5, D4, D3, D2]); simp (disch := omega) only [go_sem]
 exact ⟨6, rfl, rfl⟩
theorem Afc (s : St) (es : List (List PV)) : Blk.frz 38 (.sl false 15 es) (.var (Hg s)) = .var (.agg (Ax s (.pv (.sl false 15 es)) (Dt s))) := by
 simp [Hg, Ax, Dt, Blk.frz, SV.frz, SV.frzL]
theorem Amc {s : St} {e : Evt} (hk : e.kind = 8) (hr : 1 ≤ e.rep ∧ e.rep ≤ 8) {h d} (hg : h 6 = some (.var (Hg s))) (h38 : h 38 = some (.row 15 (s.objs.map Av))) :
 DeepOk Try.prog 50 [.p 6 0, .vec 21 (Bp e)] h d (.pv (.i .i64 0)) [.frz 38 (.sl false 15 (s.objs.map Av)), .upd 6 (.var (.agg (A8 (Kx s e))))] :=
 DeepOk.frz (args' := [.p 6 0, .vec 21 (Bp e)]) (h' := fun k => if k = 38 then none else (h k).map (Blk.frz 38 (.sl false 15 (s.objs.map Av)))) (d' := d) h38 rfl (fun k _ => rfl) (Ahi hk hr (by show (h 6).map _ = _; rw [hg, Option.map_some, Afc]; rfl))
theorem Asc {s : St} {e : Evt} (hk : e.kind = 9) (hr : 1 ≤ e.rep ∧ e.rep ≤ 8) {h d} (hg : h 6 = some (.var (Hg s))) (h38 : h 38 = some (.row 15 (s.objs.map Av))) :
 DeepOk Try.prog 50 [.p 6 0, .vec 21 (Bp e)] h d (.pv (.i .i64 0)) [.frz 38 (.sl false 15 (s.objs.map Av)), .upd 6 (.var (.agg (A8 (Vm s e))))] :=
 DeepOk.frz (args' := [.p 6 0, .vec 21 (Bp e)]) (h' := fun k => if k = 38 then none else (h k).map (Blk.frz 38 (.sl false 15 (s.objs.map Av)))) (d' := d) h38 rfl (fun k _ => rfl) (Amd hk hr (by show (h 6).map _ = _; rw [hg, Option.map_some, Afc]; rfl))
def Adv (l : List Bg) (i : Bg) : Int := match l.findIdx? (fun x => decide (i = x)) with
 | some k => k
 | none => -1
def Ae7 (f : Bool) (l : List Bg) (i : Bg) (k : Nat) : FS := mk [(8, .pv (.i .i64 k)), (7, .pv (.i .i64 l.length)), (0, .pv (.sl f 2 (l.map Ev))), (3, .p 3 0)] [(3, some (.var (.vec 2 [.i .i64 i.1, .i .u32 i.2])))]
set_option maxHeartbeats 1000000 in
theorem Al9 {f : Bool} {l : List Bg} (i : Bg) {h d} (hn : l.length ≤ 1000) : FunOk Try.prog 93 [.pv (.sl f 2 (l.map Ev)), .vec 2 [.i .i64 i.1, .i .u32 i.2]] h d (.pv (.i .i64 (Adv l i))) [] := by
 refine A5 Am fn93 (by simp) rfl rfl fun F => ?_;simp (disch := omega) only [ir93, List.length_map, go_sem];refine Bd Am (Ae7 f l i) (fun k => k ≤ l.length ∧ ∀ j x, j < k → l[j]? = some x → i ≠ x) (fun k => l.length - k) 0 ⟨by simp, fun j x hj => absurd hj (Nat.not_lt_zero j)⟩ (A2 ?_ ?_) fun k hk => ?_
 · simp (disch := omega) only [go_sem]
 · simp (disch := omega) only [go_sem]
 obtain ⟨hk1, hk2⟩ := hk;by_cases hlt : k < l.length
 · have hx : l[k]? = some l[k] := List.getElem?_eq_getElem hlt;have he : (l.map Ev)[k]? = some (Ev l[k]) := by rw [List.getElem?_map, hx]; rfl
   generalize l[k] = b at *;by_cases hb : i = b
   · have hp := Ac1 hb;have e : Adv l i = k := by
      have : l.findIdx? (fun x => decide (i = x)) = some k := by
       rw [List.findIdx?_eq_some_iff_getElem];refine ⟨hlt, by rw [List.getElem?_eq_getElem hlt] at hx; cases hx; simpa using hb, fun j hj => ?_⟩;have := hk2 j _ hj (List.getElem?_eq_getElem (by omega));simpa using this
      unfold Adv; rw [this]
     simp (disch := omega) only [Ae7, List.length_map, he, Im, Ao, hp, e, go_sem]
   · have hp := Xy hb;simp (disch := omega) only [Ae7, List.length_map, he, Im, Ao, hp, go_sem];refine Au (k + 1) _ _ rfl ⟨by omega, fun j x hj hjx => ?_⟩ (by omega) ?_ ?_
     · by_cases ej : j = k
       · subst ej; rw [hx] at hjx; cases hjx; exact hb
       · exact hk2 j x (by omega) hjx
     · simp (disch := omega) only [go_sem]
     · simp (disch := omega) only [go_sem]
 · obtain rfl : k = l.length := by omega
   have e : Adv l i = -1 := by
    have : l.findIdx? (fun x => decide (i = x)) = none := by
     rw [List.findIdx?_eq_none_iff];intro x hx;obtain ⟨j, hj⟩ := List.mem_iff_getElem?.1 hx;have := hk2 j x (List.getElem?_eq_some_iff.1 hj).1 hj;simpa using this
    unfold Adv; rw [this]
   simp (disch := omega) only [Ae7, e, go_sem]
theorem An3 (l : List Bg) (i : Bg) : decide (0 ≤ Adv l i) = decide (i ∈ l) := by
 unfold Adv;cases h : l.findIdx? (fun x => decide (i = x)) with
 | some k =>
   have := List.findIdx?_eq_some_iff_getElem.1 h;obtain ⟨h1, h2, _⟩ := this;have h3 : i = l[k] := by simpa using h2
   have : i ∈ l := by rw [h3]; exact List.getElem_mem h1
   simp only [this, decide_true, decide_eq_true_eq]; omega
 | none =>
   have h2 := List.findIdx?_eq_none_iff.1 h;have : ¬ i ∈ l := fun hm => by have := h2 i hm; simp at this
   simp only [this, decide_false, decide_eq_false_iff_not]; omega
theorem Q4 (g : SlI) (i : Bg) (hg : g.ok) {h d} (hn : g.l.length ≤ 1000) : FunOk Try.prog 79 [.pv g.pv, .vec 2 [.i .i64 i.1, .i .u32 i.2]] h d (.pv (.b (decide (i ∈ g.l)))) [] := by
 refine FunOk.imp (args' := [.pv (.sl g.f 2 (g.l.map Ev)), .vec 2 [.i .i64 i.1, .i .u32 i.2]]) ?_ ⟨Xq g hg, Imp.refl _, trivial⟩ (by simp [Aw, tn]);refine A5 Am fn79 (by simp) rfl rfl fun F => ?_;have e := An3 g.l i;simp (disch := omega) only [ir79, go_sem];refine Aa (Al9 (l := g.l) i hn) ?_;simp (disch := omega) only [e, go_sem]
def De (e : Evt) (x : Ent) : Bool := decide (x.obj = Ap e) && decide (x.id ∈ e.gone.l)
def D0 (e : Evt) (l m : List Ent) : List Ent := m.foldl (fun a x => if De e x = true then killL a x.id (Ar e) else a) l
theorem Uf (e : Evt) (l m : List Ent) (x : Ent) : D0 e l (m ++ [x]) = if De e x = true then killL (D0 e l m) x.id (Ar e) else D0 e l m := by
 simp [D0, List.foldl_append]
theorem J4 {e : Evt} {l : List Ent} (h : Cx l) : ∀ m : List Ent, Cx (D0 e l m) := fun m => by
 unfold D0
 induction m generalizing l with
 | nil => exact h
 | cons x m ih =>
   simp only [List.foldl_cons];split
   · exact ih (Agz h _ _)
   · exact ih h
theorem Qg {e : Evt} {l : List Ent} : ∀ m : List Ent, (D0 e l m).length = l.length := fun m => by
 unfold D0
 induction m generalizing l with
 | nil => rfl
 | cons x m ih =>
   simp only [List.foldl_cons];split
   · rw [ih]; exact As2 _ _ _
   · exact ih
def Zq (s : St) (e : Evt) (i k : Nat) : FS := mk [(27, .pv (.i .i64 k)), (26, .pv (.i .i64 s.ents.length)), (25, .pv (.sl false 15 (s.ents.map Bb))), (5, .p 5 0), (0, .p 6 0), (1, .pr 38 15 i 0), (1000000, .p 6 0)] [(5, some (.var (.vec 21 (Bp e)))), (6, some (.var (.agg (Ax s (.os 38) (.pv (.sl false 15 ((D0 e s.ents (s.ents.take k)).map Bb))))))), (38, some (.row 15 (s.objs.map Av)))]
theorem Alj {α : Type} {l : List α} {i : Nat} {x : α} (h : l[i]? = some x) : l.set i x = l := by
 obtain ⟨h1, h2⟩ := List.getElem?_eq_some_iff.1 h;rw [← h2]; exact List.set_getElem_self h1
def Q9 (s : St) (e : Evt) (i : Nat) (o : Obj) : St := { s with objs := s.objs.set i { o with seen := Fz o.seen (Bq e.dep e.rep e.seq) }, ents := D0 e s.ents s.ents }
set_option maxHeartbeats 4000000 in
theorem Ac7 {s : St} {e : Evt} {o : Obj} {i : Nat} (hs : StOk s) (he : ev e) (hk : e.kind = 6) (ho : s.objs[i]? = some o) {h d}
 (hg : h 6 = some (.var (Hg s))) (h38 : h 38 = some (.row 15 (s.objs.map Av))) :
 DeepOk Try.prog 67 [.p 6 0, .pr 38 15 i 0, .vec 21 (Bp e)] h d (.pv (.i .i64 0)) [.new 38 (.row 15 ((Q9 s e i o).objs.map Av)), .upd 6 (.var (Hg (Q9 s e i o)))] := by
 refine Df Am fn67 (by simp) hg h38 (by decide) rfl (Cy _) fun F => ?_;have hil := (List.getElem?_eq_some_iff.1 ho).1;have hel : (s.objs.map Av)[i]? = some (Av o) := by rw [List.getElem?_map, ho]; rfl
 have hgd := O0 ho;have a3 := hs.fine.en;simp (disch := omega) only [ir67, Hg, Ax, Dt, Az, hk, List.length_map, go_sem];refine Bd Am (Zq s e i) (fun k => k ≤ s.ents.length) (fun k => s.ents.length - k) 0 (by simp) (A2 ?_ ?_) fun k hk => ?_
 · simp (disch := omega) only [go_sem]
 · simp (disch := omega) only [Ax, D0, List.take_zero, List.foldl_nil, go_sem]
 by_cases hlt : k < s.ents.length
 · have hx : s.ents[k]? = some s.ents[k] := List.getElem?_eq_getElem hlt;have hel : (s.ents.map Bb)[k]? = some (Bb s.ents[k]) := by rw [List.getElem?_map, hx]; rfl
   have ht := Iy hx;have hsn := Uf e s.ents (s.ents.take k) s.ents[k];rw [← ht] at hsn;generalize s.ents[k] = x at *;have hel15 := E3 x;have hsoK := J4 (e := e) hs.se (s.ents.take k);have hlK := Qg (e := e) (l := s.ents) (s.ents.take k);by_cases h1 : x.obj = Ap e
   · have hp := Ac1 h1;have hpv : e.gone.pv = .sl e.gone.f e.gone.z (e.gone.l.map Ev) := rfl;simp (disch := omega) only [Zq, Ax, List.length_map, hel, K8, hel15, Mb, C7, O5, Ao, hp, H9, Gq, go_sem];refine Aa (Q4 e.gone x.id he.1 he.2.2.1) ?_;by_cases h2 : x.id ∈ e.gone.l
     · have hg : De e x = true := by unfold De; simp [h1, h2]
       rw [if_pos hg] at hsn;simp (disch := omega) only [h2, Gq, Ch, go_sem];refine Aa (Afo (l := D0 e s.ents (s.ents.take k)) x.id (Ar e) rfl rfl hsoK (by omega)) ?_;simp (disch := omega) only [go_sem];refine ⟨k + 1, by omega, by omega, Ij 52 rfl (A2 ?_ ?_)⟩
       · simp (disch := omega) only [go_sem]
       · simp (disch := omega) only [Ax, hsn, go_sem]
     · have hg : ¬ De e x = true := by unfold De; simp [h2]
       rw [if_neg hg] at hsn;simp (disch := omega) only [h2, go_sem];refine Au (k + 1) _ _ rfl (by omega) (by omega) ?_ ?_
       · simp (disch := omega) only [go_sem]
       · simp (disch := omega) only [Ax, hsn, go_sem]
   · have hp := Xy h1;have hg : ¬ De e x = true := by unfold De; simp [h1]
     rw [if_neg hg] at hsn;simp (disch := omega) only [Zq, Ax, List.length_map, hel, K8, hel15, Mb, C7, O5, Ao, hp, Gq, go_sem];refine Au (k + 1) _ _ rfl (by omega) (by omega) ?_ ?_
     · simp (disch := omega) only [go_sem]
     · simp (disch := omega) only [Ax, hsn, go_sem]
 obtain rfl : k = s.ents.length := by omega
 have htk : s.ents.take s.ents.length = s.ents := List.take_length;simp (disch := omega) only [Zq, Ax, htk, Az, hk, hel, T5, I5, Ch, go_sem];refine Aa (X1 e.dep e.rep e.seq) ?_;simp (disch := omega) only [go_sem];refine Aa (Axv o.seen (Bq e.dep e.rep e.seq)) ?_;have hsp := Aky o (Fz o.seen (Bq e.dep e.rep e.seq));have hset : (s.objs.map Av).set i (Av { o with seen := Fz o.seen (Bq e.dep e.rep e.seq) }) = (Q9 s e i o).objs.map Av := by
  unfold Q9; rw [List.map_set]
 have hvl := Bw (Fz o.seen (Bq e.dep e.rep e.seq));simp (disch := omega) only [hgd, hsp, List.length_map, hset, go_sem];refine B0 ?_;simp (disch := omega) only [Q9, go_sem]
def Tx (e : Evt) (o : Obj) : Obj := if C8 o.last.1 o.last.2 e.rep e.seq = true then { o with last := Ar e, name := e.name } else o
def K7 (s : St) (e : Evt) (i : Nat) (o : Obj) : St := { s with objs := s.objs.set i (Tx e o), ents := Pc (D0 e s.ents s.ents) (Eu e (Ap e)) }
set_option maxHeartbeats 4000000 in
theorem Ac6 {s : St} {e : Evt} {o : Obj} {i : Nat} (hs : StOk s) (he : ev e) (hk : e.kind = 7) (hd : Kr s.objs (F4 e) = 0) (ho : s.objs[i]? = some o) {h d}
 (hg : h 6 = some (.var (Hg s))) (h38 : h 38 = some (.row 15 (s.objs.map Av))) :
 DeepOk Try.prog 67 [.p 6 0, .pr 38 15 i 0, .vec 21 (Bp e)] h d (.pv (.i .i64 0)) [.new 38 (.row 15 ((K7 s e i o).objs.map Av)), .upd 6 (.var (Hg (K7 s e i o)))] := by
 refine Df Am fn67 (by simp) hg h38 (by decide) rfl (Cy _) fun F => ?_;have hil := (List.getElem?_eq_some_iff.1 ho).1;have hel : (s.objs.map Av)[i]? = some (Av o) := by rw [List.getElem?_map, ho]; rfl
 have hgd := O0 ho;have a1 := hs.fine.on;have a3 := hs.fine.en;simp (disch := omega) only [ir67, Hg, Ax, Dt, Az, hk, Ef, go_sem];refine Aa (K4 (s := s) (F4 e) hs.so (by omega) rfl) ?_;simp (disch := omega) only [hd, List.length_map, go_sem];refine Bd Am (Zq s e i) (fun k => k ≤ s.ents.length) (fun k => s.ents.length - k) 0 (by simp) (A2 ?_ ?_) fun k hk => ?_
 · simp (disch := omega) only [go_sem]
 · simp (disch := omega) only [Ax, D0, List.take_zero, List.foldl_nil, go_sem]
 by_cases hlt : k < s.ents.length
 · have hx : s.ents[k]? = some s.ents[k] := List.getElem?_eq_getElem hlt;have hel : (s.ents.map Bb)[k]? = some (Bb s.ents[k]) := by rw [List.getElem?_map, hx]; rfl
   have ht := Iy hx;have hsn := Uf e s.ents (s.ents.take k) s.ents[k];rw [← ht] at hsn;generalize s.ents[k] = x at *;have hel15 := E3 x;have hsoK := J4 (e := e) hs.se (s.ents.take k);have hlK := Qg (e := e) (l := s.ents) (s.ents.take k);by_cases h1 : x.obj = Ap e
   · have hp := Ac1 h1;have hpv : e.gone.pv = .sl e.gone.f e.gone.z (e.gone.l.map Ev) := rfl;simp (disch := omega) only [Zq, Ax, List.length_map, hel, K8, hel15, Mb, C7, O5, Ao, hp, H9, Gq, go_sem];refine Aa (Q4 e.gone x.id he.1 he.2.2.1) ?_;by_cases h2 : x.id ∈ e.gone.l
     · have hg : De e x = true := by unfold De; simp [h1, h2]
       rw [if_pos hg] at hsn;simp (disch := omega) only [h2, Gq, Ch, go_sem];refine Aa (Afo (l := D0 e s.ents (s.ents.take k)) x.id (Ar e) rfl rfl hsoK (by omega)) ?_;simp (disch := omega) only [go_sem];refine ⟨k + 1, by omega, by omega, Ij 52 rfl (A2 ?_ ?_)⟩
       · simp (disch := omega) only [go_sem]
       · simp (disch := omega) only [Ax, hsn, go_sem]
     · have hg : ¬ De e x = true := by unfold De; simp [h2]
       rw [if_neg hg] at hsn;simp (disch := omega) only [h2, go_sem];refine Au (k + 1) _ _ rfl (by omega) (by omega) ?_ ?_
       · simp (disch := omega) only [go_sem]
       · simp (disch := omega) only [Ax, hsn, go_sem]
   · have hp := Xy h1;have hg : ¬ De e x = true := by unfold De; simp [h1]
     rw [if_neg hg] at hsn;simp (disch := omega) only [Zq, Ax, List.length_map, hel, K8, hel15, Mb, C7, O5, Ao, hp, Gq, go_sem];refine Au (k + 1) _ _ rfl (by omega) (by omega) ?_ ?_
     · simp (disch := omega) only [go_sem]
     · simp (disch := omega) only [Ax, hsn, go_sem]
 obtain rfl : k = s.ents.length := by omega
 have htk : s.ents.take s.ents.length = s.ents := List.take_length;have hsG := J4 (e := e) hs.se s.ents;have hlG := Qg (e := e) (l := s.ents) s.ents;simp (disch := omega) only [Zq, Ax, htk, Az, hk, Ch, Ef, En, C7, go_sem];refine Aa (X4 (l := D0 e s.ents s.ents) e (Ap e) hsG (by omega)) ?_;simp (disch := omega) only [hel, T6, Ch, go_sem];refine Aa (K3 o.last.1 o.last.2 e.rep e.seq) ?_;by_cases hl : C8 o.last.1 o.last.2 e.rep e.seq = true
 · have hmo : Tx e o = { o with last := Ar e, name := e.name } := if_pos hl;have hsp := Ak0 o (Ar e);have hsp2 := Akz { o with last := Ar e } e.name;have hset : ((s.objs.map Av).set i (Av { o with last := Ar e })).set i (Av { o with last := Ar e, name := e.name }) = (K7 s e i o).objs.map Av := by
    unfold K7; rw [List.set_set, List.map_set, hmo]
   have hgd2 : ((s.objs.map Av).set i (Av { o with last := Ar e })).getD i [] = Av { o with last := Ar e } := by
    rw [List.getD_eq_getElem?_getD, List.getElem?_set_self (by simpa using hil)]; rfl
   simp (disch := omega) only [hl, go_sem];refine U7 ?_;simp (disch := omega) only [Ch, En, hgd, hsp, List.length_map, List.length_set, hgd2, hsp2, hset, go_sem];refine ⟨_, Ij 86 rfl (.same _), ?_⟩
   (try simp only [D9, D8, D7, D6, D5, D4, D3, D2]); simp (disch := omega) only [K7, go_sem]
 · have hmo : Tx e o = o := if_neg hl;have hl' : C8 o.last.1 o.last.2 e.rep e.seq = false := by simpa using hl
   have hset : s.objs.map Av = (K7 s e i o).objs.map Av := by
    unfold K7; rw [hmo];show _ = (s.objs.set i o).map Av;rw [Alj ho]
   simp (disch := omega) only [hl', go_sem];refine ⟨_, Ij 86 rfl (.same _), ?_⟩
   (try simp only [D9, D8, D7, D6, D5, D4, D3, D2]); simp (disch := omega) only [K7, go_sem]
   exact congrArg (fun q => some (Blk.row 15 q)) hset
theorem Ac5 {s : St} {e : Evt} {i : Nat} (hs : StOk s) (hk : e.kind = 7) (hd : Kr s.objs (F4 e) ≠ 0) {h d}
 (hg : h 6 = some (.var (Hg s))) (h38 : h 38 = some (.row 15 (s.objs.map Av))) :
 DeepOk Try.prog 67 [.p 6 0, .pr 38 15 i 0, .vec 21 (Bp e)] h d (.pv (.i .i64 (Kr s.objs (F4 e)))) [.new 38 (.row 15 (s.objs.map Av)), .upd 6 (.var (Hg s))] := by
 refine Df Am fn67 (by simp) hg h38 (by decide) rfl (Cy _) fun F => ?_;have a1 := hs.fine.on;simp (disch := omega) only [ir67, Hg, Ax, Dt, Az, hk, Ef, go_sem];refine Aa (K4 (s := s) (F4 e) hs.so (by omega) rfl) ?_;simp (disch := omega) only [hd, go_sem];refine B0 ?_;simp (disch := omega) only [go_sem]
set_option maxHeartbeats 4000000 in
theorem Amf {s : St} {e : Evt} {o : Obj} (hs : StOk s) (he : ev e) (hk : e.kind = 6) (ho : s.objs[Ct s.objs (Ap e)]? = some o) (hid : o.id = Ap e) {h d}
 (hg : h 6 = some (.var (Hg s))) (h38 : h 38 = some (.row 15 (s.objs.map Av))) :
 DeepOk Try.prog 50 [.p 6 0, .vec 21 (Bp e)] h d (.pv (.i .i64 0)) [.new 38 (.row 15 ((Q9 s e (Ct s.objs (Ap e)) o).objs.map Av)), .upd 6 (.var (Hg (Q9 s e (Ct s.objs (Ap e)) o)))] := by
 refine Df Am fn50 (by simp) hg h38 (by decide) rfl (Cy _) fun F => ?_;have n8 : ¬ e.kind = 8 := by omega
 have n9 : ¬ e.kind = 9 := by omega
 have n1 : ¬ e.kind = 1 := by omega
 have n2 : ¬ e.kind = 2 := by omega
 have hi := Wh hs.so ho hid;have hlt := (List.getElem?_eq_some_iff.1 ho).1;have a1 := hs.fine.on;simp (disch := omega) only [ir50, Hg, Ax, Dt, Az, n8, n9, n1, n2, C7, go_sem];refine Aa (K5 (l := s.objs) (Ap e) rfl rfl hs.so (by omega)) ?_;simp (disch := omega) only [hi, List.length_map, hk, Az, B9, go_sem];refine Ga (Ac7 hs he hk ho rfl rfl) ?_;simp (disch := omega) only [Hg, Ax, Dt, go_sem];refine B0 ?_;simp (disch := omega) only [go_sem]
set_option maxHeartbeats 4000000 in
theorem Ame {s : St} {e : Evt} {o : Obj} (hs : StOk s) (he : ev e) (hk : e.kind = 7) (hd : Kr s.objs (F4 e) = 0) (ho : s.objs[Ct s.objs (Ap e)]? = some o) (hid : o.id = Ap e) {h d}
 (hg : h 6 = some (.var (Hg s))) (h38 : h 38 = some (.row 15 (s.objs.map Av))) :
 DeepOk Try.prog 50 [.p 6 0, .vec 21 (Bp e)] h d (.pv (.i .i64 0)) [.new 38 (.row 15 ((K7 s e (Ct s.objs (Ap e)) o).objs.map Av)), .upd 6 (.var (Hg (K7 s e (Ct s.objs (Ap e)) o)))] := by
 refine Df Am fn50 (by simp) hg h38 (by decide) rfl (Cy _) fun F => ?_;have n8 : ¬ e.kind = 8 := by omega
 have n9 : ¬ e.kind = 9 := by omega
 have n1 : ¬ e.kind = 1 := by omega
 have n2 : ¬ e.kind = 2 := by omega
 have hi := Wh hs.so ho hid;have hlt := (List.getElem?_eq_some_iff.1 ho).1;have a1 := hs.fine.on;simp (disch := omega) only [ir50, Hg, Ax, Dt, Az, n8, n9, n1, n2, C7, go_sem];refine Aa (K5 (l := s.objs) (Ap e) rfl rfl hs.so (by omega)) ?_;simp (disch := omega) only [hi, List.length_map, hk, Az, B9, go_sem];refine Ga (Ac6 hs he hk hd ho rfl rfl) ?_;simp (disch := omega) only [Hg, Ax, Dt, go_sem];refine B0 ?_;simp (disch := omega) only [go_sem]
set_option maxHeartbeats 4000000 in
theorem X3 {s : St} {e : Evt} {o : Obj} (hs : StOk s) (hk : e.kind = 7) (hd : Kr s.objs (F4 e) ≠ 0) (ho : s.objs[Ct s.objs (Ap e)]? = some o) (hid : o.id = Ap e) : Xf s e (Kr s.objs (F4 e)) := by
 intro h d hg h38;refine ⟨s.objs.map Av, Hg s, Df Am fn50 (by simp) hg h38 (by decide) rfl (Cy s) fun F => ?_⟩;have n8 : ¬ e.kind = 8 := by omega
 have n9 : ¬ e.kind = 9 := by omega
 have n1 : ¬ e.kind = 1 := by omega
 have n2 : ¬ e.kind = 2 := by omega
 have hi := Wh hs.so ho hid;have hlt := (List.getElem?_eq_some_iff.1 ho).1;have a1 := hs.fine.on;simp (disch := omega) only [ir50, Hg, Ax, Dt, Az, n8, n9, n1, n2, C7, go_sem];refine Aa (K5 (l := s.objs) (Ap e) rfl rfl hs.so (by omega)) ?_;simp (disch := omega) only [hi, List.length_map, hk, Az, B9, go_sem];refine Ga (Ac5 hs hk hd rfl rfl) ?_;simp (disch := omega) only [Hg, Ax, Dt, go_sem];refine B0 ?_;simp (disch := omega) only [go_sem]
end Go.Proofs.Ythmjebkldgdeiaa.Fw
namespace Go.Proofs.Ythmjebkldgdeiaa.Fw
open Go.RowKit Go.Proofs
def G7 (l : List Obj) (i : Bg) : Option Obj := match l[Ct l i]? with
 | some o => if o.id = i then some o else none
 | none => none
theorem Ho {l : List Obj} {i : Bg} {o : Obj} (h : G7 l i = some o) : l[Ct l i]? = some o ∧ o.id = i := by
 unfold G7 at h;split at h
 · rename_i u hu;split at h
   · rename_i hi; cases h; exact ⟨hu, hi⟩
   · cases h
 · cases h
theorem Aia {l : List Obj} (hs : D1 l) (i : Bg) : isO l i = (G7 l i).isSome := by
 rw [Ot hs]; unfold G7;cases l[Ct l i]? with
 | none => rfl
 | some x => simp only; by_cases h : x.id = i <;> simp [h]
open Classical in
noncomputable def Vi (s : St) (e : Evt) : Int :=
 if e.kind = 8 ∨ e.kind = 9 then 0
 else if e.kind = 1 ∨ e.kind = 2 then Kr s.objs (F4 e)
 else match G7 s.objs (Ap e) with
  | none => 2
  | some o => if e.kind = 7 then Kr s.objs (F4 e) else if e.kind = 6 then 0 else if o.dir = true then 23 else if Dw o.vers e.base.l then 2 else 0
def Za (s : St) (e : Evt) : St :=
 if e.kind = 8 then Kx s e
 else if e.kind = 9 then Vm s e
 else if e.kind = 1 ∨ e.kind = 2 then mkS s e
 else match G7 s.objs (Ap e) with
  | none => s
  | some o => if e.kind = 7 then K7 s e (Ct s.objs (Ap e)) o else if e.kind = 6 then Q9 s e (Ct s.objs (Ap e)) o else { s with objs := wrO s e o }
noncomputable def Fu (s : St) (e : Evt) : Int :=
 if Bt e = false then 7
 else if Bn s.known e.rep e.seq = true then 11
 else if ¬ vLe e.dep s.known then 10
 else if s.ret (e.rep - 1).toNat = true then 28
 else Vi s e
def Fi (s : St) (e : Evt) : St := { s with known := Bq s.known e.rep e.seq }
def Fp (s : St) (e : Evt) : St := Za (Fi s e) e
structure StIn (s : St) : Prop extends StOk s where
 sv : ∀ o ∈ s.objs, Cd o.vers
 sd : ∀ o ∈ s.objs, ∀ v ∈ o.vers, v.data.length ≤ 200
 sk : ∀ o ∈ s.objs, ∀ v ∈ o.vers, Bn s.known v.rep v.seq = true
theorem Cr {e : Evt} (h : Bt e = true) : Vf e := by
 unfold Bt at h;simp only [Bool.and_eq_true, decide_eq_true_eq] at h;exact h.1
theorem Ux {e : Evt} (h : Bt e = true) (hk : e.kind = 3 ∨ e.kind = 4 ∨ e.kind = 5) {l : List Ver} (hd : ∀ v ∈ l, v.data.length ≤ 200) : FitsW l e := by
 unfold Bt at h;simp only [Bool.and_eq_true, decide_eq_true_eq] at h;have hK := h.2.2.2;refine ⟨hk, fun h5 => ?_, fun h3 => ?_, hd⟩
 · have : e.kind = 3 ∨ e.kind = 4 := by omega
   rcases this with h3 | h4
   · rw [J0 h3] at hK;simp only [Bool.and_eq_true, Da, decide_eq_true_eq] at hK;exact hK.2.2.1
   · rw [Om h4] at hK;simp only [Bool.and_eq_true, Da, decide_eq_true_eq] at hK;exact hK.2.2
 · rw [J0 h3] at hK;simp only [Bool.and_eq_true, Da, decide_eq_true_eq] at hK;exact hK.2.2.2.2.2.2
theorem Vs {e : Evt} (h : Bt e = true) (hk : e.kind = 3 ∨ e.kind = 4 ∨ e.kind = 5) : e.base.l.length ≤ 8 := by
 unfold Bt at h;simp only [Bool.and_eq_true, decide_eq_true_eq] at h;have hK := h.2.2.2;rcases hk with h3 | h3 | h3
 · rw [J0 h3] at hK;simp only [Bool.and_eq_true, E1, decide_eq_true_eq] at hK;have := hK.2.1.1; omega
 · rw [Om h3] at hK;simp only [Bool.and_eq_true, E1, decide_eq_true_eq] at hK;have := hK.2.1.1; omega
 · rw [Ol h3] at hK;simp only [Bool.and_eq_true, E1, decide_eq_true_eq] at hK;have := hK.2.1.1; omega
structure DoIn (s : St) (e : Evt) : Prop where
 ok : StOk s
 ev : ev e
 ck : Bt e = true
 vo : e.kind = 3 ∨ e.kind = 4 ∨ e.kind = 5 → ∀ o ∈ s.objs, VerOk o e
theorem A4a {s : St} {e : Evt} (hi : DoIn s e) (hw : Vi s e ≠ 0) : Xf s e (Vi s e) := by
 have hb := Cr hi.ck;obtain ⟨b1, b2, b3, b4, b5, b6, b7⟩ := hb;unfold Vi at hw ⊢;rcases Classical.em (e.kind = 8 ∨ e.kind = 9) with h89 | h89
 · rw [if_pos h89] at hw; exact absurd rfl hw
 rw [if_neg h89] at hw ⊢;rcases Classical.em (e.kind = 1 ∨ e.kind = 2) with h12 | h12
 · rw [if_pos h12] at hw ⊢;exact Ahj hi.ok h12 hw
 rw [if_neg h12] at hw ⊢;have hk : e.kind = 3 ∨ e.kind = 4 ∨ e.kind = 5 ∨ e.kind = 6 ∨ e.kind = 7 := by omega
 cases ho : G7 s.objs (Ap e) with
 | none =>
   have : isO s.objs (Ap e) = false := by rw [Aia hi.ok.so, ho]; rfl
   exact Ahh hi.ok hk this
 | some o =>
   rw [ho] at hw;simp only at hw ⊢;obtain ⟨g1, g2⟩ := Ho ho;rcases Classical.em (e.kind = 7) with h7 | h7
   · rw [if_pos h7] at hw ⊢;exact X3 hi.ok h7 hw g1 g2
   rw [if_neg h7] at hw ⊢;rcases Classical.em (e.kind = 6) with h6 | h6
   · rw [if_pos h6] at hw; exact absurd rfl hw
   rw [if_neg h6] at hw ⊢;have hk : e.kind = 3 ∨ e.kind = 4 ∨ e.kind = 5 := by omega
   rcases Classical.em (o.dir = true) with hd | hd
   · rw [if_pos hd]; exact Amb hi.ok hk g1 g2 hd
   rw [if_neg hd] at hw ⊢;rcases Classical.em (Dw o.vers e.base.l) with hm | hm
   · rw [if_pos hm]; exact Ac8 hi.ok hi.ev g1 g2 (by simpa using hd) (hi.vo hk o (List.mem_of_getElem? g1)) hm
   · rw [if_neg hm] at hw; exact absurd rfl hw
theorem A64 {s : St} {e : Evt} (hi : DoIn s e) (hw : Vi s e = 0) (hk : ¬ (e.kind = 8 ∨ e.kind = 9)) : ∃ r, PImpR r ((Za s e).objs.map Av) ∧
 ∀ {h : Nat → Option Blk} {d : Nat}, h 6 = some (.var (Hg s)) → h 38 = some (.row 15 (s.objs.map Av)) → DeepOk Try.prog 50 [.p 6 0, .vec 21 (Bp e)] h d (.pv (.i .i64 0)) [.new 38 (.row 15 r), .upd 6 (.var (Hg (Za s e)))] := by
 have hb := Cr hi.ck;obtain ⟨b1, b2, b3, b4, b5, b6, b7⟩ := hb;have n8 : ¬ e.kind = 8 := fun h => hk (.inl h);have n9 : ¬ e.kind = 9 := fun h => hk (.inr h);unfold Vi at hw;unfold Za;rw [if_neg hk] at hw;rw [if_neg n8, if_neg n9];by_cases h12 : e.kind = 1 ∨ e.kind = 2
 · rw [if_pos h12] at hw ⊢;refine ⟨_, ?_, fun hg h38 => A11 hi.ok h12 hw hg h38⟩;simp only [mkS, List.map_append, List.map_take, List.map_drop, List.map_cons];exact PImpR.app (.refl _) ⟨Ash (Tw e) (.inl rfl), .refl _⟩
 rw [if_neg h12] at hw ⊢;have hk' : e.kind = 3 ∨ e.kind = 4 ∨ e.kind = 5 ∨ e.kind = 6 ∨ e.kind = 7 := by omega
 cases ho : G7 s.objs (Ap e) with
 | none => rw [ho] at hw; cases hw
 | some o =>
   rw [ho] at hw;simp only at hw ⊢;obtain ⟨g1, g2⟩ := Ho ho;by_cases h7 : e.kind = 7
   · rw [if_pos h7] at hw ⊢;exact ⟨_, .refl _, fun hg h38 => Ame hi.ok hi.ev h7 hw g1 g2 hg h38⟩
   rw [if_neg h7] at hw ⊢;by_cases h6 : e.kind = 6
   · rw [if_pos h6];exact ⟨_, .refl _, fun hg h38 => Amf hi.ok hi.ev h6 g1 g2 hg h38⟩
   rw [if_neg h6] at hw ⊢;have hk : e.kind = 3 ∨ e.kind = 4 ∨ e.kind = 5 := by omega
   by_cases hd : o.dir = true
   · rw [if_pos hd] at hw; cases hw
   rw [if_neg hd] at hw;by_cases hm : Dw o.vers e.base.l
   · rw [if_pos hm] at hw; cases hw
   · exact ⟨_, .refl _, fun hg h38 => A10 hi.ok hi.ev g1 g2 (by simpa using hd) (hi.vo hk o (List.mem_of_getElem? g1)) hm hg h38⟩
theorem Aou {s : St} (hs : StIn s) {e : Evt} (h : Bn s.known e.rep e.seq = false) {o : Obj} (ho : o ∈ s.objs) : Co o.vers e.rep e.seq = none := by
 rw [Ni];intro v hv ⟨h1, h2⟩;have := hs.sk o ho v hv;rw [h1, h2, h] at this; cases this
theorem Ah5 {s : St} (hs : StIn s) {e : Evt} (he : ev e) (hc : Bt e = true) (h : Bn s.known e.rep e.seq = false) : DoIn (Fi s e) e :=
 ⟨⟨⟨hs.fine.on, hs.fine.ov, hs.fine.en⟩, hs.so, hs.se⟩, he, hc, fun hk o ho => ⟨hs.sv o ho, Ux hc hk (hs.sd o ho), Aou hs h ho, Nat.le_trans (Vs hc hk) (by omega)⟩⟩
theorem As5 (a b : PV) (w : Nat → Int) (r : Nat → Bool) {j : Nat} (hj : j < 8) (K : KK) : LoadK (some (a :: b :: (iE w ++ wE r))) (18 + j - 8) 1 false K = K (.pv (.b (r j))) [] := by
 have e : 18 + j - 8 = 10 + j := by omega
 rw [e];simp only [LoadK, Gr, eq_iff_iff];have e2 : (a :: b :: (iE w ++ wE r)).getD (10 + j) (.b false) = .b (r j) := by
  have hk2 : j = 0 ∨ j = 1 ∨ j = 2 ∨ j = 3 ∨ j = 4 ∨ j = 5 ∨ j = 6 ∨ j = 7 := by omega
  simp only [iE, wE, Cb];rcases hk2 with rfl | rfl | rfl | rfl | rfl | rfl | rfl | rfl <;> rfl
 rw [e2];exact ⟨fun h => h.2.2, fun h => ⟨by simp [Md, Pl]; omega, .inr trivial, h⟩⟩
theorem Ae1 {x y z : SV} (h : Imp x y) : Imp (.tup [x, z]) (.tup [y, z]) := Atp ⟨h, Imp.refl _, trivial⟩
noncomputable def Ag9 (s : St) (e : Evt) : St := if Fu s e = 0 then Fp s e else st0
theorem N6 {s : St} {e : Evt} {n : Int} (h : Fu s e = n) (hn : n ≠ 0) : Imp (.tup [.agg [.vec 8 (vE fun _ => 0), .pv (.sl true 0 []), .pv (.sl true 0 []), .vec 8 (iE fun _ => 0), .vec 8 (wE fun _ => false)], .pv (.i .i64 n)]) (.tup [.agg (A8 (Ag9 s e)), .pv (.i .i64 (Fu s e))]) := by
 have e1 : Ag9 s e = st0 := if_neg (by rw [h]; exact hn);rw [e1, h];exact Ae1 Te
set_option maxHeartbeats 8000000 in
theorem Asf {s : St} {e : Evt} (hs : StIn s) (he : ev e) {h d} : FunOk Try.prog 29 [.agg (A8 s), .vec 21 (Bp e)] h d (.tup [.agg (A8 (Ag9 s e)), .pv (.i .i64 (Fu s e))]) [] := by
 refine Ais Am fn29 (by simp) rfl rfl fun F => ?_;simp (disch := omega) only [ir29, A8, Ax, B9, go_sem];refine Aa (Ase e he) ?_;by_cases hc' : Bt e = false
 · have hw : Fu s e = 7 := if_pos hc';simp (disch := omega) only [hc', go_sem];refine B0 ?_;simp (disch := omega) only [go_sem];exact N6 hw (by decide)
 have hc : Bt e = true := by simpa using hc'
 have hb := Cr hc;obtain ⟨b1, b2, _⟩ := hb;simp (disch := omega) only [hc, Ch, I5, go_sem];refine Aa (E6 _ _ _) ?_;by_cases h1 : Bn s.known e.rep e.seq = true
 · have hw : Fu s e = 11 := by unfold Fu; rw [if_neg hc', if_pos h1]
   simp (disch := omega) only [h1, go_sem];refine B0 ?_;simp (disch := omega) only [go_sem];exact N6 hw (by decide)
 have h1' : Bn s.known e.rep e.seq = false := by simpa using h1
 simp (disch := omega) only [h1', I5, go_sem];refine Aa (Afn _ _) ?_;by_cases h2 : vLe e.dep s.known;rotate_left
 · have hw : Fu s e = 10 := by unfold Fu; rw [if_neg hc', if_neg h1, if_pos h2]
   have h2' := decide_eq_false h2;simp (disch := omega) only [h2', go_sem];refine B0 ?_;simp (disch := omega) only [go_sem];exact N6 hw (by decide)
 have h2' := decide_eq_true h2;obtain ⟨k, hk8, hre⟩ : ∃ k : Nat, k < 8 ∧ e.rep - 1 = k := ⟨(e.rep - 1).toNat, by omega, by omega⟩
 have hld := fun (a b : PV) (w : Nat → Int) (r : Nat → Bool) (K : KK) => As5 a b w r hk8 K;simp (disch := omega) only [h2', G2, hre, hld, go_sem];by_cases h3 : s.ret k = true
 · have hw : Fu s e = 28 := by unfold Fu; rw [if_neg hc', if_neg h1, if_neg (by simpa using h2), if_pos (by rw [hre]; exact h3)]
   simp (disch := omega) only [h3, go_sem];refine B0 ?_;simp (disch := omega) only [go_sem];exact N6 hw (by decide)
 have h3' : s.ret k = false := by simpa using h3
 have hw : Fu s e = Vi (Fi s e) e := by unfold Fu; rw [if_neg hc', if_neg h1, if_neg (by simpa using h2), if_neg (by rw [hre]; exact h3)]; rfl
 simp (disch := omega) only [h3', go_sem];refine Aa (Amh (s := s) hs.fine) ?_;simp (disch := omega) only [Ax, Dt, Ch, go_sem];refine Aa (X1 s.known e.rep e.seq) ?_;have hvl := Bw (Bq s.known e.rep e.seq);simp (disch := omega) only [B9, hvl, go_sem];have hdi := Ah5 hs he hc h1';by_cases hz : Vi (Fi s e) e = 0;rotate_left
 · generalize hH : FS.h _ = H;have g6 : H 6 = some (.var (Hg (Fi s e))) := by rw [← hH]; rfl
   have g38 : H 38 = some (.row 15 ((Fi s e).objs.map Av)) := by rw [← hH]; rfl
   obtain ⟨r, X, hdo⟩ := A4a hdi hz H 46 g6 g38;refine Ga hdo ?_;simp (disch := omega) only [hz, go_sem];refine B0 ?_;simp (disch := omega) only [go_sem];exact N6 hw hz
 have hR : Ag9 s e = Za (Fi s e) e := if_pos (hw.trans hz);rw [hR, hw, hz];by_cases h8 : e.kind = 8
 · have hS : Za (Fi s e) e = Kx (Fi s e) e := if_pos h8;rw [hS];refine Ga (Amc (s := Fi s e) h8 ⟨b1, b2⟩ rfl rfl) ?_;simp (disch := omega) only [A8, Ax, go_sem];refine B0 ?_;simp (disch := omega) only [go_sem]
 by_cases h9 : e.kind = 9
 · have hS : Za (Fi s e) e = Vm (Fi s e) e := by unfold Za; rw [if_neg h8, if_pos h9]
   rw [hS];refine Ga (Asc (s := Fi s e) h9 ⟨b1, b2⟩ rfl rfl) ?_;simp (disch := omega) only [A8, Ax, go_sem];refine B0 ?_;simp (disch := omega) only [go_sem]
 obtain ⟨r, hr, hdo⟩ := A64 hdi hz (fun h => h.elim h8 h9);refine Ga (hdo rfl rfl) ?_;generalize Za (Fi s e) e = S at *;simp (disch := omega) only [Hg, Ax, Dt, go_sem];refine ⟨_, Ij 38 rfl (.same _), ?_⟩
 (try simp only [D9, D8, D7, D6, D5, D4, D3, D2]); simp (disch := omega) only [go_sem]
 exact Ae1 (Afb (s := S) (.inr rfl) (.inr rfl) hr (.refl _))
end Go.Proofs.Ythmjebkldgdeiaa.Fw
namespace Go.Proofs.Ythmjebkldgdeiaa.Fw
open Go.RowKit Go.Proofs
def C2 (l : List Evt) : Vc := l.foldl (fun v e => Bq v e.rep e.seq) (fun _ => 0)
theorem K9 (l : List Evt) (e : Evt) : C2 (l ++ [e]) = Bq (C2 l) e.rep e.seq := by simp [C2]
def Uk (l : List Evt) (i : Bg) : Option Evt := l.find? fun e => decide (Ar e = i)
def Azm (s : List UInt8) (n : Int) : List UInt8 := if n < 0 ∨ 200 < n then [] else Ru s n.toNat
open Classical in
noncomputable def Ac2 (s : List UInt8) (n : Int) (t : List UInt8) : List UInt8 := if Ey s n t then [] else Jt s n.toNat t
noncomputable def Qy (e : Evt) (was : List UInt8) : List UInt8 := if e.kind = 5 then e.data else if e.kind = 4 then Azm was e.off else Ac2 was e.off e.data
noncomputable def Gb (l : List Evt) : Nat → Bg → List UInt8
 | 0, _ => []
 | n + 1, i => match Uk l i with
   | none => []
   | some e => Qy e (match e.base.l with | [] => [] | b :: _ => Gb l n b)
theorem Apf (s : List UInt8) (n : Nat) : (Ru s n).length = n := by
 unfold Ru; split
 · simp; omega
 · simp [Ab0]; omega
theorem Ac3 (s t : List UInt8) (n : Nat) : (Jt s n t).length = max s.length (n + t.length) := by
 unfold Jt; simp [Ab0]; omega
def Grd (l : List Evt) (rk : Evt → Nat) : Prop := ∀ e ∈ l, e.kind ≠ 5 → ∀ b t, e.base.l = b :: t → ∀ e', Uk l b = some e' → rk e' < rk e
def mkB (e : Evt) : Bool := decide (e.kind = 1 ∨ e.kind = 2 ∨ e.kind = 7)
def Vo (e : Evt) : Bg := if e.kind = 7 then Ap e else Ar e
def goF (f : Evt) (obj id : Bg) : Bool := decide (f.kind = 6 ∨ f.kind = 7) && (decide (Ap f = obj) && decide (id ∈ f.gone.l))
def byG (l : List Evt) (obj id : Bg) : Vc := l.foldl (fun g f => if goF f obj id = true then Bq g f.rep f.seq else g) fun _ => 0
theorem Apq (l : List Evt) (f : Evt) (obj id : Bg) : byG (l ++ [f]) obj id = if goF f obj id = true then Bq (byG l obj id) f.rep f.seq else byG l obj id := by simp [byG]
def G3 (m : List Evt) (e : Evt) : Ent := ⟨Ar e, F4 e, e.name, Vo e, byG m (Vo e) (Ar e)⟩
def Cw (l m : List Evt) : List Ent := m.foldl (fun out e => if mkB e = true then Fg out (G3 l e) false else out) []
theorem Uo (l m : List Evt) (e : Evt) : Cw l (m ++ [e]) = if mkB e = true then Fg (Cw l m) (G3 l e) false else Cw l m := by simp [Cw]
theorem Pv : ∀ (l : List Ent) (x : Ent) (b : Bool), (Fg l x b).length ≤ l.length + 1
 | [], x, b => by unfold Fg; split <;> simp
 | y :: l, x, b => by
   unfold Fg;split
   · have := Pv l x true; simp only [List.length_cons]; omega
   · split
     · have : Fg l x true = Fg l x true := rfl;have h2 : ∀ l : List Ent, (Fg l x true).length ≤ l.length := fun l => by
        induction l with
        | nil => simp [Fg]
        | cons z l ih => unfold Fg; split <;> simp <;> omega
       have := h2 l;simp only [List.length_cons]; omega
     · have := Pv l x b; simp only [List.length_cons]; omega
theorem Wt (l : List Evt) : ∀ (n : Nat) (m : List Evt), m.length = n → (Cw l m).length ≤ n
 | 0, m, h => by obtain rfl := List.eq_nil_of_length_eq_zero h; simp [Cw]
 | n + 1, m, h => by
   have hne : m ≠ [] := fun e => by subst e; simp at h
   have e1 := (List.dropLast_concat_getLast hne).symm;have h1 := Wt l n m.dropLast (by simp [h]);rw [e1, Uo];split
   · have := Pv (Cw l m.dropLast) (G3 l (m.getLast hne)) false; omega
   · omega
def Vg (e : Evt) : Bool := decide (e.kind = 3 ∨ e.kind = 4 ∨ e.kind = 5)
def gvF (g : Evt) (obj id : Bg) : Bool := Vg g && (decide (Ap g = obj) && decide (id ∈ g.base.l))
def gvG (l : List Evt) (obj id : Bg) : Vc := l.foldl (fun a g => if gvF g obj id = true then Bq a g.rep g.seq else a) fun _ => 0
theorem An7 (l : List Evt) (g : Evt) (obj id : Bg) : gvG (l ++ [g]) obj id = if gvF g obj id = true then Bq (gvG l obj id) g.rep g.seq else gvG l obj id := by simp [gvG]
noncomputable def Iv (l m : List Evt) (e : Evt) : Ver := ⟨e.rep, e.seq, Gb l l.length (Ar e), gvG m (Ap e) (Ar e)⟩
noncomputable def Cn (l : List Evt) (obj : Bg) (m : List Evt) : List Ver := m.foldl (fun out e => if Vg e = true ∧ Ap e = obj then Fe out [] (Iv l l e) else out) []
theorem Su (l : List Evt) (obj : Bg) (m : List Evt) (e : Evt) : Cn l obj (m ++ [e]) = if Vg e = true ∧ Ap e = obj then Fe (Cn l obj m) [] (Iv l l e) else Cn l obj m := by simp [Cn]
theorem Ahv {l : List Ver} {v x : Ver} : x ∈ Fe l [] v ↔ x = v ∨ x ∈ l := by
 unfold Fe; rw [L9];simp only [List.mem_append, List.mem_cons];have : x ∈ l ↔ x ∈ l.take (Pb l v.rep v.seq 0).1 ∨ x ∈ l.drop (Pb l v.rep v.seq 0).1 := by
  rw [← List.mem_append, List.take_append_drop]
 rw [this];constructor
 · rintro (h | h | h)
   · exact .inr (.inl h)
   · exact .inl h
   · exact .inr (.inr h)
 · rintro (h | h | h)
   · exact .inr (.inl h)
   · exact .inl h
   · exact .inr (.inr h)
theorem Aj1 (l : List Ver) (v : Ver) : (Fe l [] v).length = l.length + 1 := by
 unfold Fe; rw [L9];simp only [List.length_append, List.length_take, List.length_cons, List.length_drop]; omega
theorem Y7 {l : List Ver} {v : Ver} (hs : Cd l) (hn : Co l v.rep v.seq = none) : Cd (Fe l [] v) := by
 unfold Fe; rw [L9];have hfalse : Pb l v.rep v.seq 0 = ((Pb l v.rep v.seq 0).1, false) := by
  rcases h : Pb l v.rep v.seq 0 with ⟨i, b⟩
  cases b with
  | false => rfl
  | true =>
    obtain ⟨_, u, _, _, h4⟩ := Hu h;rw [hn] at h4; cases h4
 obtain ⟨_, _, _, _, h5, h6⟩ := Hi hs hfalse;generalize (Pb l v.rep v.seq 0).1 = p at *;simp only [Nat.sub_zero] at h5 h6;refine List.pairwise_append.2 ⟨hs.sublist (List.take_sublist _ _), List.pairwise_cons.2 ⟨fun u hu => h6 u hu, hs.sublist (List.drop_sublist _ _)⟩, fun a ha b hb => ?_⟩;rcases List.mem_cons.1 hb with rfl | hb
 · exact h5 a ha
 · have := h5 a ha;exact Nf this (h6 b hb)
theorem Lw {l : List Evt} {obj : Bg} {v : Ver} : ∀ (n : Nat) (m : List Evt), m.length = n → (v ∈ Cn l obj m ↔ ∃ e ∈ m, (Vg e = true ∧ Ap e = obj) ∧ v = Iv l l e)
 | 0, m, h => by obtain rfl := List.eq_nil_of_length_eq_zero h; simp [Cn]
 | n + 1, m, h => by
   have hne : m ≠ [] := fun e => by subst e; simp at h
   have e1 := (List.dropLast_concat_getLast hne).symm;have ih := Lw (l := l) (obj := obj) (v := v) n m.dropLast (by simp [h]);rw [e1, Su];generalize m.getLast hne = e at *;generalize m.dropLast = m' at *;split
   · rename_i hc;rw [Ahv, ih];constructor
     · rintro (rfl | ⟨f, h1, h2⟩)
       · exact ⟨e, by simp, hc, rfl⟩
       · exact ⟨f, by simp [h1], h2⟩
     · rintro ⟨f, h1, h2, h3⟩;rcases List.mem_append.1 h1 with h1 | h1
       · exact .inr ⟨f, h1, h2, h3⟩
       · rw [List.mem_singleton] at h1; subst h1; exact .inl h3
   · rename_i hc;rw [ih];constructor
     · rintro ⟨f, h1, h2⟩; exact ⟨f, by simp [h1], h2⟩
     · rintro ⟨f, h1, h2, h3⟩;rcases List.mem_append.1 h1 with h1 | h1
       · exact ⟨f, h1, h2, h3⟩
       · rw [List.mem_singleton] at h1; subst h1; exact absurd h2 hc
def NodE (l : List Evt) : Prop := (l.map Ar).Nodup
theorem Agk {l m : List Evt} {obj : Bg} {e : Evt} (hn : NodE (m ++ [e])) : Co (Cn l obj m) e.rep e.seq = none := by
 rw [Ni];intro v hv ⟨h1, h2⟩;obtain ⟨f, hf, _, rfl⟩ := (Lw m.length m rfl).1 hv;have : Ar f = Ar e := Prod.ext h1 h2;unfold NodE at hn;rw [List.map_append, List.nodup_append] at hn;exact hn.2.2 (Ar f) (List.mem_map_of_mem hf) (Ar e) (by simp) this
theorem NodE.take {l : List Evt} (h : NodE l) (k : Nat) : NodE (l.take k) := by
 unfold NodE at *; rw [List.map_take]; exact h.sublist (List.take_sublist _ _)
theorem Jh {l : List Evt} {obj : Bg} : ∀ (n : Nat) (m : List Evt), m.length = n → NodE m → Cd (Cn l obj m) ∧ (Cn l obj m).length ≤ n
 | 0, m, h, _ => by obtain rfl := List.eq_nil_of_length_eq_zero h; exact ⟨List.Pairwise.nil, by simp [Cn]⟩
 | n + 1, m, h, hn => by
   have hne : m ≠ [] := fun e => by subst e; simp at h
   have e1 := (List.dropLast_concat_getLast hne).symm;have hn' : NodE m.dropLast := by unfold NodE at *; rw [List.map_dropLast]; exact hn.sublist (List.dropLast_sublist _)
   obtain ⟨h1, h2⟩ := Jh (l := l) (obj := obj) n m.dropLast (by simp [h]) hn';rw [e1] at hn ⊢;rw [Su];split
   · exact ⟨Y7 h1 (Agk hn), by rw [Aj1]; omega⟩
   · exact ⟨h1, by omega⟩
end Go.Proofs.Ythmjebkldgdeiaa.Fw
