/- What the functions compute that the laws of this seat Zj. -/
import Derived.Test.YtannaphhhkncoaaGreatIr
import Derived.OpenShut
import Derived.ShutString
import Derived.ChangeOld
import Derived.SizedLaws
import Derived.ChangeOld
import Derived.Lib.Bytealg
import Derived.Lib.Overlaps
import Derived.OpenShut
import Derived.RecoverIn
import Derived.ShutString
import Derived.SizedLaws
set_option linter.unusedVariables false
set_option linter.unusedSimpArgs false
set_option linter.unusedSectionVars false
set_option maxRecDepth 100000
namespace Go.Proofs.YtannaphhhkncoaaGreat.Fw
open Go.RowKit Go.Proofs
def Ei (a b : Vc) : Vc := fun i => max (a i) (b i)
def vLe (a b : Vc) : Prop := ∀ i, i < 8 → a i ≤ b i
instance (a b : Vc) : Decidable (vLe a b) := inferInstanceAs (Decidable (∀ i, i < 8 → a i ≤ b i))
def Awh (a b : Vc) : Int := if vEq a b then 0 else if vLe a b then -1 else if vLe b a then 1 else 2
theorem Aj3 (a b : Vc) : Awh a b ≤ 0 ↔ vLe a b := by
 unfold Awh;by_cases h : vEq a b
 · have : vLe a b := fun i hi => by rw [h i hi]; exact Nat.le_refl _
   simp [h, this]
 · by_cases h2 : vLe a b
   · simp [h, h2]
   · by_cases h3 : vLe b a <;> simp [h, h2, h3]
def I2 (a b : Vc) (k : Nat) : Prop := ¬ ∀ i, i < k → ¬ a i < b i
instance (a b : Vc) (k : Nat) : Decidable (I2 a b k) := inferInstanceAs (Decidable (¬ ∀ i, i < k → ¬ a i < b i))
theorem Wb (a b : Vc) (k : Nat) : I2 a b k ↔ ∃ i, i < k ∧ a i < b i := by unfold I2; simp
def Aa2 (a b : Vc) (k : Nat) : FS := mk [(7, .pv (.i .i64 k)), (5, .pv (.b (decide (I2 a b k)))), (6, .pv (.b (decide (I2 b a k)))), (2, .p 2 0), (3, .p 3 0)] [(2, some (.var (.vec 8 (vE a)))), (3, some (.var (.vec 8 (vE b))))]
theorem Ady (a b : Vc) (k : Nat) : I2 a b (k + 1) ↔ I2 a b k ∨ a k < b k := by
 simp only [Wb];constructor
 · rintro ⟨i, h1, h2⟩;by_cases e : i = k
   · subst e; exact .inr h2
   · exact .inl ⟨i, by omega, h2⟩
 · rintro (⟨i, h1, h2⟩ | h)
   · exact ⟨i, by omega, h2⟩
   · exact ⟨k, by omega, h⟩
theorem Aqm (a b : Vc) : I2 a b 8 ↔ ¬ vLe b a := by
 rw [Wb];constructor
 · rintro ⟨i, h1, h2⟩ h; have := h i h1; omega
 · intro h;refine Decidable.byContradiction fun hn => h fun i hi => ?_;refine Nat.le_of_not_lt fun hl => hn ⟨i, hi, hl⟩
theorem Awi (a b : Vc) : vEq a b ↔ vLe a b ∧ vLe b a :=
 ⟨fun h => ⟨fun i hi => by rw [h i hi]; exact Nat.le_refl _, fun i hi => by rw [h i hi]; exact Nat.le_refl _⟩, fun h i hi => Nat.le_antisymm (h.1 i hi) (h.2 i hi)⟩
theorem Afh {a b : Bool} (h : a = b) : Imp (.pv (.b a)) (.pv (.b b)) := h ▸ Imp.refl _
set_option maxHeartbeats 1000000 in
theorem Arz (a b : Vc) {h d} : FunOk Tryz.prog 93 [.vec 8 (vE a), .vec 8 (vE b)] h d (.pv (.i .i64 (Awh a b))) [] := by
 refine A7 Aq fn93 (by simp) rfl rfl fun F => ?_;simp (disch := omega) only [ir93, go_sem];refine A1 Aq (Aa2 a b) (fun k => k ≤ 8) (fun k => 8 - k) 0 (by simp) (An ?_ ?_) fun k hk => ?_
 · simp (disch := omega) only [go_sem];have e : ∀ x y : Vc, ¬ I2 x y 0 := fun x y => by rw [Wb]; rintro ⟨i, h, _⟩; omega
   refine ⟨Afh ?_, Afh ?_⟩ <;> simp [e]
 · simp (disch := omega) only [go_sem]
 by_cases hlt : k < 8
 · by_cases h1 : I2 a b k <;> by_cases h2 : I2 b a k
   all_goals simp (disch := omega) only [Aa2, h1, h2, go_sem]
   all_goals refine Al (k + 1) _ _ rfl (by omega) (by omega) ?_ ?_
   all_goals simp (disch := omega) only [go_sem]
   all_goals try refine ⟨Afh ?_, Afh ?_⟩
   all_goals try refine Afh ?_
   all_goals simp [Ady, h1, h2]
 · obtain rfl : k = 8 := by omega
   by_cases h1 : vLe a b <;> by_cases h2 : vLe b a
   all_goals simp (disch := omega) only [Aa2, Aqm, h1, h2, go_sem]
   all_goals simp [Awh, Awi, h1, h2]
theorem A38 (a b : Vc) {h d} : FunOk Tryz.prog 53 [.vec 8 (vE a), .vec 8 (vE b)] h d (.pv (.b (decide (vLe a b)))) [] := by
 refine A7 Aq fn53 (by simp) rfl rfl fun F => ?_;simp (disch := omega) only [ir53, go_sem];refine Aa (Arz a b) ?_;simp (disch := omega) only [go_sem];by_cases h1 : vLe a b
 · simp [Aj3, h1]
 · simp [Aj3, h1]
end Go.Proofs.YtannaphhhkncoaaGreat.Fw
namespace Go.Proofs.YtannaphhhkncoaaGreat.Fw
open Go.RowKit
noncomputable abbrev M4 (w : World) : View := Az w fun _ => False
theorem Aad {w : World} {a : Addr} {v : Value} (h : w.cell? a = some v) : a.spot = none ∧ ∃ arr, M4 w a.block = some arr ∧ arr[a.off]? = some v := by
 unfold World.cell? at h;split at h
 · rename_i c ty fr hb;split at h
   · cases h
   · rename_i hs;refine ⟨by cases hx : a.spot <;> simp_all, c, ?_, h⟩;unfold M4 Az Dd;simp [hb]
 · cases h
inductive Sh where
 | int (k : IntKind) | bool | str | arr (n : Nat) (s : Sh) | st (l : List Sh) | sl (s : Sh)
mutual
def Sh.w : Sh → Nat
 | .arr n s => n * s.w
 | .st l => Sh.wL l
 | _ => 1
def Sh.wL : List Sh → Nat
 | [] => 0
 | s :: l => s.w + Sh.wL l
end
mutual
def shB (P : Program) : Sh → TypeId → Bool
 | .int k, t => match P.underlying t with | some (.int k') => decide (k = k') | _ => false
 | .bool, t => match P.underlying t with | some .bool => true | _ => false
 | .str, t => match P.underlying t with | some .string => true | _ => false
 | .arr n s, t => match P.underlying t with | some (.array n' e) => decide (n = n') && decide (P.cellsOf e = s.w) && decide (P.cellsOf t = n * s.w) && shB P s e | _ => false
 | .st l, t => match P.underlying t with | some (.struct fs) => decide (P.cellsOf t = Sh.wL l) && Aqy P l fs.toList 0 | _ => false
 | .sl s, t => match P.underlying t with | some (.slice e) => decide (P.cellsOf e = s.w) && decide (0 < s.w) && shB P s e | _ => false
def Aqy (P : Program) : List Sh → List Field → Nat → Bool
 | [], [], _ => true
 | s :: l, f :: fs, off => decide (f.offset = off) && decide (P.cellsOf f.type = s.w) && shB P s f.type && Aqy P l fs (off + s.w)
 | _, _, _ => false
end
mutual
def GC : Sh → List PV → Prop
 | .int k, cs => ∃ n, cs = [.i k n] ∧ (Lit.int k n).wf = true
 | .bool, cs => ∃ b, cs = [.b b]
 | .str, cs => ∃ l, cs = [.s l] ∧ l.length ≤ maxLen
 | .arr n s, cs => ∃ cc : List (List PV), cs = cc.flatten ∧ cc.length = n ∧ ∀ c ∈ cc, GC s c
 | .st l, cs => GCL l cs
 | .sl s, cs => ∃ es, cs = [.sl false s.w es] ∧ es.length ≤ maxLen ∧ ∀ c ∈ es, GC s c
def GCL : List Sh → List PV → Prop
 | [], cs => cs = []
 | s :: l, cs => ∃ c cs', cs = c ++ cs' ∧ GC s c ∧ GCL l cs'
end
theorem Afv {w : Nat} : ∀ {cc : List (List PV)}, (∀ c ∈ cc, c.length = w) → cc.flatten.length = cc.length * w
 | [], _ => by simp
 | c :: cc, h => by
   rw [List.flatten_cons, List.length_append, Afv fun c hc => h c (by simp [hc]), h c (by simp), List.length_cons, Nat.add_mul]; omega
mutual
theorem GC.len : ∀ {s : Sh} {cs : List PV}, GC s cs → cs.length = s.w
 | .int k, cs, h => by obtain ⟨n, rfl, _⟩ := h; rfl
 | .bool, cs, h => by obtain ⟨n, rfl⟩ := h; rfl
 | .str, cs, h => by obtain ⟨n, rfl, _⟩ := h; rfl
 | .arr n s, cs, h => by
   simp only [GC] at h;obtain ⟨cc, rfl, rfl, h⟩ := h;rw [Afv fun c hc => GC.len (h c hc)]; rfl
 | .st l, cs, h => by simp only [GC] at h; simp only [Sh.w]; exact GCL.len h
 | .sl s, cs, h => by obtain ⟨n, rfl, _⟩ := h; rfl
theorem GCL.len : ∀ {l : List Sh} {cs : List PV}, GCL l cs → cs.length = Sh.wL l
 | [], cs, h => by simp only [GCL] at h; subst h; rfl
 | s :: l, cs, h => by
   simp only [GCL] at h;obtain ⟨c, cs', rfl, h1, h2⟩ := h;rw [List.length_append, GC.len h1, GCL.len h2]; rfl
end
theorem Au9 {V : View} {s : Sh} : ∀ (n : Nat) (vs : List Value), vs.length = n * s.w → (∀ i, i < n → ∃ c, GC s c ∧ PCells V c ((vs.drop (i * s.w)).take s.w)) → ∃ cc : List (List PV), cc.length = n ∧ (∀ c ∈ cc, GC s c) ∧ PCells V cc.flatten vs
 | 0, vs, hl, h => by
   have : vs = [] := List.eq_nil_of_length_eq_zero (by omega);subst this;exact ⟨[], rfl, by simp, PCells.nil⟩
 | n + 1, vs, hl, h => by
   rw [Nat.add_mul] at hl;obtain ⟨c, g, p⟩ := h 0 (by omega);rw [Nat.zero_mul, List.drop_zero] at p;obtain ⟨cc, e1, e2, e3⟩ := Au9 (V := V) (s := s) n (vs.drop s.w) (by rw [List.length_drop]; omega) fun i hi => by
    obtain ⟨c', g', p'⟩ := h (i + 1) (by omega);refine ⟨c', g', ?_⟩;rw [List.drop_drop, show s.w + i * s.w = (i + 1) * s.w from by rw [Nat.add_mul]; omega];exact p'
   refine ⟨c :: cc, by simp [e1], fun x hx => ?_, ?_⟩
   · rcases List.mem_cons.1 hx with rfl | hx
     · exact g
     · exact e2 x hx
   · rw [List.flatten_cons];have := PCells.append p e3
     rwa [List.take_append_drop] at this
theorem A08 {a : Addr} (h : a.spot = none) (i j : Nat) : (a.add i).add j = ⟨a.block, a.off + (i + j), none⟩ := by
 obtain ⟨b, o, sp⟩ := a;simp only at h; subst h;unfold Addr.add;by_cases hi : i = 0
 · subst hi;by_cases hj : j = 0
   · subst hj; simp
   · simp [hj]
 · by_cases hj : j = 0
   · subst hj; simp [hi]
   · simp [hi, hj]; omega
theorem Aqq {w : World} {s : Sh} {a : Addr} {len cap : Nat} (hcap : len ≤ cap) (hw : 0 < s.w)
 (h : ∀ i, i < len → ∃ c vs, GC s c ∧ PCells (M4 w) c vs ∧ w.cells? 0 (a.add (i * s.w)) s.w = some vs) :
 ∃ es : List (List PV), es.length = len ∧ (∀ c ∈ es, GC s c) ∧ PConc (M4 w) (.sl false s.w es) (.slice (some a) len cap) := by
 by_cases h0 : len = 0
 · subst h0;exact ⟨[], rfl, by simp, .sl false s.w [] (some a) cap (fun _ _ => undef) 0 0 #[] (by simp) (by simp) (by simp) (by simp) (by simp) (by simp)⟩
 · have h' : ∀ i, ∃ c vs, i < len → GC s c ∧ PCells (M4 w) c vs ∧ w.cells? 0 (a.add (i * s.w)) s.w = some vs := fun i => by
    by_cases hi : i < len
    · obtain ⟨c, vs, h1⟩ := h i hi; exact ⟨c, vs, fun _ => h1⟩
    · exact ⟨[], [], fun h => absurd h hi⟩
   obtain ⟨c, hc⟩ := Classical.axiomOfChoice h';obtain ⟨vs, hv⟩ := Classical.axiomOfChoice hc;obtain ⟨g0, p0, k0⟩ := hv 0 (by omega);obtain ⟨_, l0, c0⟩ := World.cells?_some k0;have c00 := c0 0 hw;have hlen0 : 0 < (vs 0).length := by omega
   rw [List.getElem?_eq_getElem hlen0, Nat.zero_mul] at c00;have e0 : (a.add 0).add 0 = a := by simp [Addr.add]
   rw [e0] at c00;obtain ⟨hs, arr, harr, _⟩ := Aad c00;have hget : ∀ i j, i < len → j < s.w → arr[a.off + (i * s.w + j)]? = (vs i)[j]? := fun i j hi hj => by
    obtain ⟨_, _, k⟩ := hv i hi;obtain ⟨_, ll, cc⟩ := World.cells?_some k;have h1 := cc j hj;have hlt : j < (vs i).length := by omega
    rw [List.getElem?_eq_getElem hlt, A08 hs] at h1;obtain ⟨_, arr', ha', h2⟩ := Aad h1;simp only at ha' h2;rw [harr] at ha'; cases ha';rw [h2, List.getElem?_eq_getElem hlt]
   have hel : ∀ i, i < len → ((List.range len).map c)[i]? = some (c i) := fun i hi => by simp [hi]
   refine ⟨(List.range len).map c, by simp, fun x hx => ?_, ?_⟩
   · obtain ⟨i, hi, rfl⟩ := List.mem_map.1 hx;exact (hv i (by simpa using hi)).1
   · have e := PConc.sl (V := M4 w) false s.w ((List.range len).map c) (some a) cap (fun i j => (vs i).getD j undef) a.block a.off arr (by simpa using hcap) (by simp) (fun x hx => by
      obtain ⟨i, hi, rfl⟩ := List.mem_map.1 hx;exact (hv i (by simpa using hi)).1.len) (fun _ => by
      obtain ⟨b, o, sp⟩ := a;simp only at hs; subst hs;exact ⟨rfl, harr⟩) (fun i j hi hj => by
      have hi' : i < len := by simpa using hi
      rw [hget i j hi' hj];have : j < (vs i).length := by
       obtain ⟨_, ll, _⟩ := World.cells?_some (hv i hi').2.2; omega
      simp [List.getD_eq_getElem?_getD, this]) (fun i j x y hx hy => by
      have hi' : i < len := by
       have := (List.getElem?_eq_some_iff.1 hx).1; simpa using this
      rw [hel i hi'] at hx; cases hx;obtain ⟨v, hv1, hv2⟩ := (hv i hi').2.1.2 j y hy;simp only [List.getD_eq_getElem?_getD, hv1, Option.getD_some]; exact hv2)
     simpa using e
section
variable {H : Type} {enc : TypeId × Value → H} {P : Program} {w : World} {spare : Nat → Bool} {held : Bool}
mutual
theorem Us : ∀ (s : Sh) {t : TypeId} {fuel : Nat} {vs : List Value} {x}, shB P s t = true → DataW.trod enc P w 0 spare held fuel t vs = some x → ∃ cs, GC s cs ∧ PCells (M4 w) cs vs
 | .int k, t, fuel, vs, x, hs, h => by
   simp only [shB] at hs;split at hs
   · rename_i k' hu;obtain rfl := of_decide_eq_true hs;obtain ⟨n, rfl, _, hw⟩ := DataW.trod_int hu h;exact ⟨[.i k n], ⟨n, rfl, hw⟩, PCells.cons (.i _ _) PCells.nil⟩
   · cases hs
 | .bool, t, fuel, vs, x, hs, h => by
   simp only [shB] at hs;split at hs
   · rename_i hu;obtain ⟨n, rfl, _⟩ := DataW.trod_bool hu h;exact ⟨[.b n], ⟨n, rfl⟩, PCells.cons (.b _) PCells.nil⟩
   · cases hs
 | .str, t, fuel, vs, x, hs, h => by
   simp only [shB] at hs;split at hs
   · rename_i hu;obtain ⟨b, rfl, _, hl⟩ := DataW.trod_string hu h;refine ⟨[.s b.data.toList], ⟨b.data.toList, rfl, by simpa using hl⟩, PCells.cons ?_ PCells.nil⟩;have := PConc.s (V := M4 w) b.data.toList;simpa using this
   · cases hs
 | .arr n s, t, fuel, vs, x, hs, h => by
   simp only [shB] at hs;split at hs
   · rename_i n' e hu;simp only [Bool.and_eq_true, decide_eq_true_eq] at hs;obtain ⟨⟨⟨rfl, h1⟩, h2⟩, h3⟩ := hs;obtain ⟨xs, m, rfl, _, hl, hx, hg⟩ := DataW.trod_array hu h;rw [h1] at hg;obtain ⟨cc, e1, e2, e3⟩ := Au9 (V := M4 w) (s := s) n vs (by rw [hl, h2]) fun i hi => by
      have := hg i hi;rw [List.getElem?_eq_getElem (by omega)] at this;exact Us s h3 this
     exact ⟨cc.flatten, by simp only [GC]; exact ⟨cc, rfl, e1, e2⟩, e3⟩
   · cases hs
 | .st l, t, fuel, vs, x, hs, h => by
   simp only [shB] at hs;split at hs
   · rename_i fs hu;simp only [Bool.and_eq_true, decide_eq_true_eq] at hs;obtain ⟨h2, h3⟩ := hs;obtain ⟨xs, m, rfl, _, hl, hx, hg⟩ := DataW.trod_struct hu h;obtain ⟨cs, e1, e2⟩ := Adj l (off := 0) (vs := vs) h3 fun f hf => by
      obtain ⟨i, hi⟩ := List.mem_iff_getElem?.1 hf;have hi2 : fs[i]? = some f := by simpa using hi
      have := hg i f hi2;have hlt := (Array.getElem?_eq_some_iff.1 hi2).1;rw [List.getElem?_eq_getElem (by omega)] at this;exact ⟨_, _, this⟩
     rw [List.drop_zero, ← h2, ← hl, List.take_length] at e2;exact ⟨cs, by simp only [GC]; exact e1, e2⟩
   · cases hs
 | .sl s, t, fuel, vs, x, hs, h => by
   simp only [shB] at hs;split at hs
   · rename_i e hu;simp only [Bool.and_eq_true, decide_eq_true_eq] at hs;obtain ⟨⟨h1, h2⟩, h3⟩ := hs;rcases DataW.trod_slice hu h with ⟨rfl, _⟩ | ⟨a, len, cap, Dc, rest, n, rfl, rfl, _, _, hl, hm, hle, hg, _⟩
     · exact ⟨[.sl false s.w []], by simp only [GC]; exact ⟨[], rfl, by simp, by simp⟩, PCells.cons (.sl false s.w [] none 0 (fun _ _ => undef) 0 0 #[] (by simp) (by simp) (by simp) (by simp) (by simp) (by simp)) PCells.nil⟩
     · rw [h1] at hg;obtain ⟨es, e1, e2, e3⟩ := Aqq (w := w) (s := s) (a := a) hl h2 fun i hi => by
        have h4 := hg i hi;rw [List.getElem?_eq_getElem (by omega)] at h4;obtain ⟨vs, h5, h6⟩ := Option.bind_eq_some_iff.1 h4;obtain ⟨c, g, p⟩ := Us s h3 h6;exact ⟨c, vs, g, p, h5⟩
       exact ⟨[.sl false s.w es], by simp only [GC]; exact ⟨es, rfl, by omega, e2⟩, PCells.cons e3 PCells.nil⟩
   · cases hs
theorem Adj : ∀ (l : List Sh) {fs : List Field} {off : Nat} {vs : List Value}, Aqy P l fs off = true →
 (∀ f ∈ fs, ∃ n x, DataW.trod enc P w 0 spare held n f.type ((vs.drop f.offset).take (P.cellsOf f.type)) = some x) → ∃ cs, GCL l cs ∧ PCells (M4 w) cs ((vs.drop off).take (Sh.wL l))
 | [], fs, off, vs, hs, h => ⟨[], by simp only [GCL], by simp only [Sh.wL, List.take_zero]; exact PCells.nil⟩
 | s :: l, [], off, vs, hs, h => by simp [Aqy] at hs
 | s :: l, f :: fs, off, vs, hs, h => by
   simp only [Aqy, Bool.and_eq_true, decide_eq_true_eq] at hs;obtain ⟨⟨⟨h1, h2⟩, h3⟩, h4⟩ := hs;obtain ⟨n, x, hx⟩ := h f (by simp);obtain ⟨c, g, p⟩ := Us s h3 hx;obtain ⟨cs, gl, pl⟩ := Adj l (vs := vs) h4 fun f hf => h f (by simp [hf]);refine ⟨c ++ cs, by simp only [GCL]; exact ⟨c, cs, rfl, g, gl⟩, ?_⟩;rw [h1, h2] at p;have := PCells.append p pl;have e : (vs.drop off).take (Sh.wL (s :: l)) = (vs.drop off).take s.w ++ (vs.drop (off + s.w)).take (Sh.wL l) := by
    simp only [Sh.wL];rw [List.take_add, List.drop_drop]
   rw [e]; exact this
end
end
mutual
def Jl : Sh → List PV → SV
 | .arr n s, cs => .vec (n * s.w) cs
 | .st l, cs => .agg (Pr l cs)
 | _, cs => .pv (cs.headD (.b false))
def Pr : List Sh → List PV → List SV
 | [], _ => []
 | s :: l, cs => (Jl s (cs.take s.w)).segs ++ Pr l (cs.drop s.w)
end
def Sh.isAg : Sh → Bool
 | .arr _ _ => true
 | .st _ => true
 | _ => false
theorem R0 {V : View} {ρ : Nat → Value} : ∀ {l m : List SV} {a b : List Value}, Cells V ρ l a → Cells V ρ m b → Cells V ρ (l ++ m) (a ++ b)
 | [], m, a, b, h1, h2 => by simp only [Cells] at h1; subst h1; exact h2
 | x :: l, m, a, b, h1, h2 => by
   simp only [Cells, List.cons_append] at h1 ⊢;obtain ⟨u, us, rfl, c, d, e, f⟩ := h1;exact ⟨u, us ++ b, by simp, c, d, e, R0 f h2⟩
mutual
theorem Aac {V : View} {ρ : Nat → Value} : ∀ (s : Sh) {cs : List PV} {v : Value}, GC s cs → PCells V cs (Ay v) → (s.isAg = true → ∃ vs, v = .agg ⟨vs⟩) → (s.isAg = false → ∀ vs, v ≠ .agg vs) → Conc V ρ (Jl s cs) v
 | .int k, cs, v, g, p, _, h => by
   obtain ⟨n, rfl, _⟩ := g;have e : Ay v = [v] := by cases v <;> first | rfl | exact absurd rfl (h rfl _)
   rw [e] at p;obtain ⟨v', h1, h2⟩ := p.2 0 _ rfl;simp at h1; subst h1;simp only [Jl, Conc, List.headD_cons]; exact h2
 | .bool, cs, v, g, p, _, h => by
   obtain ⟨n, rfl⟩ := g;have e : Ay v = [v] := by cases v <;> first | rfl | exact absurd rfl (h rfl _)
   rw [e] at p;obtain ⟨v', h1, h2⟩ := p.2 0 _ rfl;simp at h1; subst h1;simp only [Jl, Conc, List.headD_cons]; exact h2
 | .str, cs, v, g, p, _, h => by
   obtain ⟨n, rfl, _⟩ := g;have e : Ay v = [v] := by cases v <;> first | rfl | exact absurd rfl (h rfl _)
   rw [e] at p;obtain ⟨v', h1, h2⟩ := p.2 0 _ rfl;simp at h1; subst h1;simp only [Jl, Conc, List.headD_cons]; exact h2
 | .sl s, cs, v, g, p, _, h => by
   simp only [GC] at g;obtain ⟨n, rfl, _⟩ := g;have e : Ay v = [v] := by cases v <;> first | rfl | exact absurd rfl (h rfl _)
   rw [e] at p;obtain ⟨v', h1, h2⟩ := p.2 0 _ rfl;simp at h1; subst h1;simp only [Jl, Conc, List.headD_cons]; exact h2
 | .arr n s, cs, v, g, p, h, _ => by
   obtain ⟨vs, rfl⟩ := h rfl;have hl := g.len;simp only [Jl, Conc];refine ⟨vs, rfl, ?_, p⟩;have e1 : vs.length = cs.length := p.1.symm;rw [e1, hl]; rfl
 | .st l, cs, v, g, p, h, _ => by
   obtain ⟨vs, rfl⟩ := h rfl;simp only [GC] at g;simp only [Jl, Conc];exact ⟨vs, rfl, Nx l g p⟩
theorem Nx {V : View} {ρ : Nat → Value} : ∀ (l : List Sh) {cs : List PV} {vs : List Value}, GCL l cs → PCells V cs vs → Cells V ρ (Pr l cs) vs
 | [], cs, vs, g, p => by
   simp only [GCL] at g; subst g;have : vs = [] := List.eq_nil_of_length_eq_zero (by rw [← p.1]; rfl);subst this;simp only [Pr, Cells]
 | s :: l, cs, vs, g, p => by
   simp only [GCL] at g;obtain ⟨c, cs', rfl, g1, g2⟩ := g;have hl := g1.len;have p1 : PCells V c (vs.take c.length) := by
    have := p.split c.length |>.1;simpa using this
   have p2 : PCells V cs' (vs.drop c.length) := by
    have := p.split c.length |>.2;simpa using this
   have hvs : vs = vs.take c.length ++ vs.drop c.length := (List.take_append_drop _ _).symm;have hlen : (vs.take c.length).length = s.w := by rw [← p1.1, hl]
   simp only [Pr];rw [List.take_left' hl, List.drop_left' hl];rw [hvs];refine R0 ?_ (Nx l g2 p2);cases s with
   | st m =>
     simp only [GC] at g1;simp only [Jl, SV.segs];exact Nx m g1 p1
   | arr n s' =>
     have := Aac (V := V) (ρ := ρ) (.arr n s') (v := .agg ⟨vs.take c.length⟩) g1 (by simpa [Ay] using p1) (fun _ => ⟨_, rfl⟩) (by simp [Sh.isAg]);simp only [Jl] at this ⊢;simp only [SV.segs, Cells];exact ⟨_, [], by simp [Ay], this, by simpa [Ay, SV.width, Sh.w] using hlen, fun v hv => p1.one v (by simpa [Ay] using hv), rfl⟩
   | int k =>
     obtain ⟨n, rfl, _⟩ := g1;obtain ⟨v, h1, h2⟩ := p1.2 0 _ rfl;have e : vs.take [PV.i k n].length = [v] := by
      match hx : vs.take [PV.i k n].length, h1, hlen with
      | [u], h1, _ => simp at h1; rw [h1]
     have ho := h2.one;have fv : Ay v = [v] := by cases v <;> first | rfl | exact absurd ho (by simp [A8])
     rw [e];simp only [Jl, SV.segs, Cells, Conc, List.headD_cons];exact ⟨v, [], by rw [fv]; rfl, h2, by rw [fv]; rfl, by rw [fv]; simpa using ho, rfl⟩
   | bool =>
     obtain ⟨n, rfl⟩ := g1;obtain ⟨v, h1, h2⟩ := p1.2 0 _ rfl;have e : vs.take [PV.b n].length = [v] := by
      match hx : vs.take [PV.b n].length, h1, hlen with
      | [u], h1, _ => simp at h1; rw [h1]
     have ho := h2.one;have fv : Ay v = [v] := by cases v <;> first | rfl | exact absurd ho (by simp [A8])
     rw [e];simp only [Jl, SV.segs, Cells, Conc, List.headD_cons];exact ⟨v, [], by rw [fv]; rfl, h2, by rw [fv]; rfl, by rw [fv]; simpa using ho, rfl⟩
   | str =>
     obtain ⟨n, rfl, _⟩ := g1;obtain ⟨v, h1, h2⟩ := p1.2 0 _ rfl;have e : vs.take [PV.s n].length = [v] := by
      match hx : vs.take [PV.s n].length, h1, hlen with
      | [u], h1, _ => simp at h1; rw [h1]
     have ho := h2.one;have fv : Ay v = [v] := by cases v <;> first | rfl | exact absurd ho (by simp [A8])
     rw [e];simp only [Jl, SV.segs, Cells, Conc, List.headD_cons];exact ⟨v, [], by rw [fv]; rfl, h2, by rw [fv]; rfl, by rw [fv]; simpa using ho, rfl⟩
   | sl s' =>
     simp only [GC] at g1;obtain ⟨n, rfl, _⟩ := g1;obtain ⟨v, h1, h2⟩ := p1.2 0 _ rfl;have e : vs.take [PV.sl false s'.w n].length = [v] := by
      match hx : vs.take [PV.sl false s'.w n].length, h1, hlen with
      | [u], h1, _ => simp at h1; rw [h1]
     have ho := h2.one;have fv : Ay v = [v] := by cases v <;> first | rfl | exact absurd ho (by simp [A8])
     rw [e];simp only [Jl, SV.segs, Cells, Conc, List.headD_cons];exact ⟨v, [], by rw [fv]; rfl, h2, by rw [fv]; rfl, by rw [fv]; simpa using ho, rfl⟩
end
mutual
theorem Adk : ∀ (s : Sh) (cs : List PV), (Jl s cs).closed = true
 | .int k, cs => rfl
 | .bool, cs => rfl
 | .str, cs => rfl
 | .sl s, cs => rfl
 | .arr n s, cs => rfl
 | .st l, cs => by simp only [Jl, SV.closed]; exact Kc l cs
theorem Kc : ∀ (l : List Sh) (cs : List PV), SV.closedL (Pr l cs) = true
 | [], cs => rfl
 | s :: l, cs => by
   simp only [Pr];have h2 := Kc l (cs.drop s.w);have app : ∀ (a b : List SV), SV.closedL a = true → SV.closedL b = true → SV.closedL (a ++ b) = true := fun a b ha hb => by
    induction a with
    | nil => exact hb
    | cons x a ih => simp only [SV.closedL, Bool.and_eq_true, List.cons_append] at ha ⊢; exact ⟨ha.1, ih ha.2⟩
   refine app _ _ ?_ h2;cases s with
   | st m => simp only [Jl, SV.segs]; exact Kc m _
   | int k => rfl
   | bool => rfl
   | str => rfl
   | sl s => rfl
   | arr n s => rfl
end
theorem Amt {P : Program} {w : World} {base : Nat} {t : TypeId} {v : Value} : ∀ {s : Sh}, shB P s t = true → Value.okWide P w .any base t v → (s.isAg = true → ∃ vs, v = .agg ⟨vs⟩) ∧ (s.isAg = false → ∀ vs, v ≠ .agg vs)
 | .int k, hs, h => by
   simp only [shB] at hs;split at hs
   · rename_i k' hu;obtain ⟨n, rfl⟩ := WideShapes.okWide_int hu h;exact ⟨fun h => (by cases h), fun _ vs e => by cases e⟩
   · cases hs
 | .bool, hs, h => by
   simp only [shB] at hs;split at hs
   · rename_i hu;obtain ⟨n, rfl⟩ := WideShapes.okWide_bool hu h;exact ⟨fun h => (by cases h), fun _ vs e => by cases e⟩
   · cases hs
 | .str, hs, h => by
   simp only [shB] at hs;split at hs
   · rename_i hu;obtain ⟨n, rfl⟩ := WideShapes.okWide_string hu h;exact ⟨fun h => (by cases h), fun _ vs e => by cases e⟩
   · cases hs
 | .sl s, hs, h => by
   simp only [shB] at hs;split at hs
   · rename_i e hu;obtain ⟨a, b, c, rfl⟩ := WideShapes.okWide_slice hu h;exact ⟨fun h => (by cases h), fun _ vs e => by cases e⟩
   · cases hs
 | .arr n s, hs, h => by
   simp only [shB] at hs;split at hs
   · rename_i n' e hu;simp only [Value.okWide, hu] at h;obtain ⟨⟨xs⟩, rfl, _⟩ := h;exact ⟨fun _ => ⟨_, rfl⟩, fun h => (by cases h)⟩
   · cases hs
 | .st l, hs, h => by
   simp only [shB] at hs;split at hs
   · rename_i fs hu;simp only [Value.okWide, hu] at h;obtain ⟨⟨xs⟩, rfl, _⟩ := h;exact ⟨fun _ => ⟨_, rfl⟩, fun h => (by cases h)⟩
   · cases hs
theorem Agq {H : Type} {enc : TypeId × Value → H} {P : Program} {w : World} {spare : Nat → Bool} {held : Bool} {base : Nat} {t : TypeId} {v : Value} {d : DataW H} {ps : List MemPlace} {s : Sh} (hs : shB P s t = true)
 (hv : Value.okWide P w .any base t v) (h : DataW.Trod enc P w 0 spare held t v d ps) : ∃ cs, GC s cs ∧ Conc (M4 w) (fun _ => undef) (Jl s cs) v := by
 obtain ⟨fuel, hf⟩ := h;obtain ⟨cs, g, p⟩ := Us s hs hf;rw [Fd] at p;obtain ⟨h1, h2⟩ := Amt hs hv;exact ⟨cs, g, Aac s g p h1 h2⟩
end Go.Proofs.YtannaphhhkncoaaGreat.Fw
namespace Go.Proofs.YtannaphhhkncoaaGreat.Fw
open Go.RowKit
theorem Afw {m : Nat} : ∀ {cc : List (List PV)} {i j : Nat}, (∀ c ∈ cc, c.length = m) → j < m → cc.flatten[i * m + j]? = (cc[i]?).bind (·[j]?)
 | [], i, j, _, _ => by simp
 | c :: cc, 0, j, h, hj => by
   have hc := h c (by simp);rw [List.flatten_cons, Nat.zero_mul, Nat.zero_add, List.getElem?_append_left (by omega)]; rfl
 | c :: cc, i + 1, j, h, hj => by
   have hc := h c (by simp);rw [List.flatten_cons, List.getElem?_append_right (by rw [Nat.add_mul]; omega)];rw [show (i + 1) * m + j - c.length = i * m + j from by rw [Nat.add_mul]; omega];rw [Afw (fun c hc => h c (by simp [hc])) hj]; rfl
theorem A64 {n : Nat} {s : Sh} {cs : List PV} (h : GC (.arr n s) cs) : cs.length = n * s.w ∧ ∀ i, i < n → ∃ c, GC s c ∧ ∀ j, j < s.w → cs[i * s.w + j]? = c[j]? := by
 refine ⟨h.len, fun i hi => ?_⟩;simp only [GC] at h;obtain ⟨cc, rfl, rfl, g⟩ := h;refine ⟨cc[i], g _ (List.getElem_mem _), fun j hj => ?_⟩;rw [Afw (fun c hc => (g c hc).len) hj, List.getElem?_eq_getElem hi]; rfl
theorem Ap6 {n : Int} (h : (Lit.int .u32 n).wf = true) : 0 ≤ n ∧ n < 4294967296 := by
 simp [Lit.wf, IntKind.min, IntKind.max, IntKind.signed, IntKind.bits] at h; omega
theorem A5g {n : Int} (h : (Lit.int .i64 n).wf = true) : -9223372036854775808 ≤ n ∧ n < 9223372036854775808 := by
 simp [Lit.wf, IntKind.min, IntKind.max, IntKind.signed, IntKind.bits] at h; omega
theorem A0x {n : Nat} {cs : List PV} {f : Nat → PV} (hl : cs.length = n) (h : ∀ i, i < n → cs[i]? = some (f i)) : cs = Cq n f := by
 apply List.ext_getElem?;intro i;by_cases hi : i < n
 · rw [h i hi, G1 hi]
 · rw [List.getElem?_eq_none (by omega), List.getElem?_eq_none (by rw [D0]; omega)]
theorem Bbn {cs : List PV} (h : GC (.arr 8 (.int .u32)) cs) : ∃ a : Vc, cs = vE a ∧ ∀ i, i < 8 → a i < 4294967296 := by
 obtain ⟨hl, g⟩ := A64 h;have key : ∀ i, ∃ n : Nat, i < 8 → cs[i]? = some (.i .u32 n) ∧ n < 4294967296 := fun i => by
  by_cases hi : i < 8
  · obtain ⟨c, ⟨n, rfl, hw⟩, k⟩ := g i hi;have := k 0 (by simp [Sh.w]);simp only [Sh.w, Nat.mul_one, Nat.add_zero] at this;have hr := Ap6 hw;refine ⟨n.toNat, fun _ => ⟨?_, by omega⟩⟩;rw [this, show ((n.toNat : Nat) : Int) = n from by omega]; rfl
  · exact ⟨0, fun h => absurd h hi⟩
 obtain ⟨a, ha⟩ := Classical.axiomOfChoice key;exact ⟨a, A0x hl fun i hi => (ha i hi).1, fun i hi => (ha i hi).2⟩
theorem Av0 {s : Sh} {cs : List PV} (h : GC (.sl s) cs) : ∃ es, cs = [.sl false s.w es] ∧ es.length ≤ maxLen ∧ ∀ c ∈ es, GC s c := by
 simp only [GC] at h; exact h
end Go.Proofs.YtannaphhhkncoaaGreat.Fw
namespace Go.Proofs.YtannaphhhkncoaaGreat.Fw
open Go.RowKit Go.Proofs
def C8 (r : Int) (q : Nat) (r' : Int) (q' : Nat) : Bool := decide (q < q' ∨ q = q' ∧ r < r')
theorem Ah5 (r : Int) (q : Nat) (r' : Int) (q' : Nat) {h d} : FunOk Tryz.prog 85 [.vec 2 [.i .i64 r, .i .u32 q], .vec 2 [.i .i64 r', .i .u32 q']] h d (.pv (.b (C8 r q r' q'))) [] := by
 refine A7 Aq fn85 (by simp) rfl rfl fun F => ?_;by_cases h : q = q'
 · subst h;have e : C8 r q r' q = decide (r < r') := by simp [C8]
   simp (disch := omega) only [ir85, e, go_sem]
 · have hz : ¬ (q : Int) = (q' : Int) := by omega
   have e : C8 r q r' q' = decide ((q : Int) < (q' : Int)) := by simp [C8, h]
   simp (disch := omega) only [ir85, e, go_sem]
theorem Fj (r : Int) (q : Nat) (r' : Int) (q' : Nat) {h d} : FunOk Tryz.prog 17 [.vec 2 [.i .i64 r, .i .u32 q], .vec 2 [.i .i64 r', .i .u32 q']] h d (.pv (.b (C8 r q r' q'))) [] := by
 refine A7 Aq fn17 (by simp) rfl rfl fun F => ?_;by_cases h : q = q'
 · subst h;have e : C8 r q r' q = decide (r < r') := by simp [C8]
   have hl : ¬ (q : Int) < (q : Int) := by omega
   simp (disch := omega) only [ir17, e, hl, go_sem]
 · have hz : ¬ (q : Int) = (q' : Int) := by omega
   have e : C8 r q r' q' = decide ((q : Int) < (q' : Int)) := by simp [C8, h]
   by_cases hl : (q : Int) < (q' : Int)
   · simp (disch := omega) only [ir17, e, hl, go_sem]
   · simp (disch := omega) only [ir17, e, hl, go_sem]
theorem L0 {r r' : Int} {q q' : Nat} (h : r = r' ∧ q = q') : M6 [.i .i64 r, .i .u32 q] [.i .i64 r', .i .u32 q'] = true := by
 obtain ⟨rfl, rfl⟩ := h; simp [M6]
theorem Jw {r r' : Int} {q q' : Nat} (h : ¬ (r = r' ∧ q = q')) : M6 [.i .i64 r, .i .u32 q] [.i .i64 r', .i .u32 q'] = false := by
 simp only [M6, decide_eq_false_iff_not];intro e;simp only [List.cons.injEq, PV.i.injEq, true_and, and_true] at e;exact h ⟨e.1, by omega⟩
abbrev Ca := Int × Nat
def Ga (b : Ca) : List PV := [.i .i64 b.1, .i .u32 b.2]
def Mk (a : Vc) (r : Int) : Nat := if 1 ≤ r ∧ r ≤ 8 then a (r - 1).toNat else 0
def Cm (a : Vc) (r : Int) (q : Nat) : Bool := decide (1 ≤ q ∧ q ≤ Mk a r)
def Aa8 (a : Vc) (r : Int) (k : Nat) : FS := mk [(5, .pv (.i .i64 k)), (1, .pv (.i .i64 r)), (2, .p 2 0)] [(2, some (.var (.vec 8 (vE a))))]
theorem P0 (a : Vc) (r : Int) {h d} : FunOk Tryz.prog 18 [.vec 8 (vE a), .pv (.i .i64 r)] h d (.pv (.i .u32 (Mk a r))) [] := by
 refine A7 Aq fn18 (by simp) rfl rfl fun F => ?_;simp (disch := omega) only [ir18, go_sem];refine A1 Aq (Aa8 a r) (fun k => k ≤ 8 ∧ ∀ i : Nat, i < k → (i : Int) + 1 ≠ r) (fun k => 8 - k) 0 (by simp) (An ?_ ?_) fun k hk => ?_
 · simp (disch := omega) only [go_sem]
 · simp (disch := omega) only [go_sem]
 obtain ⟨hk1, hk2⟩ := hk;by_cases hlt : k < 8
 · by_cases he : (k : Int) + 1 = r
   · subst he;have e : Mk a ((k : Int) + 1) = a k := by
      have e1 : ((k : Int) + 1 - 1).toNat = k := by omega
      simp [Mk, e1]; omega
     simp (disch := omega) only [Aa8, e, go_sem]
   · simp (disch := omega) only [Aa8, he, go_sem];refine Al (k + 1) _ _ rfl ⟨by omega, fun i hi => ?_⟩ (by omega) ?_ ?_
     · by_cases e : i = k
       · subst e; exact he
       · exact hk2 i (by omega)
     · simp (disch := omega) only [go_sem]
     · simp (disch := omega) only [go_sem]
 · obtain rfl : k = 8 := by omega
   have e : Mk a r = 0 := by
    unfold Mk;rw [if_neg];intro h;exact hk2 (r - 1).toNat (by omega) (by omega)
   simp (disch := omega) only [Aa8, e, go_sem]
theorem Pz (a : Vc) (r : Int) (q : Nat) {h d} : FunOk Tryz.prog 52 [.vec 8 (vE a), .vec 2 [.i .i64 r, .i .u32 q]] h d (.pv (.b (Cm a r q))) [] := by
 refine A7 Aq fn52 (by simp) rfl rfl fun F => ?_;by_cases h1 : (0 : Int) < q
 · simp (disch := omega) only [ir52, h1, go_sem];refine Aa (P0 a r) ?_;have e : Cm a r q = decide ((q : Int) ≤ (Mk a r : Int)) := decide_eq_decide.2 (by omega);simp (disch := omega) only [e, go_sem]
 · have e : Cm a r q = false := decide_eq_false (by omega);simp (disch := omega) only [ir52, h1, e, go_sem]
theorem Mh {l : List SV} {cs : List PV} {n : Nat} (hc : SV.cellsL? l = some cs) (hn : cs.length = n) : Imp (.agg l) (.vec n cs) := by
 intro V ρ v h;have hp := Conc.cells h (x := .agg l) (cs := cs) hc;simp only [Conc] at h ⊢;obtain ⟨vs, rfl, _⟩ := h;exact ⟨vs, rfl, by rw [← hn]; exact hp.1.symm, hp⟩
def ImpL : List SV → List SV → Prop
 | [], [] => True
 | x :: l, y :: m => Imp x y ∧ ImpL l m
 | _, _ => False
theorem ImpL.conc {V : View} {ρ : Nat → Value} : ∀ {l m : List SV} {vs : List Value}, ImpL l m → ConcL V ρ l vs → ConcL V ρ m vs
 | [], [], vs, _, h => h
 | x :: l, y :: m, vs, h, k => by
   simp only [ConcL] at k ⊢;obtain ⟨v, us, rfl, k1, k2⟩ := k;exact ⟨v, us, rfl, h.1 _ _ _ k1, ImpL.conc h.2 k2⟩
 | [], _ :: _, _, h, _ => h.elim
 | _ :: _, [], _, h, _ => h.elim
theorem FunOk.imp {P : Program} {f : Nat} {args args' : List SV} {h d x u} (hf : FunOk P f args' h d x u) (hi : ImpL args args') (ht : ∀ n ∈ Bd args', n ∈ Bd args) : FunOk P f args h d x u :=
 ⟨hf.1, fun F N ρ s a w hR hh vs hc => hf.2 F N ρ s a w hR (fun n hn => hh n (ht n hn)) vs (hi.conc hc)⟩
abbrev Ad6 : Sh := .st [.int .i64, .int .u32]
theorem Ag2 {cs : List PV} (h : GC Ad6 cs) : ∃ b : Ca, cs = Ga b ∧ (-9223372036854775808 ≤ b.1 ∧ b.1 < 9223372036854775808) ∧ b.2 < 4294967296 := by
 simp only [GC, GCL] at h;obtain ⟨c, cs', rfl, ⟨n, rfl, hw⟩, c', cs'', rfl, ⟨m, rfl, hw'⟩, rfl⟩ := h;have hr := Ap6 hw';exact ⟨(n, m.toNat), by simp [Ga]; omega, A5g hw, by show m.toNat < _; omega⟩
theorem Acw {α : Type} {f : α → List PV} {p : α → Prop} {s : Sh} (key : ∀ {cs}, GC s cs → ∃ x, cs = f x ∧ p x) : ∀ {es : List (List PV)}, (∀ c ∈ es, GC s c) → ∃ l : List α, es = l.map f ∧ ∀ x ∈ l, p x
 | [], _ => ⟨[], rfl, by simp⟩
 | c :: es, h => by
   obtain ⟨l, e, hp⟩ := Acw (es := es) key fun c hc => h c (List.mem_cons_of_mem _ hc);obtain ⟨x, e2, hx⟩ := key (h c List.mem_cons_self);exact ⟨x :: l, by rw [e, e2]; rfl, fun y hy => by
    rcases List.mem_cons.1 hy with hy | hy
    · rw [hy]; exact hx
    · exact hp y hy⟩
structure SlI where
 f : Bool
 z : Nat
 l : List Ca
def SlI.pv (g : SlI) : PV := .sl g.f g.z (g.l.map Ga)
def SlI.ok (g : SlI) : Prop := g.l = [] ∨ g.z = 2
def SlI.nil : SlI := ⟨true, 0, []⟩
structure Evt where
 rep : Int
 seq : Nat
 dep : Vc
 kind : Int
 orep : Int
 oseq : Nat
 drep : Int
 dseq : Nat
 name : List UInt8
 gone : SlI
 base : SlI
 off : Int
 data : List UInt8
 ward : Int
def Cn (e : Evt) : List PV := [.i .i64 e.rep, .i .u32 e.seq] ++ vE e.dep ++ [.i .i64 e.kind, .i .i64 e.orep, .i .u32 e.oseq, .i .i64 e.drep, .i .u32 e.dseq, .s e.name, e.gone.pv, e.base.pv, .i .i64 e.off, .s e.data, .i .i64 e.ward]
theorem Ac (e : Evt) : (Cn e).length = 21 := by simp [Cn, vE, Cq]
theorem Fv (e : Evt) (K : KK) : LoadK (some (Cn e)) 0 1 false K = K (.pv (.i .i64 e.rep)) [] := by
 simp only [LoadK, G5, eq_iff_iff];exact ⟨fun h => h.2.2, fun h => ⟨by simp [Cn, vE, Cq], .inr trivial, h⟩⟩
theorem Jc (e : Evt) (K : KK) : LoadK (some (Cn e)) 1 1 false K = K (.pv (.i .u32 e.seq)) [] := by
 simp only [LoadK, G5, eq_iff_iff];exact ⟨fun h => h.2.2, fun h => ⟨by simp [Cn, vE, Cq], .inr trivial, h⟩⟩
theorem Ax (e : Evt) (K : KK) : LoadK (some (Cn e)) 10 1 false K = K (.pv (.i .i64 e.kind)) [] := by
 simp only [LoadK, G5, eq_iff_iff];exact ⟨fun h => h.2.2, fun h => ⟨by simp [Cn, vE, Cq], .inr trivial, h⟩⟩
theorem Fo (e : Evt) (K : KK) : LoadK (some (Cn e)) 15 1 false K = K (.pv (.s e.name)) [] := by
 simp only [LoadK, G5, eq_iff_iff];exact ⟨fun h => h.2.2, fun h => ⟨by simp [Cn, vE, Cq], .inr trivial, h⟩⟩
theorem Hv (e : Evt) (K : KK) : LoadK (some (Cn e)) 16 1 false K = K (.pv (e.gone.pv)) [] := by
 simp only [LoadK, G5, eq_iff_iff];exact ⟨fun h => h.2.2, fun h => ⟨by simp [Cn, vE, Cq], .inr trivial, h⟩⟩
theorem J1 (e : Evt) (K : KK) : LoadK (some (Cn e)) 17 1 false K = K (.pv (e.base.pv)) [] := by
 simp only [LoadK, G5, eq_iff_iff];exact ⟨fun h => h.2.2, fun h => ⟨by simp [Cn, vE, Cq], .inr trivial, h⟩⟩
theorem Rc (e : Evt) (K : KK) : LoadK (some (Cn e)) 18 1 false K = K (.pv (.i .i64 e.off)) [] := by
 simp only [LoadK, G5, eq_iff_iff];exact ⟨fun h => h.2.2, fun h => ⟨by simp [Cn, vE, Cq], .inr trivial, h⟩⟩
theorem J0 (e : Evt) (K : KK) : LoadK (some (Cn e)) 19 1 false K = K (.pv (.s e.data)) [] := by
 simp only [LoadK, G5, eq_iff_iff];exact ⟨fun h => h.2.2, fun h => ⟨by simp [Cn, vE, Cq], .inr trivial, h⟩⟩
theorem Ab6 (e : Evt) (K : KK) : LoadK (some (Cn e)) 20 1 false K = K (.pv (.i .i64 e.ward)) [] := by
 simp only [LoadK, G5, eq_iff_iff];exact ⟨fun h => h.2.2, fun h => ⟨by simp [Cn, vE, Cq], .inr trivial, h⟩⟩
theorem Bq (e : Evt) (K : KK) : LoadK (some (Cn e)) 0 2 true K = K (.vec 2 ([.i .i64 e.rep, .i .u32 e.seq])) [] := by
 simp only [LoadK, G5, eq_iff_iff];exact ⟨fun h => h.2.2, fun h => ⟨by simp [Cn, vE, Cq], .inl trivial, h⟩⟩
theorem Jb (e : Evt) (K : KK) : LoadK (some (Cn e)) 2 8 true K = K (.vec 8 (vE e.dep)) [] := by
 simp only [LoadK, G5, eq_iff_iff];exact ⟨fun h => h.2.2, fun h => ⟨by simp [Cn, vE, Cq], .inl trivial, h⟩⟩
theorem Bj (e : Evt) (K : KK) : LoadK (some (Cn e)) 11 2 true K = K (.vec 2 ([.i .i64 e.orep, .i .u32 e.oseq])) [] := by
 simp only [LoadK, G5, eq_iff_iff];exact ⟨fun h => h.2.2, fun h => ⟨by simp [Cn, vE, Cq], .inl trivial, h⟩⟩
theorem Ja (e : Evt) (K : KK) : LoadK (some (Cn e)) 13 2 true K = K (.vec 2 ([.i .i64 e.drep, .i .u32 e.dseq])) [] := by
 simp only [LoadK, G5, eq_iff_iff];exact ⟨fun h => h.2.2, fun h => ⟨by simp [Cn, vE, Cq], .inl trivial, h⟩⟩
theorem Dm (e : Evt) (K : KK) : LoadK (some (Cn e)) 0 21 true K = K (.vec 21 (Cn e)) [] := W5 (Ac e) K
theorem Xc (e : Evt) {j : Nat} (h : j < 8) (K : KK) : LoadK (some (Cn e)) (2 + j) 1 false K = K (.pv (.i .u32 (e.dep j))) [] := by
 have : j = 0 ∨ j = 1 ∨ j = 2 ∨ j = 3 ∨ j = 4 ∨ j = 5 ∨ j = 6 ∨ j = 7 := by omega
 simp only [LoadK, G5, eq_iff_iff];rcases this with rfl | rfl | rfl | rfl | rfl | rfl | rfl | rfl <;> exact ⟨fun h => h.2.2, fun h => ⟨by simp [Cn, vE, Cq], .inr trivial, h⟩⟩
attribute [go_sem] Fv Jc Ax Fo Hv J1 Rc J0 Ab6 Bq Jb Bj Ja Dm Ac SlI.pv Hz List.length_map
def F8 (e : Evt) : Evt :=
 if e.kind = 1 ∨ e.kind = 2 then { e with drep := 0, dseq := 0, name := [] }
 else if e.kind = 3 then { e with orep := 0, oseq := 0, base := .nil, off := 0, data := [] }
 else if e.kind = 4 then { e with orep := 0, oseq := 0, base := .nil, off := 0 }
 else if e.kind = 5 then { e with orep := 0, oseq := 0, base := .nil, data := [] }
 else if e.kind = 6 then { e with orep := 0, oseq := 0, gone := .nil }
 else if e.kind = 7 then { e with orep := 0, oseq := 0, gone := .nil, drep := 0, dseq := 0, name := [] }
 else if e.kind = 8 then { e with ward := 0 }
 else e
end Go.Proofs.YtannaphhhkncoaaGreat.Fw
namespace Go.Proofs.YtannaphhhkncoaaGreat.Fw
open Go.RowKit Go.Proofs
def Ce (r : Int) (q : Nat) : Bool := decide (r = 0 ∧ q = 0)
theorem P4 (r : Int) (q : Nat) (K : KK) : LoadK (some [PV.i .i64 r, PV.i .u32 q]) 0 1 false K = K (.pv (.i .i64 r)) [] := Om ..
theorem P3 (r : Int) (q : Nat) (K : KK) : LoadK (some [PV.i .i64 r, PV.i .u32 q]) 1 1 false K = K (.pv (.i .u32 q)) [] := by
 rw [Ak4]; exact Om ..
theorem A3 (r : Int) (q : Nat) {h d} : FunOk Tryz.prog 89 [.vec 2 [.i .i64 r, .i .u32 q]] h d (.pv (.b (Ce r q))) [] := by
 refine A7 Aq fn89 (by simp) rfl rfl fun F => ?_;by_cases h1 : r = 0
 · by_cases h2 : q = 0
   · have e : Ce r q = true := decide_eq_true ⟨h1, h2⟩;simp (disch := omega) only [ir89, P4, P3, h1, h2, e, Int.natCast_zero, go_sem];rw [← h1, ← h2, e]
   · have e : Ce r q = false := decide_eq_false (by omega);have h3 : ¬ (q : Int) = 0 := by omega
     simp (disch := omega) only [ir89, P4, P3, h3, e, h1, go_sem];rw [← h1, e]
 · have e : Ce r q = false := decide_eq_false (by omega);simp (disch := omega) only [ir89, P4, P3, h1, e, go_sem]
theorem Bm (r : Int) (q : Nat) : D5 [K1.int .i64, K1.int .u32] [.i .i64 r, .i .u32 q] = True := eq_true rfl
theorem Afy : D5 [K1.int .i64, K1.int .u32] [.i .i64 0, .i .u32 0] = True := eq_true rfl
theorem Ael (r : Int) (q : Nat) : M6 [.i .i64 r, .i .u32 q] [.i .i64 0, .i .u32 0] = Ce r q := by
 by_cases h : r = 0 ∧ q = 0
 · rw [show Ce r q = true from decide_eq_true h];exact L0 (q' := 0) h
 · rw [show Ce r q = false from decide_eq_false h];exact Jw (q' := 0) h
def Ed (e : Evt) : Bool := Ce e.drep e.dseq || Cm e.dep e.drep e.dseq
def Eb (n : Int) : Bool := decide (0 ≤ n ∧ n ≤ 200)
def Al0 (a : Vc) (l : List Ca) : Prop := ∀ i, (h : i < l.length) → Cm a l[i].1 l[i].2 = true ∧ (0 < i → C8 l[i - 1].1 l[i - 1].2 l[i].1 l[i].2 = true)
open Classical in
noncomputable def Gj (a : Vc) (l : List Ca) : Bool := decide (Al0 a l)
theorem Axo {a : Vc} {l : List Ca} (h : Al0 a l) : Gj a l = true := by simp [Gj, h]
theorem Aki {a : Vc} {l : List Ca} (h : ¬ Al0 a l) : Gj a l = false := by simp [Gj, h]
theorem Ic (x : Ca) (K : KK) : LoadK (some (Ga x)) 0 2 true K = K (.vec 2 [.i .i64 x.1, .i .u32 x.2]) [] := W5 (by rfl) K
noncomputable def Gv (l : List Ca) (most : Int) (a : Vc) : Bool := decide ((l.length : Int) ≤ most) && Gj a l
theorem Aml {a : Vc} {l : List Ca} {k : Nat} (hk : ∀ i, (h : i < l.length) → i < k → Cm a l[i].1 l[i].2 = true ∧ (0 < i → C8 l[i - 1].1 l[i - 1].2 l[i].1 l[i].2 = true)) (hlt : k < l.length)
 (h1 : Cm a l[k].1 l[k].2 = true) (h2 : 0 < k → C8 l[k - 1].1 l[k - 1].2 l[k].1 l[k].2 = true) : ∀ i, (h : i < l.length) → i < k + 1 → Cm a l[i].1 l[i].2 = true ∧ (0 < i → C8 l[i - 1].1 l[i - 1].2 l[i].1 l[i].2 = true) := fun i h hi => by
 by_cases e : i = k
 · subst e; exact ⟨h1, h2⟩
 · exact hk i h (by omega)
def Lo (f : Bool) (z : Nat) (l : List Ca) (a : Vc) (k : Nat) : FS := mk [(5, .pv (.i .i64 k)), (0, .pv (.sl f z (l.map Ga))), (3, .p 3 0)] [(3, some (.var (.vec 8 (vE a))))]
set_option maxHeartbeats 2000000 in
theorem Arv {f : Bool} {z : Nat} {l : List Ca} {a : Vc} {h d} (hz : l = [] ∨ z = 2) (hn : l.length ≤ 1000) :
 FunOk Tryz.prog 90 [.pv (.sl f z (l.map Ga)), .vec 8 (vE a)] h d (.pv (.b (Gj a l))) [] := by
 refine A7 Aq fn90 (by simp) rfl rfl fun F => ?_;simp (disch := omega) only [ir90, List.length_map, go_sem];refine A1 Aq (Lo f z l a) (fun k => k ≤ l.length ∧ ∀ i, (h : i < l.length) → i < k → Cm a l[i].1 l[i].2 = true ∧ (0 < i → C8 l[i - 1].1 l[i - 1].2 l[i].1 l[i].2 = true)) (fun k => l.length - k) 0 (by simp) (An ?_ ?_) fun k hk => ?_
 · simp (disch := omega) only [go_sem]
 · simp (disch := omega) only [go_sem]
 obtain ⟨hk1, hk2⟩ := hk;by_cases hlt : k < l.length
 · have hz2 : z = 2 := hz.resolve_left fun e => by subst e; simp at hlt
   subst hz2;have he : (l.map Ga)[k]? = some (Ga l[k]) := by simp [hlt]
   have hst := Aml hk2 hlt;by_cases hh : Cm a l[k].1 l[k].2 = true
   · by_cases h0 : k = 0
     · subst h0;have e0 : (l.map Ga)[0]? = some (Ga l[0]) := he;simp (disch := omega) only [Lo, List.length_map, he, e0, Ic, Hz, Int.natCast_zero, go_sem];refine Aa (Pz _ _ _) ?_;simp (disch := omega) only [hh, Int.natCast_zero, go_sem];refine Al (x := (0 : Nat)) (1 : Nat) _ _ rfl ⟨by omega, hst hh (by omega)⟩ (by omega) ?_ ?_
       · simp (disch := omega) only [go_sem]
       · simp (disch := omega) only [go_sem]
     · have hk' : k - 1 < l.length := by omega
       have he' : (l.map Ga)[k - 1]? = some (Ga l[k - 1]) := by simp [hk']
       have ek : ((k : Int) - 1).toNat = k - 1 := by omega
       have hpos : (0 : Int) < k := by omega
       by_cases hlt2 : C8 l[k - 1].1 l[k - 1].2 l[k].1 l[k].2 = true
       · simp (disch := omega) only [Lo, List.length_map, he, he', ek, hpos, Ic, Hz, go_sem];refine Aa (Pz _ _ _) ?_;simp (disch := omega) only [hh, he, he', ek, hpos, Ic, List.length_map, go_sem];refine Aa (Fj _ _ _ _) ?_;simp (disch := omega) only [hlt2, go_sem];refine Al (k + 1) _ _ rfl ⟨by omega, hst hh fun _ => hlt2⟩ (by omega) ?_ ?_
         · simp (disch := omega) only [go_sem]
         · simp (disch := omega) only [go_sem]
       · have hlt3 : C8 l[k - 1].1 l[k - 1].2 l[k].1 l[k].2 = false := by simpa using hlt2
         have er := Aki (a := a) (l := l) fun h => hlt2 ((h k hlt).2 (by omega));simp (disch := omega) only [Lo, List.length_map, he, he', ek, hpos, Ic, Hz, go_sem];refine Aa (Pz _ _ _) ?_;simp (disch := omega) only [hh, he, he', ek, hpos, Ic, List.length_map, go_sem];refine Aa (Fj _ _ _ _) ?_;simp (disch := omega) only [hlt3, er, Lo, go_sem]
   · have hh' : Cm a l[k].1 l[k].2 = false := by simpa using hh
     have er := Aki (a := a) (l := l) fun h => hh (h k hlt).1;simp (disch := omega) only [Lo, List.length_map, he, Ic, Hz, go_sem];refine Aa (Pz _ _ _) ?_;simp (disch := omega) only [hh', er, Lo, go_sem]
 · obtain rfl : k = l.length := by omega
   have er := Axo (a := a) (l := l) fun i h => hk2 i h h;simp (disch := omega) only [Lo, List.length_map, er, Lo, go_sem]
def E9 (n : Nat) : List UInt8 := if h : n = 0 then [] else E9 (n / 256) ++ [UInt8.ofNat (n % 256)]
decreasing_by omega
theorem I8 : E9 0 = [] := by unfold E9; simp
theorem Kx {n : Nat} (h : n ≠ 0) : E9 n = E9 (n / 256) ++ [UInt8.ofNat (n % 256)] := by conv => lhs; unfold E9; rw [dif_neg h]
theorem Abx {n : Nat} : 0 < (E9 n).length ↔ n ≠ 0 := by
 constructor
 · intro h e; subst e; rw [I8] at h; simp at h
 · intro h; rw [Kx h]; simp
theorem Gu : ∀ (k n : Nat), n < 256 ^ k → (E9 n).length ≤ k
 | 0, n, h => by
   have : n = 0 := by simpa using h
   subst this; rw [I8]; simp
 | k + 1, n, h => by
   by_cases hn : n = 0
   · subst hn; rw [I8]; simp
   · rw [Kx hn, List.length_append];have := Gu k (n / 256) (by
      rw [Nat.pow_succ] at h;exact Nat.div_lt_of_lt_mul (by rw [Nat.mul_comm]; exact h))
     simp; exact this
def Gq (l : List UInt8) : Nat := l.foldl (fun n c => n * 256 + c.toNat) 0
theorem N9 (l : List UInt8) (c : UInt8) : Gq (l ++ [c]) = Gq l * 256 + c.toNat := by simp [Gq]
theorem Zc (n : Nat) : Gq (E9 n) = n := by
 induction n using Nat.strongRecOn with
 | _ n ih =>
   by_cases hn : n = 0
   · subst hn; rw [I8]; rfl
   · rw [Kx hn, N9, ih _ (by omega), UInt8.toNat_ofNat'];have : n % 256 % 2 ^ 8 = n % 256 := Nat.mod_eq_of_lt (by omega);rw [this]; omega
theorem Adz {p : List UInt8 → Prop} (h0 : p []) (h1 : ∀ l c, p l → p (l ++ [c])) (l : List UInt8) : p l := by
 have key : ∀ l : List UInt8, p l.reverse := fun l => by
  induction l with
  | nil => exact h0
  | cons c l ih => rw [List.reverse_cons]; exact h1 _ _ ih
 have := key l.reverse
 rwa [List.reverse_reverse] at this
theorem Aj2 (l : List UInt8) : Gq l < 256 ^ l.length := by
 refine Adz (p := fun l => Gq l < 256 ^ l.length) (by simp [Gq]) (fun l c ih => ?_) l;rw [N9, List.length_append, List.length_singleton, Nat.pow_succ];have := c.toNat_lt;omega
theorem Azg (l : List UInt8) (c : UInt8) (h : l ≠ []) : (l ++ [c]).head? = l.head? := by cases l <;> simp_all
theorem Am3 (l : List UInt8) : E9 (Gq l) = l ↔ l.head? ≠ some 0 := by
 refine Adz (p := fun l => E9 (Gq l) = l ↔ l.head? ≠ some 0) (by simp [Gq, I8]) (fun l c ih => ?_) l;rw [N9];have hc := c.toNat_lt;have hcc : UInt8.ofNat c.toNat = c := UInt8.ofNat_toNat;by_cases hl : l = []
 · subst hl;have hv : Gq [] = 0 := rfl;rw [hv, Nat.zero_mul, Nat.zero_add, List.nil_append];simp only [List.head?_cons, ne_eq, Option.some.injEq];by_cases h0 : c.toNat = 0
   · have : c = 0 := UInt8.toNat_inj.1 (by simpa using h0);subst this;simp [I8]
   · have hne : c ≠ 0 := fun e => h0 (by rw [e]; rfl);rw [Kx h0, show c.toNat / 256 = 0 from by omega, I8, show c.toNat % 256 = c.toNat from by omega, hcc];simp [hne]
 · rw [Azg l c hl];have hlen : Gq l ≠ 0 → E9 (Gq l * 256 + c.toNat) = E9 (Gq l) ++ [c] := fun hv => by
    rw [Kx (by omega), show (Gq l * 256 + c.toNat) / 256 = Gq l from by omega, show (Gq l * 256 + c.toNat) % 256 = c.toNat from by omega, hcc]
   constructor
   · intro e;by_cases hv : Gq l = 0
     · intro hh;rw [hv, Nat.zero_mul, Nat.zero_add] at e;have h1 := congrArg List.length e;have h2 := Gu 1 c.toNat (by omega);have h3 : 0 < l.length := List.length_pos_iff.2 hl;simp at h1; omega
     · rw [hlen hv] at e;exact ih.1 (List.append_cancel_right e)
   · intro hh;have e := ih.2 hh;have hv : Gq l ≠ 0 := fun hv => by rw [hv, I8] at e; exact hl e.symm
     rw [hlen hv, e]
theorem Ap3 {l : List UInt8} (h : l.length ≤ 8) : Gq l < 18446744073709551616 := by
 have h1 := Aj2 l;have h2 : 256 ^ l.length ≤ 256 ^ 8 := Nat.pow_le_pow_right (by omega) h;omega
def Dx (l : List UInt8) : Nat × Int := if 8 < l.length then (0, 4) else if l.head? = some 0 then (0, 7) else (Gq l, 0)
theorem Ago (l : List UInt8) : (Dx l).1 < 18446744073709551616 := by
 unfold Dx;split
 · simp
 · split
   · simp
   · exact Ap3 (by omega)
def Gg (f : List UInt8) : List UInt8 := if f.length < 255 then UInt8.ofNat f.length :: f else 255 :: UInt8.ofNat (f.length / 256) :: UInt8.ofNat f.length :: f
def Cz : List (List UInt8) → List UInt8
 | [] => []
 | f :: l => Gg f ++ Cz l
theorem Zn : ∀ (a b : List (List UInt8)), Cz (a ++ b) = Cz a ++ Cz b
 | [], b => rfl
 | f :: a, b => by simp only [List.cons_append, Cz, Zn a b, List.append_assoc]
theorem Aco {f : List UInt8} (h : f.length < 255) : Gg f = UInt8.ofNat f.length :: f := if_pos h
theorem Af0 {f : List UInt8} (h : ¬ f.length < 255) : Gg f = 255 :: UInt8.ofNat (f.length / 256) :: UInt8.ofNat f.length :: f := if_neg h
theorem Mp (f : List UInt8) : (Gg f).length = f.length + if f.length < 255 then 1 else 3 := by
 unfold Gg; split <;> simp
theorem Aon (f : List UInt8) : Gg f ≠ [] := by unfold Gg; split <;> simp
def Cl (l : List UInt8) : Nat × Nat × Int :=
 if (l.getD 0 0).toNat < 255 then ((l.getD 0 0).toNat, 1, 0)
 else if l.length < 3 then (0, 0, 8)
 else if (l.getD 1 0).toNat * 256 + (l.getD 2 0).toNat < 255 then (0, 0, 7)
 else ((l.getD 1 0).toNat * 256 + (l.getD 2 0).toNat, 3, 0)
def Ru (l : List UInt8) : Int := if (Cl l).2.2 = 0 then if l.length < (Cl l).2.1 + (Cl l).1 then 8 else 0 else (Cl l).2.2
def Aft (l : List UInt8) : List UInt8 := (l.drop (Cl l).2.1).take (Cl l).1
def Aed (l : List UInt8) : List UInt8 := l.drop ((Cl l).2.1 + (Cl l).1)
theorem Aiq {l : List UInt8} (h : (Cl l).2.2 = 0) : 1 ≤ (Cl l).2.1 := by
 unfold Cl at *;split
 · simp
 · rename_i h1;rw [if_neg h1] at h;split
   · rename_i h2; rw [if_pos h2] at h; simp at h
   · rename_i h2;rw [if_neg h2] at h;split
     · rename_i h3; rw [if_pos h3] at h; simp at h
     · simp
theorem Aoq {l : List UInt8} (h : Ru l = 0) : (Cl l).2.2 = 0 ∧ (Cl l).2.1 + (Cl l).1 ≤ l.length := by
 unfold Ru at h;split at h
 · rename_i h1;split at h
   · cases h
   · exact ⟨h1, by omega⟩
 · rename_i h1; exact absurd h h1
theorem Akg {l : List UInt8} (hl : l ≠ []) (h : Ru l = 0) : (Aed l).length < l.length := by
 obtain ⟨h1, h2⟩ := Aoq h;have := Aiq h1;have := List.length_pos_iff.2 hl;unfold Aed;rw [List.length_drop]; omega
def C9 (l : List UInt8) (out : List (List UInt8)) (most : Int) : List (List UInt8) × Int :=
 if hl : l = [] then (out, 0)
 else if h : Ru l = 0 then
  if most ≤ out.length then ([], 4) else C9 (Aed l) (out ++ [Aft l]) most
 else ([], Ru l)
termination_by l.length
decreasing_by exact Akg hl h
theorem Tr (out most) : C9 [] out most = (out, 0) := by rw [C9]; simp
theorem Adi {l out most} (hl : l ≠ []) (h : Ru l ≠ 0) : C9 l out most = ([], Ru l) := by rw [C9, dif_neg hl, dif_neg h]
theorem Aav {l out} {most : Int} (hl : l ≠ []) (h : Ru l = 0) (hm : most ≤ out.length) : C9 l out most = ([], 4) := by rw [C9, dif_neg hl, dif_pos h, if_pos hm]
theorem Vw {l out} {most : Int} (hl : l ≠ []) (h : Ru l = 0) (hm : ¬ most ≤ out.length) : C9 l out most = C9 (Aed l) (out ++ [Aft l]) most := by rw [C9, dif_neg hl, dif_pos h, if_neg hm]
theorem Ng {n : Nat} (h : n < 256) : (UInt8.ofNat n).toNat = n := by rw [UInt8.toNat_ofNat']; exact Nat.mod_eq_of_lt h
theorem P6 (f r : List UInt8) (hf : f.length ≤ 65535) : Cl (Gg f ++ r) = (f.length, (if f.length < 255 then 1 else 3), 0) := by
 unfold Cl Gg;by_cases h : f.length < 255
 · simp only [if_pos h, List.cons_append, List.getD_cons_zero];rw [Ng (by omega), if_pos h]
 · simp only [if_neg h, List.cons_append, List.getD_cons_zero, List.getD_cons_succ, List.length_cons];rw [if_neg (by decide), if_neg (by omega), Ng (by omega), UInt8.toNat_ofNat'];have : f.length / 256 * 256 + f.length % 2 ^ 8 = f.length := by omega
   rw [this, if_neg h]
theorem Xm (f r : List UInt8) : (Gg f ++ r).drop (if f.length < 255 then 1 else 3) = f ++ r := by
 unfold Gg;by_cases h : f.length < 255
 · simp [if_pos h]
 · simp [if_neg h]
theorem Aop (f r : List UInt8) (hf : f.length ≤ 65535) : Ru (Gg f ++ r) = 0 := by
 unfold Ru;rw [P6 f r hf];simp only [if_true];rw [if_neg];rw [List.length_append, Mp];omega
theorem Aoh (f r : List UInt8) (hf : f.length ≤ 65535) : Aft (Gg f ++ r) = f := by
 unfold Aft;rw [P6 f r hf];simp only;rw [Xm, List.take_left]
theorem Amk (f r : List UInt8) (hf : f.length ≤ 65535) : Aed (Gg f ++ r) = r := by
 unfold Aed;rw [P6 f r hf];simp only;rw [← List.drop_drop, Xm, List.drop_left]
theorem Tq (r : List UInt8) : ∀ (l out : List (List UInt8)) (most : Int), (∀ f ∈ l, f.length ≤ 65535) → (out.length + l.length : Int) ≤ most → C9 (Cz l ++ r) out most = C9 r (out ++ l) most
 | [], out, most, _, _ => by simp [Cz]
 | f :: l, out, most, hl, hm => by
   simp only [Cz, List.append_assoc];have hf := hl f List.mem_cons_self;simp only [List.length_cons] at hm;rw [Vw (by simp [Aon]) (Aop f _ hf) (by omega), Aoh f _ hf, Amk f _ hf];rw [Tq r l (out ++ [f]) most (fun g hg => hl g (List.mem_cons_of_mem _ hg)) (by simp; omega)];simp
theorem Ll (l : List (List UInt8)) (most : Int) (hl : ∀ f ∈ l, f.length ≤ 65535) (hm : (l.length : Int) ≤ most) : C9 (Cz l) [] most = (l, 0) := by
 have := Tq [] l [] most hl (by simpa using hm);rw [List.append_nil] at this;rw [this, Tr]; simp
theorem Oi {a b : List (List UInt8)} (ha : ∀ f ∈ a, f.length ≤ 65535) (hb : ∀ f ∈ b, f.length ≤ 65535) : Cz a = Cz b ↔ a = b := by
 constructor
 · intro h;have h1 := Ll a (max a.length b.length : Nat) ha (by omega);have h2 := Ll b (max a.length b.length : Nat) hb (by omega);rw [h] at h1;rw [h1] at h2;exact congrArg Prod.fst h2
 · rintro rfl; rfl
def Ea (n : Nat) : List UInt8 := UInt8.ofNat (E9 n).length :: E9 n
def Bo (p : Nat → Bool) : Nat → Nat
 | 0 => 0
 | k + 1 => if p k = true then Bo p k + 2 ^ k else Bo p k
theorem Ix (p : Nat → Bool) : ∀ k, Bo p k < 2 ^ k
 | 0 => by simp [Bo]
 | k + 1 => by
   have := Ix p k;simp only [Bo];rw [Nat.pow_succ];split <;> omega
theorem L7 (p : Nat → Bool) (i : Nat) : ∀ k, Bo p k / 2 ^ i % 2 = if i < k ∧ p i = true then 1 else 0
 | 0 => by simp [Bo]
 | k + 1 => by
   have ih := L7 p i k;have hlt := Ix p k;simp only [Bo];by_cases hk : p k = true
   · rw [if_pos hk];by_cases h1 : i < k
     · have e : 2 ^ k = 2 * (2 ^ (k - 1 - i)) * 2 ^ i := by
        rw [← Nat.pow_succ', ← Nat.pow_add]; congr 1; omega
       rw [e, Nat.add_mul_div_right _ _ (Nat.two_pow_pos i)];rw [Nat.add_mul_mod_self_left, ih];simp [h1, show i < k + 1 from by omega]
     · by_cases h2 : i = k
       · subst h2;rw [Nat.add_div_right _ (Nat.two_pow_pos i), Nat.div_eq_of_lt hlt];simp [hk]
       · have h3 : Bo p k + 2 ^ k < 2 ^ i := by
          have : 2 ^ (k + 1) ≤ 2 ^ i := Nat.pow_le_pow_right (by omega) (by omega);rw [Nat.pow_succ] at this; omega
         rw [Nat.div_eq_of_lt h3, if_neg (by omega)]
   · rw [if_neg hk, ih];by_cases h2 : i = k
     · subst h2; simp [hk]
     · have : (i < k) ↔ (i < k + 1) := by omega
       simp only [this]
theorem Alw (m s i : Nat) : (m &&& s).testBit i = (decide (m / 2 ^ i % 2 = 1) && decide (s / 2 ^ i % 2 = 1)) := by
 rw [Nat.testBit_and, Nat.testBit_eq_decide_div_mod_eq, Nat.testBit_eq_decide_div_mod_eq]
theorem Avv {m s : Nat} (hm : m < 256) : m &&& s = 0 ↔ ∀ i, i < 8 → ¬ (m / 2 ^ i % 2 = 1 ∧ s / 2 ^ i % 2 = 1) := by
 constructor
 · intro h i _ ⟨h1, h2⟩;have := Alw m s i;rw [h, Nat.zero_testBit, decide_eq_true h1, decide_eq_true h2] at this;cases this
 · intro h;apply Nat.eq_of_testBit_eq;intro i;rw [Alw, Nat.zero_testBit];by_cases hi : i < 8
   · have := h i hi;by_cases h1 : m / 2 ^ i % 2 = 1
     · have h2 : ¬ s / 2 ^ i % 2 = 1 := fun h2 => this ⟨h1, h2⟩;rw [decide_eq_false h2, Bool.and_false]
     · rw [decide_eq_false h1, Bool.false_and]
   · have h3 : m < 2 ^ i := Nat.lt_of_lt_of_le hm (by
      have : 2 ^ 8 ≤ 2 ^ i := Nat.pow_le_pow_right (by omega) (by omega);exact this)
     have h1 : ¬ m / 2 ^ i % 2 = 1 := by rw [Nat.div_eq_of_lt h3]; simp
     rw [decide_eq_false h1, Bool.false_and]
def dA (x y : Nat) : List UInt8 := if y < x then Ea (x - y) else if x < y then Ea (y - x) else []
def R2 (v base : Nat → Nat) : Nat → List UInt8
 | 0 => []
 | k + 1 => R2 v base k ++ dA (v k) (base k)
def Fg (v base : Nat → Nat) : Nat → Nat → List UInt8
 | i, 0 => []
 | i, n + 1 => dA (v i) (base i) ++ Fg v base (i + 1) n
theorem Uj (v base : Nat → Nat) : ∀ n i, Fg v base i (n + 1) = Fg v base i n ++ dA (v (i + n)) (base (i + n))
 | 0, i => by simp [Fg]
 | n + 1, i => by
   have := Uj v base n (i + 1);rw [Fg, this, Fg, List.append_assoc, show i + 1 + n = i + (n + 1) from by omega]
theorem Aag (v base : Nat → Nat) : ∀ k, R2 v base k = Fg v base 0 k
 | 0 => rfl
 | k + 1 => by rw [R2, Aag v base k, Uj, Nat.zero_add]
def Dl (v base : Nat → Nat) (i : Nat) : Bool := decide (base i < v i)
def Da (v base : Nat → Nat) (i : Nat) : Bool := decide (v i < base i)
def C2 (v base : Nat → Nat) : List UInt8 := UInt8.ofNat (Bo (Dl v base) 8) :: UInt8.ofNat (Bo (Da v base) 8) :: R2 v base 8
theorem J7 {n : Nat} (h : n < 4294967296) : (Ea n).length ≤ 5 := by
 have := Gu 4 n h;simp [Ea]; omega
theorem X0 (v base : Nat → Nat) (hv : ∀ i, i < 8 → v i < 4294967296) (hb : ∀ i, i < 8 → base i < 4294967296) : ∀ k, k ≤ 8 → (R2 v base k).length ≤ 5 * k
 | 0, _ => by simp [R2]
 | k + 1, h => by
   have := X0 v base hv hb k (by omega);have h1 := hv k (by omega);have h2 := hb k (by omega);simp only [R2, List.length_append];have : (dA (v k) (base k)).length ≤ 5 := by
    unfold dA;split
    · exact J7 (by omega)
    · split
      · exact J7 (by omega)
      · simp
   omega
inductive RdR where
 | skip
 | err (e : Int)
 | val (x : Int) (rest : List UInt8)
def Ij (sg : Int) (rest : List UInt8) : RdR :=
 if rest.length = 0 ∨ rest.length - 1 < (rest.getD 0 0).toNat then .err 8
 else if (Dx ((rest.take (1 + (rest.getD 0 0).toNat)).drop 1)).2 ≠ 0 ∨ (Dx ((rest.take (1 + (rest.getD 0 0).toNat)).drop 1)).1 = 0 ∨ 4294967295 < (Dx ((rest.take (1 + (rest.getD 0 0).toNat)).drop 1)).1 then .err 7
 else .val (sg * ((Dx ((rest.take (1 + (rest.getD 0 0).toNat)).drop 1)).1 : Int)) (rest.drop (1 + (rest.getD 0 0).toNat))
def I4 (m s i : Nat) (rest : List UInt8) : RdR :=
 if s / 2 ^ i % 2 = 1 then Ij (-1) rest else if m / 2 ^ i % 2 = 0 then .skip else Ij 1 rest
def Ym : Nat → Int := fun _ => 0
def Yq (a : Nat → Int) (k : Nat) (x : Int) : Nat → Int := fun i => if i = k then x else a i
def E5 (m s : Nat) : Nat → Nat → (Nat → Int) → List UInt8 → (Nat → Int) × Int
 | 0, i, t, rest => if rest.length = 0 then (t, 0) else (Ym, 4)
 | n + 1, i, t, rest => match I4 m s i rest with
   | .skip => E5 m s n (i + 1) t rest
   | .err e => (Ym, e)
   | .val x rest' => E5 m s n (i + 1) (Yq t i x) rest'
def Cy (l : List UInt8) : (Nat → Int) × Int :=
 if l.length < 2 then (Ym, 8)
 else if (l.getD 0 0).toNat &&& (l.getD 1 0).toNat ≠ 0 then (Ym, 7)
 else E5 (l.getD 0 0).toNat (l.getD 1 0).toNat 8 0 Ym (l.drop 2)
theorem Lw (m s : Nat) : ∀ n i t rest, (∀ j, -4294967296 < t j ∧ t j < 4294967296) → ∀ j, -4294967296 < (E5 m s n i t rest).1 j ∧ (E5 m s n i t rest).1 j < 4294967296
 | 0, i, t, rest, h, j => by
   simp only [E5];split
   · exact h j
   · simp [Ym]
 | n + 1, i, t, rest, h, j => by
   simp only [E5];split
   · exact Lw m s n _ _ _ h j
   · simp [Ym]
   · rename_i x rest' hx;refine Lw m s n _ _ _ (fun k => ?_) j;unfold Yq;split
     · have key : ∀ sg : Int, (sg = 1 ∨ sg = -1) → Ij sg rest = .val x rest' → -4294967296 < x ∧ x < 4294967296 := fun sg hsg he => by
        unfold Ij at he;split at he
        · cases he
        · split at he
          · cases he
          · rename_i hn;cases he;generalize (Dx ((rest.take (1 + (rest.getD 0 0).toNat)).drop 1)).1 = q at hn;rcases hsg with rfl | rfl <;> omega
       unfold I4 at hx;split at hx
       · exact key _ (.inr rfl) hx
       · split at hx
         · cases hx
         · exact key _ (.inl rfl) hx
     · exact h k
theorem Aei (l : List UInt8) (j : Nat) : -4294967296 < (Cy l).1 j ∧ (Cy l).1 j < 4294967296 := by
 unfold Cy;split
 · simp [Ym]
 · split
   · simp [Ym]
   · exact Lw _ _ _ _ _ _ (fun j => by simp [Ym]) j
theorem X7 {n : Nat} (h : n < 18446744073709551616) : Dx (E9 n) = (n, 0) := by
 have hl := Gu 8 n h;have hh := (Am3 (E9 n)).1 (by rw [Zc]);unfold Dx;rw [if_neg (by omega), if_neg hh, Zc]
theorem Q0 (sg : Int) (n : Nat) (h0 : n ≠ 0) (h : n < 4294967296) (rest : List UInt8) : Ij sg (Ea n ++ rest) = .val (sg * n) rest := by
 have hl := Gu 4 n h;have e0 : ((Ea n ++ rest).getD 0 0).toNat = (E9 n).length := by
  simp only [Ea, List.cons_append, List.getD_cons_zero];rw [UInt8.toNat_ofNat'];exact Nat.mod_eq_of_lt (by omega)
 have e1 : ((Ea n ++ rest).take (1 + (E9 n).length)).drop 1 = E9 n := by
  rw [Nat.add_comm];simp only [Ea, List.cons_append, List.take_succ_cons, List.drop_succ_cons, List.drop_zero];exact List.take_left' rfl
 have e2 : (Ea n ++ rest).drop (1 + (E9 n).length) = rest := by
  rw [Nat.add_comm];simp only [Ea, List.cons_append, List.drop_succ_cons];exact List.drop_left' rfl
 unfold Ij;rw [e0, e1, e2, X7 (by omega)];rw [if_neg (by simp [Ea]), if_neg (by simp; omega)]
theorem Og (v base : Nat → Nat) (hv : ∀ i, i < 8 → v i < 4294967296) (hb : ∀ i, i < 8 → base i < 4294967296) : ∀ n i t, i + n = 8 →
 (E5 (Bo (Dl v base) 8) (Bo (Da v base) 8) n i t (Fg v base i n)).2 = 0 ∧ ∀ j, (E5 (Bo (Dl v base) 8) (Bo (Da v base) 8) n i t (Fg v base i n)).1 j = if i ≤ j ∧ j < 8 ∧ v j ≠ base j then (v j : Int) - base j else t j
 | 0, i, t, h => by
   simp only [E5, Fg, List.length_nil, if_true];refine ⟨trivial, fun j => ?_⟩;rw [if_neg (by omega)]
 | n + 1, i, t, h => by
   have h1 := hv i (by omega);have h2 := hb i (by omega);have bm := L7 (Dl v base) i 8;have bl := L7 (Da v base) i 8;simp only [E5, Fg];rcases Nat.lt_trichotomy (v i) (base i) with hc | hc | hc
   · have e1 : Da v base i = true := by simp [Da, hc]
     rw [e1, if_pos ⟨by omega, rfl⟩] at bl;have e2 : I4 (Bo (Dl v base) 8) (Bo (Da v base) 8) i (dA (v i) (base i) ++ Fg v base (i + 1) n) = .val (-1 * ((base i - v i : Nat) : Int)) (Fg v base (i + 1) n) := by
      unfold I4 dA;rw [if_pos bl, if_neg (by omega), if_pos hc];exact Q0 _ _ (by omega) (by omega) _
     rw [e2];obtain ⟨r1, r2⟩ := Og v base hv hb n (i + 1) (Yq t i (-1 * ((base i - v i : Nat) : Int))) (by omega);refine ⟨r1, fun j => ?_⟩;simp only [r2];unfold Yq;by_cases hj : j = i
     · subst hj; rw [if_neg (by omega), if_pos rfl, if_pos ⟨by omega, by omega, by omega⟩]; omega
     · rw [if_neg hj];by_cases hj2 : i + 1 ≤ j ∧ j < 8 ∧ v j ≠ base j
       · rw [if_pos hj2, if_pos ⟨by omega, hj2.2⟩]
       · rw [if_neg hj2, if_neg (fun hx => hj2 ⟨by omega, hx.2⟩)]
   · have e1 : Da v base i = false := by simp [Da, hc]
     have e1' : Dl v base i = false := by simp [Dl, hc]
     rw [e1, if_neg (by simp)] at bl;rw [e1', if_neg (by simp)] at bm;have e2 : I4 (Bo (Dl v base) 8) (Bo (Da v base) 8) i (dA (v i) (base i) ++ Fg v base (i + 1) n) = .skip := by
      unfold I4;rw [if_neg (by omega), if_pos bm]
     have e3 : dA (v i) (base i) = [] := by unfold dA; rw [if_neg (by omega), if_neg (by omega)]
     rw [e2, e3, List.nil_append];obtain ⟨r1, r2⟩ := Og v base hv hb n (i + 1) t (by omega);refine ⟨r1, fun j => ?_⟩;simp only [r2];by_cases hj2 : i + 1 ≤ j ∧ j < 8 ∧ v j ≠ base j
     · rw [if_pos hj2, if_pos ⟨by omega, hj2.2⟩]
     · rw [if_neg hj2, if_neg (fun hx => hj2 ⟨by
        by_cases e : j = i
        · subst e; exact absurd hc hx.2.2
        · omega, hx.2⟩)]
   · have e1 : Da v base i = false := by simp [Da]; omega
     have e1' : Dl v base i = true := by simp [Dl, hc]
     rw [e1, if_neg (by simp)] at bl;rw [e1', if_pos ⟨by omega, rfl⟩] at bm;have e2 : I4 (Bo (Dl v base) 8) (Bo (Da v base) 8) i (dA (v i) (base i) ++ Fg v base (i + 1) n) = .val (1 * ((v i - base i : Nat) : Int)) (Fg v base (i + 1) n) := by
      unfold I4 dA;rw [if_neg (by omega), if_neg (by omega), if_pos hc];exact Q0 _ _ (by omega) (by omega) _
     rw [e2];obtain ⟨r1, r2⟩ := Og v base hv hb n (i + 1) (Yq t i (1 * ((v i - base i : Nat) : Int))) (by omega);refine ⟨r1, fun j => ?_⟩;simp only [r2];unfold Yq;by_cases hj : j = i
     · subst hj; rw [if_neg (by omega), if_pos rfl, if_pos ⟨by omega, by omega, by omega⟩]; omega
     · rw [if_neg hj];by_cases hj2 : i + 1 ≤ j ∧ j < 8 ∧ v j ≠ base j
       · rw [if_pos hj2, if_pos ⟨by omega, hj2.2⟩]
       · rw [if_neg hj2, if_neg (fun hx => hj2 ⟨by omega, hx.2⟩)]
theorem Ass (p : Nat → Bool) : (UInt8.ofNat (Bo p 8)).toNat = Bo p 8 := by
 rw [UInt8.toNat_ofNat'];exact Nat.mod_eq_of_lt (Ix p 8)
theorem Abk (v base : Nat → Nat) (hv : ∀ i, i < 8 → v i < 4294967296) (hb : ∀ i, i < 8 → base i < 4294967296) :
 (Cy (C2 v base)).2 = 0 ∧ ∀ j, j < 8 → (Cy (C2 v base)).1 j = (v j : Int) - base j := by
 have hz : Bo (Dl v base) 8 &&& Bo (Da v base) 8 = 0 := (Avv (Ix _ 8)).2 fun i hi ⟨h1, h2⟩ => by
  rw [L7] at h1 h2;simp only [Dl, Da, decide_eq_true_eq] at h1 h2;split at h1 <;> split at h2 <;> omega
 have e : Cy (C2 v base) = E5 (Bo (Dl v base) 8) (Bo (Da v base) 8) 8 0 Ym (Fg v base 0 8) := by
  unfold Cy;rw [if_neg (by simp [C2])];simp only [C2, List.getD_cons_zero, List.getD_cons_succ, Ass, List.drop_succ_cons, List.drop_zero];rw [if_neg (by rw [hz]; simp), Aag]
 rw [e];obtain ⟨r1, r2⟩ := Og v base hv hb 8 0 Ym (by omega);refine ⟨r1, fun j hj => ?_⟩;rw [r2];by_cases h : v j = base j
 · rw [if_neg (fun hx => hx.2.2 h), h]; simp [Ym]
 · rw [if_pos ⟨by omega, hj, h⟩]
def P8 (l : List UInt8) (base : Nat → Nat) : Prop := ∀ i, i < 8 → 0 ≤ (base i : Int) + (Cy l).1 i ∧ (base i : Int) + (Cy l).1 i ≤ 4294967295
instance (l : List UInt8) (base : Nat → Nat) : Decidable (P8 l base) := inferInstanceAs (Decidable (∀ i, i < 8 → 0 ≤ (base i : Int) + (Cy l).1 i ∧ (base i : Int) + (Cy l).1 i ≤ 4294967295))
def J2 (l : List UInt8) (base : Nat → Nat) : (Nat → Nat) × Int :=
 if (Cy l).2 ≠ 0 then (fun _ => 0, (Cy l).2)
 else if P8 l base then (fun i => ((base i : Int) + (Cy l).1 i).toNat, 0) else (fun _ => 0, 7)
theorem Mj (v base : Nat → Nat) (hv : ∀ i, i < 8 → v i < 4294967296) (hb : ∀ i, i < 8 → base i < 4294967296) :
 (J2 (C2 v base) base).2 = 0 ∧ ∀ i, i < 8 → (J2 (C2 v base) base).1 i = v i := by
 obtain ⟨r1, r2⟩ := Abk v base hv hb;have hok : P8 (C2 v base) base := fun i hi => by rw [r2 i hi]; have := hv i hi; omega
 unfold J2;rw [if_neg (by rw [r1]; simp), if_pos hok];refine ⟨rfl, fun i hi => ?_⟩;show ((base i : Int) + (Cy (C2 v base)).1 i).toNat = v i;rw [r2 i hi]; omega
theorem Yp {v w base b2 : Nat → Nat} (h : ∀ i, i < 8 → v i = w i) (hb : ∀ i, i < 8 → base i = b2 i) : C2 v base = C2 w b2 := by
 have e1 : ∀ k, k ≤ 8 → Bo (Dl v base) k = Bo (Dl w b2) k := fun k => by
  induction k with
  | zero => intro _; rfl
  | succ k ih =>
    intro hk;have em : Dl v base k = Dl w b2 k := by unfold Dl; rw [h k (by omega), hb k (by omega)]
    simp only [Bo, ih (by omega), em]
 have e2 : ∀ k, k ≤ 8 → Bo (Da v base) k = Bo (Da w b2) k := fun k => by
  induction k with
  | zero => intro _; rfl
  | succ k ih =>
    intro hk;have em : Da v base k = Da w b2 k := by unfold Da; rw [h k (by omega), hb k (by omega)]
    simp only [Bo, ih (by omega), em]
 have e3 : ∀ k, k ≤ 8 → R2 v base k = R2 w b2 k := fun k => by
  induction k with
  | zero => intro _; rfl
  | succ k ih => intro hk; simp only [R2, ih (by omega), h k (by omega), hb k (by omega)]
 unfold C2;rw [e1 8 (by omega), e2 8 (by omega), e3 8 (by omega)]
theorem Ad5 {v w base : Nat → Nat} (hv : ∀ i, i < 8 → v i < 4294967296) (hw : ∀ i, i < 8 → w i < 4294967296) (hb : ∀ i, i < 8 → base i < 4294967296) (h : C2 v base = C2 w base) : ∀ i, i < 8 → v i = w i := fun i hi => by
 have h1 := (Mj v base hv hb).2 i hi;have h2 := (Mj w base hw hb).2 i hi;rw [h] at h1; omega
theorem Jq (n : Nat) : IntKind.u8.wrap (n : Int) = ((UInt8.ofNat n).toNat : Int) := by
 rw [UInt8.toNat_ofNat'];simp [IntKind.wrap, IntKind.signed, IntKind.bits]
theorem Ql (n : Nat) : IntKind.u8.wrap (n : Int) = ((n % 256 : Nat) : Int) := by simp [IntKind.wrap, IntKind.signed, IntKind.bits]
theorem U5 (a : Nat) (h : a < 18446744073709551616) : (BitVec.ofInt 64 (a : Int)).toNat = a := by
 rw [BitVec.ofInt_natCast, BitVec.toNat_ofNat]; exact Nat.mod_eq_of_lt (by omega)
theorem Agl (a b : Nat) (ha : a < 18446744073709551616) (hb : b < 18446744073709551616) : bits .or .u64 a b = ((a ||| b : Nat) : Int) := by
 have h : a ||| b < 2 ^ 64 := Nat.or_lt_two_pow ha hb;show IntKind.u64.wrap ((BitVec.ofInt 64 (a : Int) ||| BitVec.ofInt 64 (b : Int)).toNat : Int) = _;rw [BitVec.toNat_or, U5 a ha, U5 b hb];exact Vs ⟨by omega, by omega⟩
theorem Axc (n c : Nat) (hn : n < 72057594037927936) (hc : c < 256) : bits .or .u64 ((n : Int) * 256) (c : Int) = ((n * 256 + c : Nat) : Int) := by
 rw [show (n : Int) * 256 = ((256 * n : Nat) : Int) from by omega, Agl _ _ (by omega) (by omega)];have := Nat.two_pow_add_eq_or_of_lt (i := 8) (b := c) (by omega) n;rw [show (2 : Nat) ^ 8 = 256 from rfl] at this;rw [← this]; omega
theorem Hn (l : List UInt8) : ∀ c ∈ Am l, c.all PV.flat = true := by
 intro c hc;obtain ⟨x, _, rfl⟩ := List.mem_map.1 hc;rfl
theorem R1 (l : List UInt8) (n : Nat) : (Am l).take n = Am (l.take n) := by simp [Am]
theorem G0 (l : List UInt8) (n : Nat) : (Am l).drop n = Am (l.drop n) := by simp [Am]
theorem Xz (a b : List UInt8) : Am a ++ Am b = Am (a ++ b) := by simp [Am]
theorem Axb (n k : Nat) (hk : k ≤ 7) : ((n : Nat) : Int).fdiv (2 ^ min (8 * k) 64) = ((n / 256 ^ k : Nat) : Int) := by
 rw [show min (8 * k) 64 = 8 * k from by omega];rw [Int.fdiv_eq_ediv_of_nonneg _ (by exact Int.le_of_lt (Int.pow_pos (by omega)))];rw [show (256 : Nat) ^ k = 2 ^ (8 * k) from by rw [Nat.pow_mul]];rw [Int.natCast_ediv, Int.natCast_pow]; rfl
def Adt (n j : Nat) : FS := mk [(4, .pv (.i .i64 (8 * (j : Int) - 8))), (3, .os 25), (0, .pv (.i .u64 n))] [(25, some (.row 1 (Am (E9 (n / 256 ^ j)))))]
set_option maxHeartbeats 2000000 in
theorem A1i (n : Nat) (hn : n < 18446744073709551616) {h d} : FunOk Tryz.prog 119 [.pv (.i .u64 n)] h d (.os d) [.new d (.row 1 (Am (E9 n)))] := by
 refine O1 Aq fn119 (by simp) rfl (.inl rfl) fun F => ?_;simp (disch := omega) only [ir119, go_sem];refine A1 Aq (Adt n) (fun j => j ≤ 8) (fun j => j) 8 (by omega) (Cf 6 25 (by decide) rfl (An ?_ ?_)) fun j hj => ?_
 · simp (disch := omega) only [go_sem]
 · have e : E9 (n / 256 ^ 8) = [] := by rw [Nat.div_eq_of_lt (by omega), I8]
   simp (disch := omega) only [e, go_sem];rfl
 by_cases hlt : 1 ≤ j
 · obtain ⟨k, rfl⟩ : ∃ k, j = k + 1 := ⟨j - 1, by omega⟩
   have es : (8 * ((k + 1 : Nat) : Int) - 8) = ((8 * k : Nat) : Int) := by omega
   have ed := Axb n k (by omega);have em : (n / 256 ^ (k + 1)) = n / 256 ^ k / 256 := by rw [Nat.pow_succ, Nat.div_div_eq_div_mul]
   obtain ⟨q, hq⟩ : ∃ q, q = n / 256 ^ k := ⟨_, rfl⟩
   rw [← hq] at ed em;have hc : IntKind.u8.wrap (q : Int) = ((UInt8.ofNat (q % 256)).toNat : Int) := by
    rw [Ql, UInt8.toNat_ofNat', show q % 256 % 2 ^ 8 = q % 256 from Nat.mod_eq_of_lt (by omega)]
   have hct : (UInt8.ofNat (q % 256)).toNat = q % 256 := by rw [UInt8.toNat_ofNat']; exact Nat.mod_eq_of_lt (by omega)
   have hlen := Abx (n := q / 256);have hl8 := Gu 8 (q / 256) (by
    have h1 : q ≤ n := by rw [hq]; exact Nat.div_le_self _ _
    omega)
   by_cases hq0 : q = 0
   · have e0 : (E9 (q / 256)) = [] := by rw [hq0]; exact I8
     have e1 : IntKind.u8.wrap (q : Int) = 0 := by rw [hq0]; rfl
     simp (disch := omega) only [Adt, es, ed, em, e0, e1, List.length_nil, A0, go_sem];refine Al k _ _ rfl (by omega) (by omega) ?_ ?_
     · simp (disch := omega) only [go_sem]
     · simp (disch := omega) only [go_sem];rw [← hq, hq0, I8]; try rfl
   · have hnb : E9 q = E9 (q / 256) ++ [UInt8.ofNat (q % 256)] := Kx hq0;by_cases hc0 : q % 256 = 0
     · have h256 : q / 256 ≠ 0 := by omega
       have hlp := hlen.2 h256;have hz : IntKind.u8.wrap (q : Int) = 0 := by rw [Ql, hc0]; rfl
       simp (disch := omega) only [Adt, es, ed, em, hz, A0, go_sem];refine Al k _ _ rfl (by omega) (by omega) ?_ ?_
       · simp (disch := omega) only [go_sem]
       · simp (disch := omega) only [go_sem];rw [← hq, hnb, hc0]; simp [Am]
     · simp (disch := omega) only [Adt, es, ed, em, hc, hct, A0, go_sem];refine Al k _ _ rfl (by omega) (by omega) ?_ ?_
       · simp (disch := omega) only [go_sem]
       · simp (disch := omega) only [go_sem];rw [← hq, hnb]; simp [Am, hct]
 · obtain rfl : j = 0 := by omega
   simp (disch := omega) only [Adt, Nat.pow_zero, Nat.div_one, go_sem]
theorem Al3 (l : List UInt8) (i : Nat) (h : i < l.length) : Gq (l.take (i + 1)) = Gq (l.take i) * 256 + (l.getD i 0).toNat := by
 rw [List.take_add_one, List.getElem?_eq_getElem h, Option.toList_some, N9, List.getD_eq_getElem?_getD, List.getElem?_eq_getElem h]; rfl
theorem Aat (l : List UInt8) (i : Nat) (h : i < 8) : Gq (l.take i) < 72057594037927936 := by
 have h1 := Aj2 (l.take i);have h2 : 256 ^ (l.take i).length ≤ 256 ^ 7 := Nat.pow_le_pow_right (by omega) (by simp; omega);omega
theorem Any {l : List UInt8} (h : 0 < l.length) : (l.getD 0 0).toNat = 0 ↔ l.head? = some 0 := by
 cases l with
 | nil => simp at h
 | cons c l =>
   simp only [List.getD_cons_zero, List.head?_cons, Option.some.injEq];exact ⟨fun e => UInt8.toNat_inj.1 (by simpa using e), fun e => by rw [e]; rfl⟩
def Qr (full : Bool) (z : Nat) (l : List UInt8) (i : Nat) : FS := mk [(23, .pv (.i .i64 i)), (22, .pv (.i .i64 l.length)), (21, .pv (.sl full z (Am l))), (4, .pv (.i .u64 (Gq (l.take i))))] []
set_option maxHeartbeats 1000000 in
theorem Abv {a : SV} {l : List UInt8} {full : Bool} {z : Nat} (hl : l.length < 4611686018427387904) {h} {d} (ha : Bc [a] = true) (he : Ir h a = .pv (.sl full z (Am l))) (hz : l = [] ∨ z = 1) :
 FunOk Tryz.prog 122 [a] h d (.tup [.pv (.i .u64 (Dx l).1), .pv (.i .i64 (Dx l).2)]) [] := by
 refine Cx Aq fn122 (by simp) ha rfl fun F => ?_;by_cases h8 : 8 < l.length
 · have e : Dx l = (0, 4) := by unfold Dx; rw [if_pos h8]
   simp (disch := omega) only [ir122, he, e, go_sem]
 by_cases h0 : l.length = 0
 · obtain rfl : l = [] := List.eq_nil_of_length_eq_zero h0;have e : Dx [] = (0, 0) := rfl;simp (disch := omega) only [ir122, he, e, List.length_nil, go_sem];refine A1 Aq (Qr full z []) (fun j => j ≤ 0) (fun j => 0 - j) 0 (by omega) (An ?_ ?_) fun j hj => ?_
   · simp (disch := omega) only [List.take_nil, Gq, List.foldl_nil, List.length_nil, go_sem]
   · simp (disch := omega) only [go_sem]
   obtain rfl : j = 0 := by omega
   simp (disch := omega) only [Qr, List.take_nil, Gq, List.foldl_nil, List.length_nil, go_sem]
 have hz1 : z = 1 := hz.resolve_left (fun e => by subst e; simp at h0);subst hz1;have hd := Any (l := l) (by omega);by_cases hh : l.head? = some 0
 · have e : Dx l = (0, 7) := by unfold Dx; rw [if_neg h8, if_pos hh]
   have e1 := hd.2 hh;simp (disch := omega) only [ir122, he, e, Bw, e1, go_sem]
 · have e : Dx l = (Gq l, 0) := by unfold Dx; rw [if_neg h8, if_neg hh]
   have e1 : ¬ (((l.getD 0 0).toNat : Nat) : Int) = 0 := fun e => hh (hd.1 (by omega));simp (disch := omega) only [ir122, he, e, Bw, e1, go_sem];refine A1 Aq (Qr full 1 l) (fun j => j ≤ l.length) (fun j => l.length - j) 0 (by omega) (An ?_ ?_) fun j hj => ?_
   · simp (disch := omega) only [List.take_zero, Gq, List.foldl_nil, go_sem]
   · simp (disch := omega) only [go_sem]
   by_cases hlt : j < l.length
   · have e2 := Al3 l j hlt;have e3 := Aat l j (by omega);have e4 := (l.getD j 0).toNat_lt;have e5 := Axc _ _ e3 (by omega : (l.getD j 0).toNat < 256);have e6 : ((2 : Int) ^ min (Int.toNat 8) 64) = 256 := rfl;have e7 : IntKind.u64.wrap (((l.getD j 0).toNat : Nat) : Int) = ((l.getD j 0).toNat : Int) := Vs (by omega);rw [← e2] at e5;simp (disch := omega) only [Qr, Bw, e6, e7, e5, go_sem];refine Al (j + 1) _ _ rfl (by omega) (by omega) ?_ ?_
     · simp (disch := omega) only [go_sem]
     · simp (disch := omega) only [go_sem]
   · obtain rfl : j = l.length := by omega
     simp (disch := omega) only [Qr, List.take_length, go_sem]
theorem Aev (n : Nat) (hn : n < 4294967296) {h d} : FunOk Tryz.prog 95 [.pv (.i .u32 n)] h d (.os d) [.new d (.row 1 (Am (Ea n)))] := by
 refine O1 Aq fn95 (by simp) rfl (.inl rfl) fun F => ?_;have e5 := Gu 8 n (by omega);have e6 : IntKind.u8.wrap (((E9 n).length : Nat) : Int) = ((UInt8.ofNat (E9 n).length).toNat : Int) := Jq _;have e7 : [[PV.i .u8 ((UInt8.ofNat (E9 n).length).toNat : Int)]] ++ Am (E9 n) = Am (Ea n) := rfl;simp (disch := omega) only [ir95, go_sem];refine Aa (A1i n (by omega)) ?_;simp (disch := omega) only [A0, e6, go_sem];rfl
def Aj0 (es : List (List PV)) (L : List (List UInt8)) : Prop := es.length = L.length ∧ ∀ k, k < L.length → ∃ f z, es[k]? = some [.sl f z (Am (L.getD k []))] ∧ (L.getD k [] = [] ∨ z = 1)
def bE (b : List UInt8) : List PV := [.sl false 1 (Am b)]
theorem N0 (L : List (List UInt8)) : Aj0 (L.map bE) L := ⟨by simp, fun k hk => ⟨false, 1, by simp [bE, hk], .inr rfl⟩⟩
theorem Afb {f z es} (K : KK) : LoadK (some [.sl f z es]) 0 1 false K = K (.pv (.sl f z es)) [] := by
 simp only [LoadK, G5, eq_iff_iff];exact ⟨fun h => h.2.2, fun h => ⟨by simp, .inr trivial, h⟩⟩
theorem A1n {b : List UInt8} {z : Nat} (h : b = [] ∨ z = 1) : (Am b = [] ∨ z = 1) = True := eq_true (h.imp (fun e => by rw [e]; rfl) id)
theorem Ahz {L : List (List UInt8)} {k : Nat} (h : k < L.length) : Cz (L.take (k + 1)) = Cz (L.take k) ++ Gg (L.getD k []) := by
 rw [List.take_add_one, List.getElem?_eq_getElem h, Option.toList_some, Zn, List.getD_eq_getElem?_getD, List.getElem?_eq_getElem h];simp [Cz]
theorem Aqv (n c : Nat) (hn : n < 65536) (hc : c < 256) : bits .or .i64 ((n : Int) * 256) (c : Int) = ((n * 256 + c : Nat) : Int) := by
 have h : n * 256 ||| c < 2 ^ 32 := Nat.or_lt_two_pow (by omega) (by omega);rw [show (n : Int) * 256 = ((256 * n : Nat) : Int) from by omega];show IntKind.i64.wrap ((BitVec.ofInt 64 ((256 * n : Nat) : Int) ||| BitVec.ofInt 64 (c : Int)).toNat : Int) = _;rw [BitVec.toNat_or, U5 _ (by omega), U5 c (by omega)];have := Nat.two_pow_add_eq_or_of_lt (i := 8) (b := c) (by omega) n;rw [show (2 : Nat) ^ 8 = 256 from rfl] at this;rw [← this, Ep (by omega)]; omega
theorem Ax4 {x : SV} {f : Bool} {l : List UInt8} {h d} (hx : Ct h [x] = [.pv (.sl f 1 (Am l))]) (hl : Bc [x] = true) (hne : l ≠ []) (hn : l.length ≤ 400000) :
 FunOk Tryz.prog 121 [x] h d (.tup [.pv (.i .i64 (Cl l).1), .pv (.i .i64 (Cl l).2.1), .pv (.i .i64 (Cl l).2.2)]) [] := by
 refine Cx Aq fn121 (by simp) hl rfl fun F => ?_;rw [hx];have hpos : 0 < l.length := List.length_pos_iff.2 hne;by_cases h1 : (l.getD 0 0).toNat < 255
 · have e : Cl l = ((l.getD 0 0).toNat, 1, 0) := by unfold Cl; rw [if_pos h1]
   have h1' : (((l.getD 0 0).toNat : Nat) : Int) < 255 := by omega
   have e2 : IntKind.i64.wrap (((l.getD 0 0).toNat : Nat) : Int) = ((l.getD 0 0).toNat : Int) := Ep (by omega);simp (disch := omega) only [ir121, Bw, h1', e, e2, go_sem];rfl
 · have h1' : ¬ (((l.getD 0 0).toNat : Nat) : Int) < 255 := by omega
   by_cases h2 : l.length < 3
   · have e : Cl l = (0, 0, 8) := by unfold Cl; rw [if_neg h1, if_pos h2]
     simp (disch := omega) only [ir121, Bw, h1', e, go_sem]
   · have t1 : Int.toNat 1 = 1 := rfl;have t2 : Int.toNat 2 = 2 := rfl;have b1 := (l.getD 1 0).toNat_lt;have b2 := (l.getD 2 0).toNat_lt;have w1 : IntKind.i64.wrap (((l.getD 1 0).toNat : Nat) : Int) = ((l.getD 1 0).toNat : Int) := Ep (by omega);have w2 : IntKind.i64.wrap (((l.getD 2 0).toNat : Nat) : Int) = ((l.getD 2 0).toNat : Int) := Ep (by omega);have e6 : ((2 : Int) ^ min (Int.toNat 8) 64) = 256 := rfl;have w3 : IntKind.i64.wrap (((l.getD 1 0).toNat : Int) * 256) = ((l.getD 1 0).toNat : Int) * 256 := Ep (by omega);have hor : bits .or .i64 (((l.getD 1 0).toNat : Int) * 256) ((l.getD 2 0).toNat : Int) = (((l.getD 1 0).toNat * 256 + (l.getD 2 0).toNat : Nat) : Int) := Aqv _ _ (by omega) (by omega);by_cases h3 : (l.getD 1 0).toNat * 256 + (l.getD 2 0).toNat < 255
     · have e : Cl l = (0, 0, 7) := by unfold Cl; rw [if_neg h1, if_neg h2, if_pos h3]
       have h3' : (((l.getD 1 0).toNat * 256 + (l.getD 2 0).toNat : Nat) : Int) < 255 := by omega
       simp (disch := omega) only [ir121, Bw, h1', e, t1, t2, w1, w2, e6, w3, hor, h3', go_sem]
     · have e : Cl l = ((l.getD 1 0).toNat * 256 + (l.getD 2 0).toNat, 3, 0) := by unfold Cl; rw [if_neg h1, if_neg h2, if_neg h3]
       have h3' : ¬ (((l.getD 1 0).toNat * 256 + (l.getD 2 0).toNat : Nat) : Int) < 255 := by omega
       simp (disch := omega) only [ir121, Bw, h1', e, t1, t2, w1, w2, e6, w3, hor, h3', go_sem];rfl
theorem Ar2 {f : Bool} {z : Nat} {l : List UInt8} {h d} (hz : l = [] ∨ z = 1) (hn : l.length ≤ 400000) :
 FunOk Tryz.prog 97 [.pv (.sl f z (Am l))] h d (.fn (.func 120) [.pi 1 [[.sl false 1 (Am l)]] 0 0]) [] := by
 refine Tb Aq fn97 (by simp) rfl rfl fun F => ?_;have hz' := A1n hz;simp (disch := omega) only [ir97, hz', A0, go_sem];refine ⟨_, Eu 6 rfl (Awb 3 (x := .pv (.sl false 1 (Am l))) (cs := [.sl false 1 (Am l)]) rfl rfl (.same _)), ?_⟩
 (try simp only [Ak, Aj, Ai, Ah, Ag, Af, Ae, Ad]); simp (disch := omega) only [go_sem]
def A2v (l : Nat) (most : Int) (r : List UInt8) (o : List (List UInt8)) : FS := mk [(3, .pv (.sl false 1 (Am r))), (0, .fn (.yield l) []), (1000000, .pv (.i .i64 0)), (1000004, .p 3 0), (1000005, .p 4 0), (1000006, .p 5 0), (1000007, .p 6 0)]
 [(3, some (.var (.pv (.i .i64 most)))), (4, some (.var (.pv (.sl true 0 [])))), (5, some (.var (.pv (.i .i64 0)))), (6, some (.var (.os 50))), (50, some (.row 1 (o.map bE)))]
theorem Atp (l : List UInt8) : (Cl l).1 < 65536 ∧ (Cl l).2.1 ≤ 3 ∧ 0 ≤ (Cl l).2.2 ∧ (Cl l).2.2 ≤ 8 := by
 have b0 := (l.getD 0 0).toNat_lt;have b1 := (l.getD 1 0).toNat_lt;have b2 := (l.getD 2 0).toNat_lt;unfold Cl;split
 · simp only; omega
 · split
   · simp
   · split
     · simp
     · simp only; omega
theorem Ahy : ∀ p ∈ [11, 12], p < Eo := by
 intro p hp;have : Eo = 1000000 := rfl;simp at hp; omega
set_option maxHeartbeats 4000000 in
theorem Aeq {f : Bool} {z : Nat} {b : List UInt8} {most : Int} {h d} (hz : b = [] ∨ z = 1) (hn : b.length ≤ 300000) :
 FunOk Tryz.prog 60 [.pv (.sl f z (Am b)), .pv (.i .i64 most)] h d (.tup [.os d, .pv (.i .i64 (C9 b [] most).2)]) [.new d (.row 1 ((C9 b [] most).1.map bE))] := by
 refine Aob Aq fn60 (by simp) rfl (.inl rfl) rfl fun F => ?_;simp (disch := omega) only [ir60, go_sem];refine Aa (Ar2 hz (by omega)) ?_;simp (disch := omega) only [go_sem];refine A3d Aq fn120 (by simp) fun l XI hc => ?_;rw [Auk _ _ _ (by show 2 ≤ 1000000; omega)];simp (disch := omega) only [ir120, Afb, List.getElem?_cons_zero, go_sem];refine A1 Aq (fun x : List UInt8 × List (List UInt8) => A2v l most x.1 x.2) (fun x => C9 b [] most = C9 x.1 x.2 most ∧ x.2.length + x.1.length ≤ 300000) (fun x => x.1.length) (b, []) ⟨rfl, by simpa using hn⟩ (Awa 6 50 1 rfl (by decide) (by decide) (An ?_ ?_)) fun x hx => ?_
 · (try simp only [Ak, Aj, Ai, Ah, Ag, Af, Ae, Ad]); simp (disch := omega) only [go_sem]
 · (try simp only [Ak, Aj, Ai, Ah, Ag, Af, Ae, Ad]); simp (disch := omega) only [go_sem]
   rfl
 obtain ⟨r, o⟩ := x;obtain ⟨hu, hlen⟩ := hx;dsimp only at hu hlen ⊢;rw [hu];by_cases hr : r = []
 · subst hr;rw [Tr]
   (try simp only [Ak, Aj, Ai, Ah, Ag, Af, Ae, Ad]); simp (disch := omega) only [A2v, A0, List.length_nil, go_sem]
 have hrp : 0 < r.length := List.length_pos_iff.2 hr;have hle := Atp r;have her : Ru r = if (Cl r).2.2 = 0 then if r.length < (Cl r).2.1 + (Cl r).1 then 8 else 0 else (Cl r).2.2 := rfl
 have hfl : Aft r = (r.drop (Cl r).2.1).take (Cl r).1 := rfl;have hrs : Aed r = r.drop ((Cl r).2.1 + (Cl r).1) := rfl;simp (disch := omega) only [A2v, A0, go_sem];refine Aa (Ax4 (f := false) (l := r) rfl rfl hr (by omega)) ?_;have hlt := fun h => Akg hr h;rcases hh : Cl r with ⟨n, fr, e⟩
 rw [hh] at hle her hfl hrs;simp only at hle her hfl hrs;have bad : Ru r ≠ 0 → C9 r o most = ([], Ru r) := fun h => Adi hr h;by_cases he0 : e = 0
 · subst he0;rw [if_pos rfl] at her;by_cases hcut : r.length < fr + n
   · rw [if_pos hcut] at her;rw [bad (by rw [her]; decide), her]
     (try simp only [Ak, Aj, Ai, Ah, Ag, Af, Ae, Ad]); simp (disch := omega) only [A0, go_sem]
     refine Ag6 Aq hc ?_ rfl fun XA XB => ?_
     · simp (disch := omega) only [go_sem]
     rw [Wg _ _ _ _ Ahy];simp (disch := omega) only [go_sem];exact .inr ⟨0, rfl, rfl, by decide⟩
   · rw [if_neg hcut] at her;have hgo := hlt her;have hfe : (r.take (fr + n)).drop fr = Aft r := by rw [hfl, List.drop_take]; congr 1; omega
     have e3 : ((fr : Int) + (n : Int)).toNat = fr + n := by omega
     have hfll : (Aft r).length ≤ 70000 := by rw [hfl, List.length_take]; omega
     (try simp only [Ak, Aj, Ai, Ah, Ag, Af, Ae, Ad]); simp (disch := omega) only [A0, e3, hfe, go_sem]
     refine Ag6 Aq hc ?_ rfl fun XA XB => ?_
     · simp (disch := omega) only [go_sem]
     rw [Wg _ _ _ _ Ahy];by_cases hfull : most ≤ o.length
     · rw [Aav hr her hfull]
       (try simp only [Ak, Aj, Ai, Ah, Ag, Af, Ae, Ad]); simp (maxSteps := 10000000) (disch := omega) only [List.length_map, go_sem]
       exact .inr ⟨0, rfl, rfl, by decide⟩
     · rw [Vw hr her hfull];simp (disch := omega) only [List.length_map, go_sem];refine ⟨(Aed r, o ++ [Aft r]), ⟨rfl, by simp only [List.length_append, List.length_singleton]; omega⟩, hgo, Cf 23 50 (by decide) rfl (An ?_ ?_)⟩
       · (try simp only [Ak, Aj, Ai, Ah, Ag, Af, Ae, Ad]); simp (disch := omega) only [e3, ← hrs, go_sem]
       · (try simp only [Ak, Aj, Ai, Ah, Ag, Af, Ae, Ad]); simp (disch := omega) only [List.map_append, List.map_cons, List.map_nil, bE, go_sem]
 · rw [if_neg he0] at her;rw [bad (by rw [her]; exact he0), her]
   (try simp only [Ak, Aj, Ai, Ah, Ag, Af, Ae, Ad]); simp (disch := omega) only [A0, go_sem]
   refine Ag6 Aq hc ?_ rfl fun XA XB => ?_
   · simp (disch := omega) only [go_sem]
   rw [Wg _ _ _ _ Ahy];simp (disch := omega) only [go_sem];exact .inr ⟨0, rfl, rfl, by decide⟩
theorem Ade (n : Nat) : IntKind.u8.wrap (((n / 256 : Nat) : Int)) = (((UInt8.ofNat (n / 256)).toNat : Nat) : Int) := Jq _
def Aa1 (f : Bool) (z : Nat) (es : List (List PV)) (L : List (List UInt8)) (k : Nat) : FS := mk [(11, .pv (.i .i64 k)), (10, .pv (.i .i64 L.length)), (9, .pv (.sl f z es)), (4, .os 50)] [(50, some (.row 1 (Am (Cz (L.take k)))))]
def Be : List (List UInt8) → Nat
 | [] => 0
 | f :: l => f.length + 3 + Be l
theorem Hh : ∀ L : List (List UInt8), (Cz L).length ≤ Be L
 | [] => Nat.le_refl _
 | f :: l => by
   have := Hh l;simp only [Cz, Be, List.length_append, Mp];split <;> omega
theorem Q5 : ∀ (L : List (List UInt8)) (k : Nat), Be (L.take k) ≤ Be L
 | [], k => by simp [Be]
 | f :: l, 0 => by simp [Be]
 | f :: l, k + 1 => by
   have := Q5 l k;simp only [List.take_succ_cons, Be]; omega
theorem T4 : ∀ {L : List (List UInt8)} {k : Nat}, k < L.length → (L.getD k []).length + 3 ≤ Be L
 | f :: l, 0, _ => by simp only [Be, List.getD_cons_zero]; omega
 | f :: l, k + 1, h => by
   have := T4 (L := l) (k := k) (by simpa using h);simp only [Be, List.getD_cons_succ]; omega
 | [], k, h => by simp at h
set_option maxHeartbeats 4000000 in
theorem Ary {x : SV} {f : Bool} {z : Nat} {es : List (List PV)} {L : List (List UInt8)} {h d} (hx : Ct h [x] = [.pv (.sl f z es)]) (hl : Bc [x] = true) (he : Aj0 es L) (hz : L = [] ∨ z = 1) (hb : Be L ≤ 300000) (hall : ∀ b ∈ L, b.length ≤ 65535) :
 FunOk Tryz.prog 59 [x] h d (.tup [.os d, .pv (.i .i64 0)]) [.new d (.row 1 (Am (Cz L)))] := by
 refine Afp Aq fn59 (by simp) hl (.inr (Hn _)) rfl fun F => ?_;rw [hx];have hel := he.1;have hLn : L.length ≤ 300000 := by
  have : ∀ L : List (List UInt8), L.length ≤ Be L := fun L => by
   induction L with
   | nil => simp
   | cons f l ih => simp only [Be, List.length_cons]; omega
  exact Nat.le_trans (this L) hb
 simp (disch := omega) only [ir59, hel, go_sem];refine A1 Aq (Aa1 f z es L) (fun k => k ≤ L.length) (fun k => L.length - k) 0 (by simp) (Cf 8 50 (by decide) rfl (An ?_ ?_)) fun k hk => ?_
 · simp (disch := omega) only [go_sem]
 · simp (disch := omega) only [go_sem];rfl
 by_cases hlt : k < L.length
 · have hz1 : z = 1 := hz.resolve_left fun e => by subst e; simp at hlt
   subst hz1;obtain ⟨f', z', hek, hz'⟩ := he.2 k hlt;have hpt := Ahz hlt;have hbk : (L.getD k []).length ≤ 65535 := by
    rw [List.getD_eq_getElem?_getD, List.getElem?_eq_getElem hlt];exact hall _ (List.getElem_mem hlt)
   have hpl := T4 hlt;have hpk := Nat.le_trans (Hh (L.take k)) (Q5 L k);generalize L.getD k [] = b at *;have hzz := A1n hz';have hwn : IntKind.u8.wrap (b.length : Int) = (((UInt8.ofNat b.length).toNat : Nat) : Int) := Jq _;by_cases hs : b.length < 255
   · rw [Aco hs] at hpt;simp (disch := omega) only [Aa1, hel, hek, Afb, A0, hzz, hwn, List.length_append, go_sem];refine ⟨k + 1, by omega, by omega, Cf 38 50 (by decide) rfl (An ?_ ?_)⟩
     · simp (disch := omega) only [go_sem]
     · simp (disch := omega) only [hpt, Am, List.map_append, List.map_cons, List.map_nil, go_sem];simp
   · rw [Af0 hs] at hpt;have e8 : ((2 : Int) ^ min (Int.toNat 8) 64) = 256 := rfl;have hsh : ((b.length : Int).fdiv 256) = ((b.length / 256 : Nat) : Int) := by
      rw [Int.fdiv_eq_ediv_of_nonneg _ (by omega)]; omega
     have hwh := Ade b.length;simp (disch := omega) only [Aa1, hel, hek, Afb, A0, hzz, e8, hsh, hwn, hwh, List.length_append, go_sem];refine ⟨k + 1, by omega, by omega, Cf 38 50 (by decide) rfl (An ?_ ?_)⟩
     · simp (disch := omega) only [go_sem]
     · simp (disch := omega) only [hpt, Am, List.map_append, List.map_cons, List.map_nil, go_sem];simp
 · obtain rfl : k = L.length := by omega
   have e := List.take_length (l := L);simp (disch := omega) only [Aa1, e, go_sem]
theorem U4 (a : Nat) (h : a < 256) : (BitVec.ofInt 8 (a : Int)).toNat = a := by
 rw [BitVec.ofInt_natCast, BitVec.toNat_ofNat]; exact Nat.mod_eq_of_lt (by omega)
theorem Ajh (a b : Nat) (ha : a < 256) (hb : b < 256) : bits .or .u8 a b = ((a ||| b : Nat) : Int) := by
 have h : a ||| b < 2 ^ 8 := Nat.or_lt_two_pow ha hb;show IntKind.u8.wrap ((BitVec.ofInt 8 (a : Int) ||| BitVec.ofInt 8 (b : Int)).toNat : Int) = _;rw [BitVec.toNat_or, U4 a ha, U4 b hb];exact Il ⟨by omega, by omega⟩
theorem Uk (a b : Nat) (ha : a < 256) (hb : b < 256) : bits .and .u8 a b = ((a &&& b : Nat) : Int) := by
 have h : a &&& b < 2 ^ 8 := Nat.and_lt_two_pow a hb;show IntKind.u8.wrap ((BitVec.ofInt 8 (a : Int) &&& BitVec.ofInt 8 (b : Int)).toNat : Int) = _;rw [BitVec.toNat_and, U4 a ha, U4 b hb];exact Il ⟨by omega, by omega⟩
theorem A3t {k : Nat} (hk : k < 8) : (1 : Int) * 2 ^ min k 8 = ((2 ^ k : Nat) : Int) := by
 rw [Nat.min_eq_left (by omega), Int.one_mul, Int.natCast_pow]; rfl
theorem Axt {k : Nat} (hk : k < 8) : 2 ^ k < 256 := by
 have : 2 ^ (k + 1) ≤ 2 ^ 8 := Nat.pow_le_pow_right (by omega) (by omega);rw [Nat.pow_succ] at this; omega
theorem Arp {m k : Nat} (hk : k < 8) (hm : m < 2 ^ k) : bits .or .u8 (m : Int) (IntKind.u8.wrap (1 * 2 ^ min k 8)) = ((m + 2 ^ k : Nat) : Int) := by
 have h1 := Axt hk;rw [A3t hk, Il (by omega), Ajh _ _ (by omega) (by omega)];have := Nat.two_pow_add_eq_or_of_lt hm 1;rw [Nat.mul_one] at this;rw [Nat.or_comm, ← this, Nat.add_comm]
theorem Agm {m i : Nat} (hm : m < 256) (hi : i < 8) : bits .and .u8 (((m : Int)).fdiv (2 ^ min i 8)) 1 = ((m / 2 ^ i % 2 : Nat) : Int) := by
 rw [Nat.min_eq_left (by omega), Int.fdiv_eq_ediv_of_nonneg _ (by exact Int.le_of_lt (Int.pow_pos (by omega)))];have e : (m : Int) / 2 ^ i = ((m / 2 ^ i : Nat) : Int) := by rw [Int.natCast_ediv, Int.natCast_pow]; rfl
 have h2 : m / 2 ^ i < 256 := Nat.lt_of_le_of_lt (Nat.div_le_self _ _) hm;rw [e, show (1 : Int) = ((1 : Nat) : Int) from rfl, Uk _ _ h2 (by omega), show (1 : Nat) = 2 ^ 1 - 1 from rfl, Nat.and_two_pow_sub_one_eq_mod]
theorem A53 {x y : Nat} (hx : x < 4294967296) (hy : y < 4294967296) : (dA x y).length ≤ 5 := by
 unfold dA;split
 · exact J7 (by omega)
 · split
   · exact J7 (by omega)
   · simp
def Nh (v base : Vc) (k : Nat) : FS := mk [(11, .pv (.i .i64 k)), (10, .vec 8 (vE v)), (7, .os 32), (6, .pv (.i .u8 (Bo (Da v base) k))), (5, .pv (.i .u8 (Bo (Dl v base) k))), (3, .p 3 0)] [(3, some (.var (.vec 8 (vE base)))), (32, some (.row 1 (Am (R2 v base k))))]
set_option maxHeartbeats 4000000 in
theorem Aru (v base : Vc) (hv : ∀ i, i < 8 → v i < 4294967296) (hb : ∀ i, i < 8 → base i < 4294967296) {h d} : FunOk Tryz.prog 57 [.vec 8 (vE v), .vec 8 (vE base)] h d (.os d) [.new d (.row 1 (Am (C2 v base)))] := by
 refine O1 Aq fn57 (by simp) rfl (.inl rfl) fun F => ?_;simp (disch := omega) only [ir57, go_sem];refine A1 Aq (Nh v base) (fun k => k ≤ 8) (fun k => 8 - k) 0 (by simp) (Na 7 32 1 rfl (by omega) (An ?_ ?_)) fun k hk => ?_
 · simp (disch := omega) only [Bo, go_sem]
 · simp (disch := omega) only [R2, go_sem];rfl
 have hl := X0 v base hv hb k hk;by_cases hlt : k < 8
 · have h1 := hv k hlt;have h2 := hb k hlt;have hd := A53 h1 h2;have m1 := Ix (Dl v base) k;have m2 := Ix (Da v base) k;have o1 := Arp hlt m1;have o2 := Arp hlt m2;have hby : R2 v base (k + 1) = R2 v base k ++ dA (v k) (base k) := rfl;have hm1 : Bo (Dl v base) (k + 1) = if Dl v base k = true then Bo (Dl v base) k + 2 ^ k else Bo (Dl v base) k := rfl
   have hm2 : Bo (Da v base) (k + 1) = if Da v base k = true then Bo (Da v base) k + 2 ^ k else Bo (Da v base) k := rfl
   rcases Nat.lt_trichotomy (v k) (base k) with hc | hc | hc
   · have p1 : Dl v base k = false := by simp [Dl]; omega
     have p2 : Da v base k = true := by simp [Da, hc]
     have p3 : dA (v k) (base k) = Ea (base k - v k) := by unfold dA; rw [if_neg (by omega), if_pos hc]
     have e : ((base k : Int) - (v k : Int)) = ((base k - v k : Nat) : Int) := by omega
     rw [p1] at hm1; rw [p2] at hm2; rw [p3] at hby hd;simp only [Bool.false_eq_true, if_false] at hm1;simp only [if_true] at hm2;simp (disch := omega) only [Nh, o2, e, go_sem];refine Aa (Aev _ (by omega)) ?_;simp (disch := omega) only [A0, Xz, go_sem];refine ⟨k + 1, by omega, by omega, Cf 50 32 (by decide) rfl (An ?_ ?_)⟩
     · simp (disch := omega) only [hm1, hm2, go_sem]
     · simp (disch := omega) only [hby, go_sem]
   · have p1 : Dl v base k = false := by simp [Dl]; omega
     have p2 : Da v base k = false := by simp [Da]; omega
     have p3 : dA (v k) (base k) = [] := by unfold dA; rw [if_neg (by omega), if_neg (by omega)]
     rw [p1] at hm1; rw [p2] at hm2; rw [p3, List.append_nil] at hby;simp only [Bool.false_eq_true, if_false] at hm1 hm2;simp (disch := omega) only [Nh, go_sem];refine Al (k + 1) _ _ rfl (by omega) (by omega) ?_ ?_
     · simp (disch := omega) only [hm1, hm2, go_sem]
     · simp (disch := omega) only [hby, go_sem]
   · have p1 : Dl v base k = true := by simp [Dl, hc]
     have p2 : Da v base k = false := by simp [Da]; omega
     have p3 : dA (v k) (base k) = Ea (v k - base k) := by unfold dA; rw [if_pos hc]
     have e : ((v k : Int) - (base k : Int)) = ((v k - base k : Nat) : Int) := by omega
     rw [p1] at hm1; rw [p2] at hm2; rw [p3] at hby hd;simp only [Bool.false_eq_true, if_false] at hm2;simp only [if_true] at hm1;simp (disch := omega) only [Nh, o1, e, go_sem];refine Aa (Aev _ (by omega)) ?_;simp (disch := omega) only [A0, Xz, go_sem];refine Al (k + 1) _ _ rfl (by omega) (by omega) ?_ ?_
     · simp (disch := omega) only [hm1, hm2, go_sem]
     · simp (disch := omega) only [hby, go_sem]
 · obtain rfl : k = 8 := by omega
   simp (disch := omega) only [Nh, go_sem];rw [← Ass (Dl v base), ← Ass (Da v base)];rfl
theorem Aq2 (a : Nat → Int) (k : Nat) (x : Int) : Yq a k x = Er a k x := rfl
theorem Jp : (fun _ => 0 : Nat → Int) = Ym := rfl
theorem Ard (m s n i : Nat) (t : Nat → Int) (rest : List UInt8) (h : n < 8) : E5 m s (8 - n) i t rest = match I4 m s i rest with
 | .skip => E5 m s (8 - (n + 1)) (i + 1) t rest
 | .err e => (Ym, e)
 | .val x rest' => E5 m s (8 - (n + 1)) (i + 1) (Yq t i x) rest' := by
 rw [show 8 - n = (8 - (n + 1)) + 1 from by omega]; rfl
def Ke (full : Bool) (m s : Nat) (x : Nat × (Nat → Int) × List UInt8) : FS := mk [(29, .pv (.i .i64 x.1)), (7, .pv (.sl full 1 (Am x.2.2))), (6, .pv (.i .u8 s)), (5, .pv (.i .u8 m)), (4, .p 4 0), (2, .p 2 0)] [(4, some (.var (.vec 8 (iE x.2.1)))), (2, some (.var (.vec 8 (iE Ym))))]
set_option maxHeartbeats 8000000 in
theorem Arx {a : SV} {l : List UInt8} {full : Bool} {z : Nat} (hl : l.length < 4611686018427387904) {h} {d} (ha : Bc [a] = true) (he : Ir h a = .pv (.sl full z (Am l))) (hz : l = [] ∨ z = 1) :
 FunOk Tryz.prog 98 [a] h d (.tup [.vec 8 (iE (Cy l).1), .pv (.i .i64 (Cy l).2)]) [] := by
 refine Cx Aq fn98 (by simp) ha rfl fun F => ?_;by_cases h2 : l.length < 2
 · have e : Cy l = (Ym, 8) := by unfold Cy; rw [if_pos h2]
   simp (disch := omega) only [ir98, he, e, Jp, go_sem]
 have hz1 : z = 1 := hz.resolve_left (fun e => by subst e; simp at h2);subst hz1;obtain ⟨m, hm⟩ : ∃ m, m = (l.getD 0 0).toNat := ⟨_, rfl⟩
 obtain ⟨s, hs⟩ : ∃ s, s = (l.getD 1 0).toNat := ⟨_, rfl⟩
 have hmb : m < 256 := by rw [hm]; exact UInt8.toNat_lt _
 have hsb : s < 256 := by rw [hs]; exact UInt8.toNat_lt _
 have hand := Uk m s hmb hsb;have h0 : (l.getD 0 0).toNat = m := hm.symm;have h1 : (l.getD 1 0).toNat = s := hs.symm;have t2 : (2 : Int).toNat = 2 := rfl;have t1 : (1 : Int).toNat = 1 := rfl;by_cases hms : m &&& s = 0
 · have e : Cy l = E5 m s (8 - 0) 0 Ym (l.drop 2) := by unfold Cy; rw [if_neg h2, h0, h1, if_neg (by simp [hms])]
   have ez : ((m &&& s : Nat) : Int) = 0 := by rw [hms]; rfl
   simp (disch := omega) only [ir98, he, go_sem];refine G3 ?_;simp (disch := omega) only [Bw, h0, h1, t1, t2, hand, ez, go_sem];refine A1 Aq (Ke full m s) (fun x => x.1 ≤ 8 ∧ Cy l = E5 m s (8 - x.1) x.1 x.2.1 x.2.2 ∧ x.2.2.length ≤ l.length) (fun x => 8 - x.1) (0, Ym, l.drop 2) ⟨by omega, e, by simp⟩ (An ?_ ?_) fun x hx => ?_
   · (try simp only [Ak, Aj, Ai, Ah, Ag, Af, Ae, Ad]); simp (disch := omega) only [G0, go_sem]
   · (try simp only [Ak, Aj, Ai, Ah, Ag, Af, Ae, Ad]); simp (disch := omega) only [Jp, go_sem]
   obtain ⟨i, t, rest⟩ := x;obtain ⟨hi, hr, hrl⟩ := hx;simp only at hi hr hrl;by_cases hlt : i < 8
   · rw [Ard m s i i t rest hlt] at hr;have b1 := Agm hsb hlt;have b2 := Agm hmb hlt;by_cases k1 : s / 2 ^ i % 2 = 1
     · have k1' : ((s / 2 ^ i % 2 : Nat) : Int) = 1 := by omega
       have ho : I4 m s i rest = Ij (-1) rest := by unfold I4; rw [if_pos k1]
       rw [ho] at hr;obtain ⟨r0, hr0⟩ : ∃ r0, r0 = (rest.getD 0 0).toNat := ⟨_, rfl⟩
       have hr0b : r0 < 256 := by rw [hr0]; exact UInt8.toNat_lt _
       have hr0' : (rest.getD 0 0).toNat = r0 := hr0.symm;have w8 : IntKind.i64.wrap (r0 : Int) = (r0 : Int) := Ep (by omega);by_cases c1 : rest.length = 0 ∨ rest.length - 1 < r0
       · have hn : Ij (-1) rest = .err 8 := by unfold Ij; rw [hr0', if_pos c1]
         rw [hn] at hr;by_cases c0 : rest.length = 0
         · simp (disch := omega) only [Ke, b1, k1', hr, Jp, go_sem]
         · have c2 : (rest.length : Int) - 1 < (r0 : Int) := by omega
           simp (disch := omega) only [Ke, b1, k1', Bw, hr0', w8, hr, Jp, go_sem]
       · have c0 : ¬ rest.length = 0 := fun h => c1 (.inl h);have c2 : ¬ (rest.length : Int) - 1 < (r0 : Int) := by omega
         have e1 : (1 + (r0 : Int)) = ((1 + r0 : Nat) : Int) := by omega
         have hlen3 : (((rest.take (1 + r0)).drop 1)).length < 4611686018427387904 := by simp; omega
         obtain ⟨q, hq⟩ : ∃ q, q = Dx ((rest.take (1 + r0)).drop 1) := ⟨_, rfl⟩
         have hqlt : q.1 < 18446744073709551616 := by rw [hq]; exact Ago _
         have hn : Ij (-1) rest = if q.2 ≠ 0 ∨ q.1 = 0 ∨ 4294967295 < q.1 then .err 7 else .val ((-1) * (q.1 : Int)) (rest.drop (1 + r0)) := by unfold Ij; rw [hr0', if_neg c1, ← hq]
         rw [hn] at hr;simp (disch := omega) only [Ke, b1, k1', Bw, hr0', w8, e1, t1, R1, G0, go_sem];refine Aa (Abv (l := (rest.take (1 + r0)).drop 1) (full := false) (z := 1) hlen3 rfl rfl (.inr rfl)) ?_;rw [← hq];by_cases d1 : q.2 = 0
         · by_cases d2 : q.1 = 0
           · rw [if_pos (.inr (.inl d2))] at hr;have d2' : ((q.1 : Nat) : Int) = 0 := by omega
             simp (disch := omega) only [d1, d2', hr, Jp, go_sem]
           · by_cases d3 : 4294967295 < q.1
             · rw [if_pos (.inr (.inr d3))] at hr;simp (disch := omega) only [d1, hr, Jp, go_sem]
             · rw [if_neg (by omega)] at hr;simp (disch := omega) only [d1, Bw, hr0', w8, e1, t1, G0, go_sem];refine ⟨(i + 1, Yq t i ((-1) * (q.1 : Int)), rest.drop (1 + r0)), ⟨by simp; omega, hr, by simp; omega⟩, by simp; omega, An ?_ ?_⟩
               · (try simp only [Ak, Aj, Ai, Ah, Ag, Af, Ae, Ad]); simp (disch := omega) only [go_sem]
               · (try simp only [Ak, Aj, Ai, Ah, Ag, Af, Ae, Ad]); simp (disch := omega) only [Aq2, go_sem]
         · rw [if_pos (.inl d1)] at hr;simp (disch := omega) only [d1, hr, Jp, go_sem]
     · have k1' : ¬ ((s / 2 ^ i % 2 : Nat) : Int) = 1 := by omega
       by_cases k2 : m / 2 ^ i % 2 = 0
       · have k2' : ((m / 2 ^ i % 2 : Nat) : Int) = 0 := by omega
         have ho : I4 m s i rest = .skip := by unfold I4; rw [if_neg k1, if_pos k2]
         rw [ho] at hr;simp (disch := omega) only [Ke, b1, b2, k1', k2', go_sem];refine ⟨(i + 1, t, rest), ⟨by simp; omega, hr, hrl⟩, by simp; omega, An ?_ ?_⟩
         · (try simp only [Ak, Aj, Ai, Ah, Ag, Af, Ae, Ad]); simp (disch := omega) only [go_sem]
         · (try simp only [Ak, Aj, Ai, Ah, Ag, Af, Ae, Ad]); simp (disch := omega) only [go_sem]
       · have k2' : ¬ ((m / 2 ^ i % 2 : Nat) : Int) = 0 := by omega
         have ho : I4 m s i rest = Ij 1 rest := by unfold I4; rw [if_neg k1, if_neg k2]
         rw [ho] at hr;obtain ⟨r0, hr0⟩ : ∃ r0, r0 = (rest.getD 0 0).toNat := ⟨_, rfl⟩
         have hr0b : r0 < 256 := by rw [hr0]; exact UInt8.toNat_lt _
         have hr0' : (rest.getD 0 0).toNat = r0 := hr0.symm;have w8 : IntKind.i64.wrap (r0 : Int) = (r0 : Int) := Ep (by omega);by_cases c1 : rest.length = 0 ∨ rest.length - 1 < r0
         · have hn : Ij 1 rest = .err 8 := by unfold Ij; rw [hr0', if_pos c1]
           rw [hn] at hr;by_cases c0 : rest.length = 0
           · simp (disch := omega) only [Ke, b1, b2, k1', k2', hr, Jp, go_sem]
           · have c2 : (rest.length : Int) - 1 < (r0 : Int) := by omega
             simp (disch := omega) only [Ke, b1, b2, k1', k2', Bw, hr0', w8, hr, Jp, go_sem]
         · have c0 : ¬ rest.length = 0 := fun h => c1 (.inl h);have c2 : ¬ (rest.length : Int) - 1 < (r0 : Int) := by omega
           have e1 : (1 + (r0 : Int)) = ((1 + r0 : Nat) : Int) := by omega
           have hlen3 : (((rest.take (1 + r0)).drop 1)).length < 4611686018427387904 := by simp; omega
           obtain ⟨q, hq⟩ : ∃ q, q = Dx ((rest.take (1 + r0)).drop 1) := ⟨_, rfl⟩
           have hqlt : q.1 < 18446744073709551616 := by rw [hq]; exact Ago _
           have hn : Ij 1 rest = if q.2 ≠ 0 ∨ q.1 = 0 ∨ 4294967295 < q.1 then .err 7 else .val (1 * (q.1 : Int)) (rest.drop (1 + r0)) := by unfold Ij; rw [hr0', if_neg c1, ← hq]
           rw [hn] at hr;simp (disch := omega) only [Ke, b1, b2, k1', k2', Bw, hr0', w8, e1, t1, R1, G0, go_sem];refine Aa (Abv (l := (rest.take (1 + r0)).drop 1) (full := false) (z := 1) hlen3 rfl rfl (.inr rfl)) ?_;rw [← hq];by_cases d1 : q.2 = 0
           · by_cases d2 : q.1 = 0
             · rw [if_pos (.inr (.inl d2))] at hr;have d2' : ((q.1 : Nat) : Int) = 0 := by omega
               simp (disch := omega) only [d1, d2', hr, Jp, go_sem]
             · by_cases d3 : 4294967295 < q.1
               · rw [if_pos (.inr (.inr d3))] at hr;simp (disch := omega) only [d1, hr, Jp, go_sem]
               · rw [if_neg (by omega)] at hr;simp (disch := omega) only [d1, Bw, hr0', w8, e1, t1, G0, go_sem];refine ⟨(i + 1, Yq t i (1 * (q.1 : Int)), rest.drop (1 + r0)), ⟨by simp; omega, hr, by simp; omega⟩, by simp; omega, An ?_ ?_⟩
                 · (try simp only [Ak, Aj, Ai, Ah, Ag, Af, Ae, Ad]); simp (disch := omega) only [go_sem]
                 · (try simp only [Ak, Aj, Ai, Ah, Ag, Af, Ae, Ad]); simp (disch := omega) only [Aq2, go_sem]
           · rw [if_pos (.inl d1)] at hr;simp (disch := omega) only [d1, hr, Jp, go_sem]
   · obtain rfl : i = 8 := by omega
     have hr' : Cy l = if rest.length = 0 then (t, 0) else (Ym, 4) := hr
     by_cases c0 : rest.length = 0
     · rw [if_pos c0] at hr';simp (disch := omega) only [Ke, hr', go_sem]
     · rw [if_neg c0] at hr';simp (disch := omega) only [Ke, hr', Jp, go_sem]
 · have e : Cy l = (Ym, 7) := by unfold Cy; rw [if_neg h2, h0, h1, if_pos hms]
   have ez : ¬ ((m &&& s : Nat) : Int) = 0 := by omega
   simp (disch := omega) only [ir98, he, go_sem];refine G3 ?_;simp (disch := omega) only [Bw, h0, h1, t1, t2, hand, ez, e, Jp, go_sem]
def Ali (l : List UInt8) (base : Vc) : Vc := fun i => ((base i : Int) + (Cy l).1 i).toNat
theorem Atw {l : List UInt8} {base : Vc} (h0 : (Cy l).2 = 0) (hok : P8 l base) : J2 l base = (Ali l base, 0) := by
 unfold J2;rw [if_neg (by rw [h0]; simp), if_pos hok]; rfl
def V7 (l : List UInt8) (base : Vc) (k : Nat) : FS := mk [(22, .pv (.i .i64 k)), (21, .vec 8 (iE (Cy l).1)), (8, .p 8 0), (4, .p 4 0), (3, .p 3 0)] [(3, some (.var (.vec 8 (vE base)))), (8, some (.var (.vec 8 (vE fun i => if i < k then Ali l base i else 0)))), (4, some (.var (.vec 8 (vE fun _ => 0))))]
set_option maxHeartbeats 4000000 in
theorem A39 {a : SV} {l : List UInt8} {full : Bool} {z : Nat} (base : Vc) (hb : ∀ i, i < 8 → base i < 4294967296) (hl : l.length < 4611686018427387904) {h} {d} (ha : Bc [a] = true) (he : Ir h a = .pv (.sl full z (Am l))) (hz : l = [] ∨ z = 1) :
 FunOk Tryz.prog 62 [a, .vec 8 (vE base)] h d (.tup [.vec 8 (vE (J2 l base).1), .pv (.i .i64 (J2 l base).2)]) [] := by
 have ha2 : Bc [a, .vec 8 (vE base)] = true := by
  cases a <;> simp only [Bc, SV.closed, Bool.and_true, Bool.true_and, Bool.and_eq_true] at ha ⊢ <;> first | exact ha | trivial
 refine Cx Aq fn62 (by simp) ha2 rfl fun F => ?_;by_cases h0 : (Cy l).2 = 0
 · simp (disch := omega) only [ir62, he, go_sem];refine Aa (Arx hl rfl rfl hz) ?_;simp (disch := omega) only [h0, go_sem];refine A1 Aq (V7 l base) (fun k => k ≤ 8 ∧ ∀ i, i < k → 0 ≤ (base i : Int) + (Cy l).1 i ∧ (base i : Int) + (Cy l).1 i ≤ 4294967295) (fun k => 8 - k) 0 ⟨by omega, fun i hi => by omega⟩ (An ?_ ?_) fun k hk => ?_
   · simp (disch := omega) only [go_sem]
   · simp (disch := omega) only [Aau, go_sem]
   obtain ⟨hk, hok⟩ := hk;by_cases hlt : k < 8
   · have b1 := hb k hlt;have b2 := Aei l k;have w1 : IntKind.i64.wrap ((base k : Nat) : Int) = (base k : Int) := Ep (by omega);by_cases c1 : (base k : Int) + (Cy l).1 k < 0
     · have hn : ¬ P8 l base := fun h => by have := h k hlt; omega
       have e : J2 l base = (fun _ => 0, 7) := by unfold J2; rw [if_neg (by rw [h0]; simp), if_neg hn]
       simp (disch := omega) only [V7, w1, e, go_sem]
     · by_cases c2 : 4294967295 < (base k : Int) + (Cy l).1 k
       · have hn : ¬ P8 l base := fun h => by have := h k hlt; omega
         have e : J2 l base = (fun _ => 0, 7) := by unfold J2; rw [if_neg (by rw [h0]; simp), if_neg hn]
         simp (disch := omega) only [V7, w1, e, go_sem]
       · obtain ⟨x, hx⟩ : ∃ x : Nat, (base k : Int) + (Cy l).1 k = (x : Int) := ⟨((base k : Int) + (Cy l).1 k).toNat, by omega⟩
         rw [hx] at c1 c2;have w2 : IntKind.u32.wrap ((x : Nat) : Int) = (x : Int) := Qm (by omega);have w3 : IntKind.i64.wrap ((x : Nat) : Int) = (x : Int) := Ep (by omega);have hxe : x = Ali l base k := by unfold Ali; omega
         simp (disch := omega) only [V7, w1, hx, w2, w3, go_sem];refine Al (k + 1) _ _ rfl ⟨by omega, fun i hi => ?_⟩ (by omega) ?_ ?_
         · by_cases e : i = k
           · subst e; omega
           · exact hok i (by omega)
         · simp (disch := omega) only [go_sem]
         · simp (disch := omega) only [Aha, hxe, go_sem]
   · have hall : P8 l base := fun i hi => hok i (by omega);have e := Atw h0 hall;simp (disch := omega) only [V7, Ahb, e, go_sem]
 · have e : J2 l base = (fun _ => 0, (Cy l).2) := by unfold J2; rw [if_pos h0]
   simp (disch := omega) only [ir62, he, go_sem];refine Aa (Arx hl rfl rfl hz) ?_;simp (disch := omega) only [h0, e, go_sem]
def Yw (x : Ca) : List UInt8 := if x.1 = 0 ∧ x.2 = 0 then [] else UInt8.ofNat x.1.toNat :: E9 x.2
def Ez (x : Ca) : Prop := 0 ≤ x.1 ∧ x.1 ≤ 255 ∧ x.2 ≤ 1048576
theorem Ox (x : Ca) (h : Ez x) : (Yw x).length ≤ 9 := by
 unfold Yw;split
 · simp
 · have := Gu 8 x.2 (by have := h.2.2; omega);simp; omega
theorem Ams (x : Ca) (hx : Ez x) {h d} : FunOk Tryz.prog 96 [.vec 2 [.i .i64 x.1, .i .u32 x.2]] h d (.os d) [.new d (.row 1 (Am (Yw x)))] := by
 refine Afn Aq fn96 (by simp) rfl (.inl rfl) fun F => ?_;obtain ⟨h1, h2, h3⟩ := hx;by_cases hz : x.1 = 0 ∧ x.2 = 0
 · have e : Yw x = [] := if_pos hz;have ez : Ce x.1 x.2 = true := decide_eq_true hz;simp (disch := omega) only [ir96, Bm, Afy, Ael, ez, e, go_sem];exact ⟨rfl, by omega⟩
 · have e : Yw x = UInt8.ofNat x.1.toNat :: E9 x.2 := if_neg hz;have ez : Ce x.1 x.2 = false := decide_eq_false hz;have ew : IntKind.u8.wrap x.1 = ((UInt8.ofNat x.1.toNat).toNat : Int) := by
    obtain ⟨n, hn⟩ : ∃ n : Nat, x.1 = n := ⟨x.1.toNat, by omega⟩
    rw [hn, Int.toNat_natCast]; exact Jq n
   have e5 := Gu 8 x.2 (by omega);simp (disch := omega) only [ir96, Bm, Afy, Ael, ez, P4, P3, ew, go_sem];refine Aa (A1i x.2 (by omega)) ?_;simp (disch := omega) only [A0, go_sem];rw [e]; rfl
def Xi (l : List Ca) : List UInt8 := Cz (l.map Yw)
theorem Nm : ∀ {l : List Ca}, (∀ x ∈ l, Ez x) → Be (l.map Yw) ≤ 12 * l.length
 | [], _ => by simp [Be]
 | x :: l, h => by
   have h1 := Ox x (h x List.mem_cons_self);have h2 := Nm (l := l) fun y hy => h y (List.mem_cons_of_mem _ hy);simp only [List.map_cons, Be, List.length_cons]; omega
theorem Afj {l : List Ca} (h : ∀ x ∈ l, Ez x) : (Xi l).length ≤ 12 * l.length := Nat.le_trans (Hh _) (Nm h)
def Ahh (f : Bool) (z : Nat) (l : List Ca) (k : Nat) : FS := mk [(10, .pv (.i .i64 k)), (9, .pv (.i .i64 l.length)), (8, .pv (.sl f z (l.map Ga))), (3, .os 40)] [(40, some (.row 1 (((l.take k).map Yw).map bE)))]
set_option maxHeartbeats 1000000 in
theorem Ws {x : SV} {f : Bool} {z : Nat} {l : List Ca} {h d} (hx : Ct h [x] = [.pv (.sl f z (l.map Ga))]) (hl : Bc [x] = true) (hz : l = [] ∨ z = 2) (hn : l.length ≤ 1000) (hok : ∀ y ∈ l, Ez y) :
 FunOk Tryz.prog 58 [x] h d (.os d) [.new d (.row 1 (Am (Xi l)))] := by
 refine O1 Aq fn58 (by simp) hl (.inr (Hn _)) fun F => ?_;rw [hx];simp (disch := omega) only [ir58, go_sem];refine A1 Aq (Ahh f z l) (fun k => k ≤ l.length) (fun k => l.length - k) 0 (by simp) (Na 3 40 1 rfl (by omega) (An ?_ ?_)) fun k hk => ?_
 · simp (disch := omega) only [go_sem]
 · simp (disch := omega) only [go_sem];rfl
 by_cases hlt : k < l.length
 · have hz2 : z = 2 := hz.resolve_left fun e => by subst e; simp at hlt
   subst hz2;have he : (l.map Ga)[k]? = some (Ga l[k]) := by simp [hlt]
   have ht : l.take (k + 1) = l.take k ++ [l[k]] := by rw [List.take_add_one, List.getElem?_eq_getElem hlt]; rfl
   have hm := hok l[k] (List.getElem_mem hlt);generalize l[k] = y at *;have hyl : (Ga y).length = 2 := rfl;have hkl : (l.take k).length ≤ 1000 := by simp; omega
   simp (disch := omega) only [Ahh, he, Ic, hyl, go_sem];refine Aa (Ams y hm) ?_;simp (disch := omega) only [go_sem];refine ⟨k + 1, by omega, by omega, Cf 18 40 (by decide) rfl (An ?_ ?_)⟩
   · simp (disch := omega) only [go_sem]
   · simp (disch := omega) only [ht, List.map_append, List.map_cons, List.map_nil, bE, go_sem]
 · obtain rfl : k = l.length := by omega
   have e := List.take_length (l := l);simp (disch := omega) only [Ahh, e, go_sem];refine Aa (Ary (f := false) (z := 1) (L := l.map Yw) rfl rfl (N0 _) (.inr rfl) (by have := Nm hok; omega) (fun b hb => by
    obtain ⟨y, hy, rfl⟩ := List.mem_map.1 hb;have := Ox y (hok y hy); omega)) ?_
   simp (disch := omega) only [Xi, go_sem]
def Abl (b : List UInt8) : Ca := if b ≠ [] ∧ (Dx (b.drop 1)).2 = 0 ∧ (Dx (b.drop 1)).1 ≤ 1048576 then (((b.getD 0 0).toNat : Int), (Dx (b.drop 1)).1) else (0, 0)
theorem Arw {f : Bool} {z : Nat} {b : List UInt8} (hz : b = [] ∨ z = 1) (hb : b.length < 400000) {h d} : FunOk Tryz.prog 99 [.pv (.sl f z (Am b))] h d (.agg [.pv (.i .i64 (Abl b).1), .pv (.i .u32 (Abl b).2)]) [] := by
 refine A7 Aq fn99 (by simp) rfl rfl fun F => ?_;by_cases h0 : b = []
 · subst h0;have e : Abl [] = (0, 0) := by simp [Abl]
   have e0 : Am [] = [] := rfl;simp (disch := omega) only [ir99, e, e0, List.length_nil, Int.natCast_zero, go_sem]
 · have hz1 : z = 1 := hz.resolve_left h0;subst hz1;have hpos := List.length_pos_iff.2 h0;have hn0 : ¬ (b.length : Int) = 0 := by omega
   have hdr : List.drop (Int.toNat 1) (List.take b.length (Am b)) = Am (b.drop 1) := by
    rw [List.take_of_length_le (by rw [A0]; omega)]; simp [Am]
   have h1' : Int.toNat 1 = 1 := rfl;simp (disch := omega) only [ir99, A0, hn0, hdr, h1', go_sem];refine Aa (Abv (l := b.drop 1) (by simp; omega) rfl rfl (.inr rfl)) ?_;by_cases h1 : (Dx (b.drop 1)).2 = 0
   · by_cases h2 : 1048576 < ((Dx (b.drop 1)).1 : Int)
     · have e : Abl b = (0, 0) := if_neg (fun h => by have := h.2.2; omega);simp (disch := omega) only [h1, h2, e, Int.natCast_zero, go_sem]
     · have e : Abl b = (((b.getD 0 0).toNat : Int), (Dx (b.drop 1)).1) := if_pos ⟨h0, h1, by omega⟩;have hb0 : (Am b)[0]? = some [.i .u8 ((b.getD 0 0).toNat)] := by
        simp [Am, List.getD_eq_getElem?_getD, List.getElem?_eq_getElem hpos]
       have hby := (b.getD 0 0).toNat_lt;have hw1 : IntKind.i64.wrap ((b.getD 0 0).toNat : Int) = ((b.getD 0 0).toNat : Int) := Ep (by omega);have hw2 : IntKind.u32.wrap ((Dx (b.drop 1)).1 : Int) = ((Dx (b.drop 1)).1 : Int) := Qm (by omega);have h00 : Int.toNat 0 = 0 := rfl;generalize b.getD 0 0 = c at *;simp (disch := omega) only [h1, h2, e, A0, hb0, Om, hw1, hw2, h00, go_sem]
   · have e : Abl b = (0, 0) := if_neg (fun h => h1 h.2.1);simp (disch := omega) only [h1, e, Int.natCast_zero, go_sem]
end Go.Proofs.YtannaphhhkncoaaGreat.Fw
namespace Go.Proofs.YtannaphhhkncoaaGreat.Fw
open Go.RowKit Go.Proofs
variable {P : Program} {F : Fr} {N : Nat} {ρ ρ' : Nat → Value} {s : FS} {a : Act} {w w' : World} {V V' : View}
def PImp (x y : PV) : Prop := ∀ (V : View) (v : Value), PConc V x v → PConc V y v
theorem PImp.refl (x : PV) : PImp x x := fun _ _ h => h
def PImpL : List PV → List PV → Prop
 | [], [] => True
 | x :: l, y :: m => PImp x y ∧ PImpL l m
 | _, _ => False
def PImpR : List (List PV) → List (List PV) → Prop
 | [], [] => True
 | x :: l, y :: m => PImpL x y ∧ PImpR l m
 | _, _ => False
theorem PImpL.refl : ∀ l : List PV, PImpL l l
 | [] => trivial
 | x :: l => ⟨.refl x, PImpL.refl l⟩
theorem PImpR.refl : ∀ l : List (List PV), PImpR l l
 | [] => trivial
 | x :: l => ⟨.refl x, PImpR.refl l⟩
theorem PImpL.len : ∀ {l m : List PV}, PImpL l m → l.length = m.length
 | [], [], _ => rfl
 | x :: l, y :: m, h => by simp [PImpL.len h.2]
 | [], _ :: _, h => h.elim
 | _ :: _, [], h => h.elim
theorem PImpR.len : ∀ {l m : List (List PV)}, PImpR l m → l.length = m.length
 | [], [], _ => rfl
 | x :: l, y :: m, h => by simp [PImpR.len h.2]
 | [], _ :: _, h => h.elim
 | _ :: _, [], h => h.elim
theorem PImpL.get : ∀ {l m : List PV} {j : Nat} {y : PV}, PImpL l m → m[j]? = some y → ∃ x, l[j]? = some x ∧ PImp x y
 | x :: l, z :: m, 0, y, h, hy => by simp at hy; subst hy; exact ⟨x, by simp, h.1⟩
 | x :: l, z :: m, j + 1, y, h, hy => by
   obtain ⟨u, h1, h2⟩ := PImpL.get (j := j) h.2 (by simpa using hy);exact ⟨u, by simpa using h1, h2⟩
 | [], [], j, y, _, hy => by simp at hy
 | [], _ :: _, _, _, h, _ => h.elim
 | _ :: _, [], _, _, h, _ => h.elim
theorem PImpR.get : ∀ {l m : List (List PV)} {j : Nat} {y : List PV}, PImpR l m → m[j]? = some y → ∃ x, l[j]? = some x ∧ PImpL x y
 | x :: l, z :: m, 0, y, h, hy => by simp at hy; subst hy; exact ⟨x, by simp, h.1⟩
 | x :: l, z :: m, j + 1, y, h, hy => by
   obtain ⟨u, h1, h2⟩ := PImpR.get (j := j) h.2 (by simpa using hy);exact ⟨u, by simpa using h1, h2⟩
 | [], [], j, y, _, hy => by simp at hy
 | [], _ :: _, _, _, h, _ => h.elim
 | _ :: _, [], _, _, h, _ => h.elim
theorem PImpL.app : ∀ {a b c d : List PV}, PImpL a b → PImpL c d → PImpL (a ++ c) (b ++ d)
 | [], [], c, d, _, k => k
 | x :: a, y :: b, c, d, h, k => ⟨h.1, PImpL.app h.2 k⟩
 | [], _ :: _, _, _, h, _ => h.elim
 | _ :: _, [], _, _, h, _ => h.elim
theorem Lz {f f' : Bool} {z z' : Nat} {es es' : List (List PV)} (hf : f' = true → f = true) (hz : es = [] ∨ z = z') (h : PImpR es es') : PImp (.sl f z es) (.sl f' z' es') := by
 intro V v hv;cases hv with
 | sl full sz es a cap cs bl off arr hcap hfull hsz ha hcs hel =>
   have hl := h.len;have hne : es' ≠ [] → es ≠ [] := fun e1 e2 => by subst e2; exact e1 (List.eq_nil_of_length_eq_zero hl.symm)
   rw [hl];refine .sl f' z' es' a cap cs bl off arr (by omega) (fun e => by rw [hfull (hf e)]; exact hl) (fun c hc => ?_) (fun e => ha (hne e)) (fun i j hi hj => ?_) fun i j c x hi hx => ?_
   · obtain ⟨j, hj⟩ := List.mem_iff_getElem?.1 hc;obtain ⟨u, h1, h2⟩ := h.get hj;rw [← h2.len, hsz u (List.mem_of_getElem? h1)];exact hz.resolve_left (hne (List.ne_nil_of_mem hc))
   · have e : z = z' := hz.resolve_left (hne fun e => by subst e; simp at hi);subst e;exact hcs i j (by omega) hj
   · obtain ⟨u, h1, h2⟩ := h.get hi;obtain ⟨y, h3, h4⟩ := h2.get hx;exact h4 V _ (hel i j u y h1 h3)
theorem Ach {x y : PV} (h : PImp x y) : Imp (.pv x) (.pv y) := fun V ρ v hv => by simp only [Conc] at hv ⊢; exact h V v hv
theorem Ans {n : Nat} {cs ds : List PV} (h : PImpL cs ds) : Imp (.vec n cs) (.vec n ds) := fun V ρ v hv => by
 simp only [Conc] at hv ⊢;obtain ⟨vs, h1, h2, h3⟩ := hv;refine ⟨vs, h1, h2, h.len.symm.trans h3.1, fun j x hx => ?_⟩;obtain ⟨u, h4, h5⟩ := h.get hx;obtain ⟨v', h6, h7⟩ := h3.2 j u h4;exact ⟨v', h6, h5 V v' h7⟩
def ImpS : List SV → List SV → Prop
 | [], [] => True
 | x :: l, y :: m => (Imp x y ∧ x.width = y.width) ∧ ImpS l m
 | _, _ => False
theorem ImpS.cells : ∀ {l m : List SV} {vs : List Value}, ImpS l m → Cells V ρ l vs → Cells V ρ m vs
 | [], [], vs, _, h => h
 | x :: l, y :: m, vs, h, k => by
   simp only [Cells] at k ⊢;obtain ⟨u, us, rfl, k1, k2, k3, k4⟩ := k;exact ⟨u, us, rfl, h.1.1 V ρ u k1, by rw [← h.1.2]; exact k2, k3, h.2.cells k4⟩
 | [], _ :: _, _, h, _ => h.elim
 | _ :: _, [], _, h, _ => h.elim
theorem Atg {l m : List SV} (h : ImpS l m) : Imp (.agg l) (.agg m) := fun V ρ v hv => by
 simp only [Conc] at hv ⊢;obtain ⟨vs, h1, h2⟩ := hv;exact ⟨vs, h1, h.cells h2⟩
theorem Ay5 {l m : List SV} (h : ImpL l m) : Imp (.tup l) (.tup m) := fun V ρ v hv => by
 simp only [Conc] at hv ⊢;obtain ⟨vs, h1, h2⟩ := hv;exact ⟨vs, h1, h.conc h2⟩
theorem Iz (hm : P.follows .mixedOrders = true) {f N' : Nat} {rs : List Rv} {c : C} (hf : Bf P f = some (N', rs, c)) {args : List SV} {h : Nat → Option Blk} {d : Nat} {x : SV} (hlen : args.length ≤ N')
 (hargs : SV.closedL args = true) (hx : x.closed = true) (hrun : ∀ F, sx (Z6 P F N') c (Yh rs fun y _ => Imp y x) (mk (C4 0 args) [])) : FunOk P f args h d x [] := by
 obtain ⟨h1, h2, h3⟩ := Bl hargs;refine ⟨Cj hf, fun F N ρ s a w hR hh vs hc => ?_⟩;refine Calls.mono (Dr hm hf (h := h) hlen h2 Wh (by rw [h3]; exact hrun) hR hh hc) fun e w' he => ?_;obtain ⟨v, rfl, hg, N'', ρ', s', a', y, hR', hy, hyx⟩ := he;rw [h1, Dk] at hR' hy;exact ⟨v, ρ, rfl, hR.grew hg, Bz (Jk hR') hx (hyx _ _ _ hy)⟩
theorem Aq6 {N' : Nat} {a' : Act} {s' : FS} (hR' : RelR ⟨w, fun _ => False, F.out ρ s.h, fun _ => undef, []⟩ N' ρ' s' a' w') {n sz : Nat} {es : List (List PV)} (hn : s'.h n = some (.row sz es)) : PConc (vw F w' ρ s) (.sl false sz es) (ρ' n) :=
 (Lu hR' hn).mono (Bi fun b c ho hc => ⟨fun hb => ho (.inr hb), hc⟩)
theorem Afo (hm : P.follows .mixedOrders = true) {f N' : Nat} {rs : List Rv} {c : C} (hf : Bf P f = some (N', rs, c)) {args : List SV} {h : Nat → Option Blk} {d : Nat} {sz : Nat} {es : List (List PV)} (hlen : args.length ≤ N')
 (hargs : SV.closedL args = true) (hrun : ∀ F, sx (Z6 P F N') c (Yi rs fun y g => (∃ n, y = .os n ∧ g n = some (.row sz es)) ∨ ∃ z, y = .pv (.sl true z []) ∧ es = [] ∧ 0 < sz) (mk (C4 0 args) [])) :
 FunOk P f args h d (.pv (.sl false sz es)) [] := by
 obtain ⟨h1, h2, h3⟩ := Bl hargs;refine ⟨Cj hf, fun F N ρ s a w hR hh vs hc => ?_⟩;refine Calls.mono (Dr hm hf (h := h) hlen h2 Ni (by rw [h3]; exact hrun) hR hh hc) fun e w' he => ?_;obtain ⟨v, rfl, hg, N'', ρ', s', a', y, hR', hy, hyy⟩ := he;rw [h1, Dk] at hR' hy;refine ⟨v, ρ, rfl, hR.grew hg, ?_⟩;rcases hyy with ⟨n, rfl, hn⟩ | ⟨z, rfl, rfl, hsz⟩
 · simp only [Conc] at hy ⊢;rw [hy.1];exact Aq6 hR' hn
 · simp only [Conc] at hy ⊢;exact (Lz (by simp) (.inl rfl) (.refl [])) _ _ (hy.mono (Jk hR'))
theorem Iy (hm : P.follows .mixedOrders = true) {f N' : Nat} {rs : List Rv} {c : C} (hf : Bf P f = some (N', rs, c)) {args : List SV} {h : Nat → Option Blk} {d : Nat} {sz : Nat} {es : List (List PV)} (hlen : args.length ≤ N')
 (hargs : Bc args = true) (hx : ∀ c ∈ es, c.all PV.flat = true) (hrun : ∀ F, sx (Z6 P F N') c (Yi rs fun y g => (∃ n, y = .os n ∧ g n = some (.row sz es)) ∨ ∃ z, y = .pv (.sl true z []) ∧ es = [] ∧ 0 < sz) (mk (C4 0 (Ct h args)) [])) :
 FunOk P f args h d (.pv (.sl false sz es)) [] := by
 refine ⟨Cj hf, fun F N ρ s a w hR hh vs hc => ?_⟩;refine Calls.mono (Dr hm hf (h := h) hlen hargs Ni hrun hR hh hc) fun e w' he => ?_;obtain ⟨v, rfl, hg, N'', ρ', s', a', y, hR', hy, hyy⟩ := he;refine ⟨v, ρ, rfl, hR.grew hg, ?_⟩;rcases hyy with ⟨n, rfl, hn⟩ | ⟨z, rfl, rfl, hsz⟩
 · simp only [Conc] at hy ⊢;rw [hy.1];have hp := Lu hR' hn;have hnew : ∀ b, Cs (ρ' n) = some b → w.heap.size ≤ b := fun b hb => (hR'.may b ⟨n, _, hn, hb⟩).resolve_right id;generalize ρ' n = u at hp hnew;cases hp with
   | sl full sz es a cap cs bl off arr hcap hfull hsz ha hcs hel =>
     refine .sl false sz es a cap cs bl off arr hcap hfull hsz (fun hne => ?_) hcs fun i j c x hi hj => O3 (List.all_eq_true.1 (hx c (List.mem_of_getElem? hi)) x (List.mem_of_getElem? hj)) (hel i j c x hi hj);obtain ⟨rfl, hV⟩ := ha hne;refine ⟨rfl, ?_⟩;have hcp : cap ≠ 0 := fun e => by subst e; exact hne (List.eq_nil_of_length_eq_zero (by omega))
     have hb := hnew bl (by simp [Cs, hcp]);have hc' : Dd w' bl = some arr := by
      unfold vw Az at hV;split at hV
      · cases hV
      · exact hV
     show Az w' (F.out ρ s.h) bl = some arr;unfold Az;rw [if_neg]
     · exact hc'
     · rintro (ho | ho)
       · have := hR.lt ho; omega
       · have := (hR.fr.hid bl ho).1; have := hR.fr.size; omega
 · simp only [Conc] at hy ⊢;have hy' : PConc (vw F w' ρ s) (.sl true z []) v := O3 rfl hy;exact (Lz (by simp) (.inl rfl) (.refl [])) _ _ hy'
theorem FunOk.deep {f : Nat} {args : List SV} {h : Nat → Option Blk} {d d' : Nat} {x : SV} {u : List HU} (hf : FunOk P f args h d x u) : DeepOk P f args h d' x u :=
 ⟨hf.1, fun F N ρ s a w hR hh vs hv => hf.2 F N ρ s a w hR (fun k _ => by rw [hh]) vs hv⟩
end Go.Proofs.YtannaphhhkncoaaGreat.Fw
namespace Go.Proofs.YtannaphhhkncoaaGreat.Fw
open Go.RowKit Go.Proofs
def Io (v : Vc) : List UInt8 := C2 v fun _ => 0
def E6 (x : Ca) : List UInt8 := Xi [x]
def Fe (b : Bool) : List UInt8 := if b = true then [1] else []
theorem Akv (b : Bool) {h d} : FunOk Tryz.prog 21 [.pv (.b b)] h d (.pv (.sl false 1 (Am (Fe b)))) [] := by
 refine Iy Aq fn21 (by simp) rfl (Hn _) fun F => ?_;cases b
 · simp (disch := omega) only [ir21, Fe, go_sem];rfl
 · simp (disch := omega) only [ir21, Fe, go_sem];rfl
theorem Q7 (v : Vc) (hv : ∀ i, i < 8 → v i < 4294967296) {h d} : FunOk Tryz.prog 22 [.vec 8 (vE v)] h d (.pv (.sl false 1 (Am (Io v)))) [] := by
 refine Iy Aq fn22 (by simp) rfl (Hn _) fun F => ?_;simp (disch := omega) only [ir22, go_sem];refine Aa (Aru v (fun _ => 0) hv (by simp)) ?_;simp (disch := omega) only [Io, go_sem]
theorem Sq (x : Ca) (hx : Ez x) {h d} : FunOk Tryz.prog 23 [.vec 2 [.i .i64 x.1, .i .u32 x.2]] h d (.pv (.sl false 1 (Am (E6 x)))) [] := by
 refine Iy Aq fn23 (by simp) rfl (Hn _) fun F => ?_;simp (disch := omega) only [ir23, go_sem];refine Aa (Ws (f := false) (z := 2) (l := [x]) rfl rfl (.inr rfl) (by simp) (by simpa using hx)) ?_;simp (disch := omega) only [E6, go_sem]
theorem Abs {x : SV} {f : Bool} {z : Nat} {es : List (List PV)} {L : List (List UInt8)} {h d} (hx : Ct h [x] = [.pv (.sl f z es)]) (hl : Bc [x] = true) (he : Aj0 es L) (hz : L = [] ∨ z = 1) (hb : Be L ≤ 300000) (hall : ∀ b ∈ L, b.length ≤ 65535) :
 FunOk Tryz.prog 24 [x] h d (.pv (.sl false 1 (Am (Cz L)))) [] := by
 refine Iy Aq fn24 (by simp) hl (Hn _) fun F => ?_;rw [hx];simp (disch := omega) only [ir24, go_sem];refine Aa (Ary (x := .pv (.sl f z es)) (f := f) (z := z) (L := L) rfl rfl he hz hb hall) ?_;simp (disch := omega) only [go_sem]
structure Ent where
 id : Ca
 dir : Ca
 name : List UInt8
 obj : Ca
 gone : Vc
def Ai3 (x : Ent) : List PV := [.i .i64 x.id.1, .i .u32 x.id.2, .i .i64 x.dir.1, .i .u32 x.dir.2, .s x.name, .i .i64 x.obj.1, .i .u32 x.obj.2]
def Bk (x : Ent) : List PV := Ai3 x ++ vE x.gone
theorem Aj4 (a : Vc) : (vE a).all PV.flat = true := by simp [vE, Cq, PV.flat]
theorem C7 (x : Ent) : (Bk x).length = 15 := by simp [Bk, Ai3, Bh]
theorem Ai4 (x : Ent) : (Bk x).all PV.flat = true := by
 unfold Bk Ai3; rw [List.all_append, Aj4]; rfl
theorem Z8 (l : List Ent) : ∀ c ∈ l.map Bk, c.all PV.flat = true := by
 intro c hc;obtain ⟨v, _, rfl⟩ := List.mem_map.1 hc;exact Ai4 v
theorem Ge (x : Ent) (K : KK) : LoadK (some (Bk x)) 0 15 true K = K (.vec 15 (Bk x)) [] := by
 have e : ((Bk x).drop 0).take 15 = Bk x := List.take_of_length_le (by rw [List.drop_zero, C7]; omega);simp only [LoadK, G5, eq_iff_iff, e, C7];exact ⟨fun h => h.2.2, fun h => ⟨by omega, .inl trivial, h⟩⟩
theorem Dv (x : Ent) (K : KK) : LoadK (some (Bk x)) 0 2 true K = K (.vec 2 [.i .i64 x.id.1, .i .u32 x.id.2]) [] := by
 simp only [LoadK, G5, eq_iff_iff, C7];exact ⟨fun h => h.2.2, fun h => ⟨by omega, .inl trivial, h⟩⟩
theorem Oq (x : Ent) (K : KK) : LoadK (some (Bk x)) 2 2 true K = K (.vec 2 [.i .i64 x.dir.1, .i .u32 x.dir.2]) [] := by
 simp only [LoadK, G5, eq_iff_iff, C7];exact ⟨fun h => h.2.2, fun h => ⟨by omega, .inl trivial, h⟩⟩
theorem Md (x : Ent) (K : KK) : LoadK (some (Bk x)) 4 1 false K = K (.pv (.s x.name)) [] := by
 simp only [LoadK, G5, eq_iff_iff, C7];exact ⟨fun h => h.2.2, fun h => ⟨by omega, .inr trivial, h⟩⟩
theorem Cr (x : Ent) (K : KK) : LoadK (some (Bk x)) 5 2 true K = K (.vec 2 [.i .i64 x.obj.1, .i .u32 x.obj.2]) [] := by
 simp only [LoadK, G5, eq_iff_iff, C7];exact ⟨fun h => h.2.2, fun h => ⟨by omega, .inl trivial, h⟩⟩
theorem Fa (x : Ent) (K : KK) : LoadK (some (Bk x)) 7 8 true K = K (.vec 8 (vE x.gone)) [] := by
 have e : ((Bk x).drop 7).take 8 = vE x.gone := by
  unfold Bk;rw [List.drop_left' (by rfl)];exact List.take_of_length_le (by rw [Bh]; omega)
 simp only [LoadK, G5, eq_iff_iff, C7, e];exact ⟨fun h => h.2.2, fun h => ⟨by omega, .inl trivial, h⟩⟩
theorem Hd (x : Ent) (v : Vc) : splice (Bk x) 7 (vE v) = Bk { x with gone := v } := by
 unfold splice Bk;rw [List.take_left' (by rfl), Bh];have : (Ai3 x ++ vE x.gone).drop (7 + 8) = [] := List.drop_of_length_le (by simp [Ai3, Bh]);rw [this, List.append_nil]; rfl
abbrev M8 (a b : Ca) : Bool := C8 a.1 a.2 b.1 b.2
theorem Vd {a b : Ca} : M8 a b = true ↔ a.2 < b.2 ∨ a.2 = b.2 ∧ a.1 < b.1 := by simp [M8, C8]
theorem Ov {a b c : Ca} (h : M8 a b = true) (k : M8 b c = true) : M8 a c = true := by rw [Vd] at *; omega
theorem Ow {a : Ca} : ¬ M8 a a = true := by rw [Vd]; omega
theorem Xg {a b : Ca} (h : M8 a b = true) : ¬ M8 b a = true := by rw [Vd] at *; omega
theorem Mi {a b : Ca} (h : ¬ M8 a b = true) (k : a ≠ b) : M8 b a = true := by
 rw [Vd] at *;by_cases e : a.2 = b.2
 · have : a.1 ≠ b.1 := fun e1 => k (Prod.ext e1 e);omega
 · omega
def J8 (l : List Ent) : Prop := l.Pairwise fun a b => M8 a.id b.id = true
def Pj : List Ent → Ca → Option Ent
 | [], _ => none
 | x :: l, i => if x.id = i then some x else Pj l i
theorem Hi {l : List Ent} {i : Ca} : Pj l i = none ↔ ∀ x ∈ l, x.id ≠ i := by
 induction l with
 | nil => simp [Pj]
 | cons y l ih =>
   simp only [Pj];by_cases h : y.id = i
   · rw [if_pos h];exact ⟨fun e => (nomatch e), fun e => absurd h (e y List.mem_cons_self)⟩
   · rw [if_neg h, ih];simp only [List.mem_cons, forall_eq_or_imp];exact ⟨fun e => ⟨h, e⟩, fun e => e.2⟩
def Ly (l : List Ent) (i : Ca) : Nat := l.findIdx fun x => !M8 x.id i
theorem Akl (l : List Ent) (i : Ca) : Ly l i ≤ l.length := List.findIdx_le_length
theorem Zl (x : Ent) (l : List Ent) (i : Ca) : Ly (x :: l) i = if M8 x.id i = true then Ly l i + 1 else 0 := by
 unfold Ly;rw [List.findIdx_cons];cases M8 x.id i <;> simp
theorem A3u {l : List Ent} {i : Ca} {k : Nat} (hk : k < Ly l i) : ∃ x, l[k]? = some x ∧ M8 x.id i = true := by
 have hl : k < l.length := Nat.lt_of_lt_of_le hk (Akl l i);refine ⟨l[k], by simp [hl], ?_⟩;have := List.not_of_lt_findIdx hk;simpa using this
theorem A3v {l : List Ent} (hs : J8 l) {i : Ca} {k : Nat} (hk : Ly l i ≤ k) {x : Ent} (hx : l[k]? = some x) : ¬ M8 x.id i = true := by
 obtain ⟨hl, rfl⟩ := List.getElem?_eq_some_iff.1 hx;have hp : Ly l i < l.length := by omega
 have h0 : ¬ M8 l[Ly l i].id i = true := by
  have : (!M8 (l[Ly l i]'hp).id i) = true := List.findIdx_getElem (p := fun x : Ent => !M8 x.id i) (w := hp);simpa using this
 by_cases e : Ly l i = k
 · subst e; exact h0
 · have := List.pairwise_iff_getElem.1 hs (Ly l i) k hp hl (by omega);exact fun h => h0 (Ov this h)
def isE (l : List Ent) (i : Ca) : Bool := (Pj l i).isSome
theorem Asv {l : List Ent} (hs : J8 l) (i : Ca) : Pj l i = match l[Ly l i]? with | some x => if x.id = i then some x else none | none => none := by
 induction l with
 | nil => simp [Pj]
 | cons y l ih =>
   obtain ⟨h1, h2⟩ := List.pairwise_cons.1 hs;rw [Zl];simp only [Pj];by_cases e : y.id = i
   · have : ¬ M8 y.id i = true := by rw [e]; exact Ow
     rw [if_neg this, if_pos e];simp [e]
   · rw [if_neg e];by_cases hl : M8 y.id i = true
     · rw [if_pos hl, List.getElem?_cons_succ]; exact ih h2
     · rw [if_neg hl, List.getElem?_cons_zero];simp only [e, if_false];exact Hi.2 fun z hz ez => Ow (by have := Ov (Mi hl e) (h1 z hz); rwa [ez] at this)
theorem Aqk {l : List Ent} (hs : J8 l) {j m : Nat} {x v : Ent} (hj : l[j]? = some x) (hm : l[m]? = some v) (h : j < m) : M8 x.id v.id = true := by
 obtain ⟨h1, rfl⟩ := List.getElem?_eq_some_iff.1 hj;obtain ⟨h2, rfl⟩ := List.getElem?_eq_some_iff.1 hm;exact List.pairwise_iff_getElem.1 hs j m h1 h2 h
def Up (l : List Ent) (x : Ent) : List Ent := l.take (Ly l x.id) ++ x :: l.drop (Ly l x.id)
theorem S5 (y : Ent) (l : List Ent) (x : Ent) : Up (y :: l) x = if M8 y.id x.id = true then y :: Up l x else x :: y :: l := by
 unfold Up;rw [Zl];split <;> simp
theorem Ak1 {l : List Ent} {x z : Ent} : z ∈ Up l x ↔ z = x ∨ z ∈ l := by
 unfold Up;have := List.take_append_drop (Ly l x.id) l;constructor
 · intro h;rcases List.mem_append.1 h with h | h
   · exact .inr (List.mem_of_mem_take h)
   · rcases List.mem_cons.1 h with h | h
     · exact .inl h
     · exact .inr (List.mem_of_mem_drop h)
 · intro h;rcases h with rfl | h
   · simp
   · rw [← this] at h;rcases List.mem_append.1 h with h | h
     · exact List.mem_append_left _ h
     · exact List.mem_append_right _ (List.mem_cons_of_mem _ h)
theorem Adx {l : List Ent} (hs : J8 l) {x : Ent} (hn : Pj l x.id = none) : J8 (Up l x) := by
 induction l with
 | nil => simp [Up, Ly, J8]
 | cons y l ih =>
   obtain ⟨h1, h2⟩ := List.pairwise_cons.1 hs;have hy : y.id ≠ x.id := Hi.1 hn y List.mem_cons_self;have hn' : Pj l x.id = none := Hi.2 fun z hz => Hi.1 hn z (List.mem_cons_of_mem _ hz);rw [S5];split
   · rename_i hl;refine List.Pairwise.cons (fun z hz => ?_) (ih h2 hn');rcases Ak1.1 hz with rfl | hz
     · exact hl
     · exact h1 z hz
   · rename_i hl;have hxy : M8 x.id y.id = true := Mi hl hy;refine List.Pairwise.cons (fun z hz => ?_) hs;rcases List.mem_cons.1 hz with rfl | hz
     · exact hxy
     · exact Ov hxy (h1 z hz)
def Ayf (l : List Ent) (i : Ca) (f : Ent → Ent) : List Ent := l.map fun x => if x.id = i then f x else x
def Br (v : Vc) (r : Int) (q : Nat) : Vc := if 1 ≤ r ∧ r ≤ 8 then Er v (r - 1).toNat (max (v (r - 1).toNat) q) else v
def Uy (a b : Vc) (k : Nat) : FS := mk [(6, .pv (.i .i64 k)), (5, .p 5 0), (4, .p 4 0), (3, .p 3 0), (2, .p 2 0)] [(2, some (.var (.vec 8 (vE a)))), (3, some (.var (.vec 8 (vE b)))), (5, some (.var (.vec 8 (vE fun i => if i < k then Ei a b i else 0)))), (4, some (.var (.vec 8 (vE fun _ => 0))))]
theorem U3 (a b : Vc) {h d} : FunOk Tryz.prog 49 [.vec 8 (vE a), .vec 8 (vE b)] h d (.vec 8 (vE (Ei a b))) [] := by
 refine A7 Aq fn49 (by simp) rfl rfl fun F => ?_;simp (disch := omega) only [ir49, go_sem];refine A1 Aq (Uy a b) (fun k => k ≤ 8) (fun k => 8 - k) 0 (by simp) (An ?_ ?_) fun k hk => ?_
 · simp (disch := omega) only [go_sem]
 · simp (disch := omega) only [Aau, go_sem]
 by_cases hlt : k < 8
 · by_cases hc : a k < b k
   · simp (disch := omega) only [Uy, go_sem];refine Al (k + 1) _ _ rfl (by omega) (by omega) ?_ ?_
     · simp (disch := omega) only [go_sem]
     · simp (disch := omega) only [go_sem];exact Vb (Kb fun i hi => by simp only [Er, Ei]; grind)
   · simp (disch := omega) only [Uy, go_sem];refine Al (k + 1) _ _ rfl (by omega) (by omega) ?_ ?_
     · simp (disch := omega) only [go_sem]
     · simp (disch := omega) only [go_sem];exact Vb (Kb fun i hi => by simp only [Er, Ei]; grind)
 · simp (disch := omega) only [Uy, Ahb, go_sem]
def Q6 (r : Int) (q : Nat) : Vc := fun i => if (i : Int) + 1 = r then q else 0
def Aa3 (r : Int) (q k : Nat) : FS := mk [(4, .pv (.i .i64 k)), (3, .p 3 0), (2, .p 2 0), (1, .p 1 0)] [(1, some (.var (.vec 2 [.i .i64 r, .i .u32 q]))), (3, some (.var (.vec 8 (vE fun i => if i < k then Q6 r q i else 0)))), (2, some (.var (.vec 8 (vE fun _ => 0))))]
theorem A37 (r : Int) (q : Nat) {h d} : FunOk Tryz.prog 50 [.vec 2 [.i .i64 r, .i .u32 q]] h d (.vec 8 (vE (Q6 r q))) [] := by
 refine A7 Aq fn50 (by simp) rfl rfl fun F => ?_;simp (disch := omega) only [ir50, go_sem];refine A1 Aq (Aa3 r q) (fun k => k ≤ 8) (fun k => 8 - k) 0 (by simp) (An ?_ ?_) fun k hk => ?_
 · simp (disch := omega) only [go_sem]
 · simp (disch := omega) only [Aau, go_sem]
 by_cases hlt : k < 8
 · by_cases hc : (k : Int) + 1 = r
   · simp (disch := omega) only [Aa3, hc, go_sem];refine Al (k + 1) _ _ rfl (by omega) (by omega) ?_ ?_
     · simp (disch := omega) only [go_sem]
     · simp (disch := omega) only [go_sem];exact Vb (Kb fun i hi => by simp only [Er, Q6]; grind)
   · simp (disch := omega) only [Aa3, hc, go_sem];refine Al (k + 1) _ _ rfl (by omega) (by omega) ?_ ?_
     · simp (disch := omega) only [go_sem]
     · simp (disch := omega) only [go_sem];exact Vb (Kb fun i hi => by simp only [Er, Q6]; grind)
 · simp (disch := omega) only [Aa3, Ahb, go_sem]
theorem U2 (v : Vc) (r : Int) (q : Nat) {h d} : FunOk Tryz.prog 19 [.vec 8 (vE v), .vec 2 [.i .i64 r, .i .u32 q]] h d (.vec 8 (vE (Ei v (Q6 r q)))) [] := by
 refine A7 Aq fn19 (by simp) rfl rfl fun F => ?_;simp (disch := omega) only [ir19, go_sem];refine Aa (A37 _ _) ?_;simp (disch := omega) only [go_sem];refine Aa (U3 _ _) ?_;simp (disch := omega) only [go_sem]
theorem Adf (v : Vc) (r : Int) (q : Nat) : ∀ i, i < 8 → Br v r q i = Ei v (Q6 r q) i := by
 intro i hi;unfold Br;split
 · simp only [Er, Ei, Q6]; grind
 · simp only [Ei, Q6]; grind
def Aib (x y : Ent) : Ent := { x with gone := Ei x.gone y.gone }
theorem Am8 {l : List Ent} {i : Ca} {f : Ent → Ent} (h : ∀ y ∈ l, y.id ≠ i) : Ayf l i f = l := by
 unfold Ayf;have e1 : ∀ z ∈ l, (if z.id = i then f z else z) = id z := fun z hz => by rw [if_neg (h z hz)]; rfl
 rw [List.map_congr_left e1, List.map_id]
def Ahx (l : List Ent) (x : Ent) : List Ent := if isE l x.id = true then Ayf l x.id (fun y => Aib y x) else Up l x
def Ev : List Ent → Ent → Bool → List Ent
 | [], x, put => if put = true then [] else [x]
 | y :: l, x, put => if y.id = x.id then Aib y x :: Ev l x true else if put = false ∧ M8 x.id y.id = true then x :: y :: Ev l x true else y :: Ev l x put
theorem Pv : ∀ {l : List Ent} {x : Ent}, (∀ y ∈ l, y.id ≠ x.id) → Ev l x true = l
 | [], x, _ => by simp [Ev]
 | y :: l, x, h => by
   simp only [Ev];rw [if_neg (h y List.mem_cons_self), if_neg (by simp), Pv fun z hz => h z (List.mem_cons_of_mem _ hz)]
theorem Ata (y : Ent) (l : List Ent) (i : Ca) (h : y.id ≠ i) : isE (y :: l) i = isE l i := by unfold isE; simp only [Pj]; rw [if_neg h]
theorem A1q {l : List Ent} {i : Ca} : isE l i = false ↔ Pj l i = none := by unfold isE; cases Pj l i <;> simp
theorem Zk : ∀ {l : List Ent} {x : Ent}, J8 l → Ev l x false = Ahx l x
 | [], x, _ => by simp [Ev, Ahx, isE, Pj, Up, Ly]
 | y :: l, x, hs => by
   obtain ⟨h1, h2⟩ := List.pairwise_cons.1 hs;simp only [Ev];by_cases e : y.id = x.id
   · have hne : ∀ z ∈ l, z.id ≠ x.id := fun z hz ez => Ow (by have := h1 z hz; rwa [e, ez] at this);rw [if_pos e, Pv hne];have : isE (y :: l) x.id = true := by unfold isE; simp [Pj, e]
     unfold Ahx;rw [if_pos this];show _ = List.map _ (y :: l);rw [List.map_cons, if_pos e];congr 1;exact (Am8 hne).symm
   · rw [if_neg e];by_cases hl : M8 x.id y.id = true
     · have hne : ∀ z ∈ l, z.id ≠ x.id := fun z hz ez => Ow (by have := Ov hl (h1 z hz); rwa [ez] at this);rw [if_pos (by simp [hl]), Pv hne];have : isE (y :: l) x.id = false := A1q.2 (Hi.2 fun z hz => by
        rcases List.mem_cons.1 hz with rfl | hz
        · exact e
        · exact hne z hz)
       unfold Ahx;rw [if_neg (by rw [this]; simp), S5, if_neg (Xg hl)]
     · rw [if_neg fun h => hl h.2, Zk h2];unfold Ahx;rw [Ata y l _ e];split
       · simp [Ayf, e]
       · rw [S5, if_pos (Mi hl fun q => e q.symm)]
theorem Bs (a : Ca) : D5 [K1.int .i64, K1.int .u32] [.i .i64 a.1, .i .u32 a.2] = True := eq_true rfl
theorem Gs {a b : Ca} (h : a = b) : M6 [.i .i64 a.1, .i .u32 a.2] [.i .i64 b.1, .i .u32 b.2] = true := by subst h; simp [M6]
theorem Gt {a b : Ca} (h : a ≠ b) : M6 [.i .i64 a.1, .i .u32 a.2] [.i .i64 b.1, .i .u32 b.2] = false := Jw fun e => h (Prod.ext e.1 e.2)
def Sf (f : Bool) (l : List Ent) (x : Ent) (p : Nat × List Ent × Bool) : FS := mk [(7, .pv (.i .i64 p.1)), (6, .pv (.b p.2.2)), (5, .os 40), (3, .p 3 0), (0, .pv (.sl f 15 (l.map Bk)))] [(40, some (.row 15 (p.2.1.map Bk))), (3, some (.var (.vec 15 (Bk x))))]
set_option maxHeartbeats 2000000 in
theorem Abr {a : SV} {f : Bool} {l : List Ent} (x : Ent) {h d} (hx : Ct h [a, .vec 15 (Bk x)] = [.pv (.sl f 15 (l.map Bk)), .vec 15 (Bk x)]) (hl : Bc [a, .vec 15 (Bk x)] = true) (hn : l.length ≤ 1000) :
 FunOk Tryz.prog 47 [a, .vec 15 (Bk x)] h d (.os d) [.new d (.row 15 ((Ev l x false).map Bk))] := by
 refine O1 Aq fn47 (by simp) hl (.inr (Z8 _)) fun F => ?_;rw [hx];have hcx := C7 x;simp (disch := omega) only [ir47, List.length_map, go_sem];refine A1 Aq (Sf f l x) (fun p => p.1 ≤ l.length ∧ p.2.1.length ≤ 2 * p.1 ∧ Ev l x false = p.2.1 ++ Ev (l.drop p.1) x p.2.2) (fun p => l.length - p.1) (0, [], false) ⟨Nat.zero_le _, Nat.le_refl _, rfl⟩ (Na 5 40 15 rfl (by omega) (An ?_ ?_)) fun p hp => ?_
 · (try simp only [Ak, Aj, Ai, Ah, Ag, Af, Ae, Ad]); simp (disch := omega) only [go_sem]
 · (try simp only [Ak, Aj, Ai, Ah, Ag, Af, Ae, Ad]); simp (disch := omega) only [go_sem]
   rfl
 obtain ⟨k, out, put⟩ := p;obtain ⟨p1, p2, p3⟩ := hp;simp only at p1 p2 p3;by_cases hlt : k < l.length
 · have hd : l.drop k = l[k] :: l.drop (k + 1) := List.drop_eq_getElem_cons hlt;have he : (l.map Bk)[k]? = some (Bk l[k]) := by simp [hlt]
   rw [hd] at p3;generalize l[k] = y at *;have hcy := C7 y;simp only [Ev] at p3;by_cases hid : y.id = x.id
   · rw [if_pos hid] at p3;have hp := Gs hid;have hw := Hd y (Ei y.gone x.gone);have hv := Bh (Ei y.gone x.gone);have hm : ({ y with gone := Ei y.gone x.gone } : Ent) = Aib y x := rfl;have hcm := C7 (Aib y x);simp (disch := omega) only [Sf, List.length_map, he, Dv, Bs, hp, Ge, Fa, hcy, go_sem];refine Aa (U3 _ _) ?_;simp (disch := omega) only [hw, hm, Ge, hcy, hcm, hv, List.length_map, go_sem];refine ⟨(k + 1, out ++ [Aib y x], true), ⟨by show k + 1 ≤ _; omega, by show List.length (out ++ [Aib y x]) ≤ 2 * (k + 1); simp; omega, by rw [p3]; show _ = (out ++ [Aib y x]) ++ _; simp⟩, by show l.length - (k + 1) < l.length - k; omega, Cf 36 40 (by decide) rfl (An ?_ ?_)⟩
     · (try simp only [Ak, Aj, Ai, Ah, Ag, Af, Ae, Ad]); simp (disch := omega) only [go_sem]
     · (try simp only [Ak, Aj, Ai, Ah, Ag, Af, Ae, Ad]); simp (disch := omega) only [go_sem]
       simp
   · rw [if_neg hid] at p3;have hp := Gt hid;by_cases hput : put = true
     · subst hput;rw [if_neg (by simp)] at p3;simp (disch := omega) only [Sf, List.length_map, he, Dv, Bs, hp, Ge, hcy, go_sem];refine ⟨(k + 1, out ++ [y], true), ⟨by show k + 1 ≤ _; omega, by show List.length (out ++ [y]) ≤ 2 * (k + 1); simp; omega, by rw [p3]; show _ = (out ++ [y]) ++ _; simp⟩, by show l.length - (k + 1) < l.length - k; omega, Cf 59 40 (by decide) rfl (An ?_ ?_)⟩
       · (try simp only [Ak, Aj, Ai, Ah, Ag, Af, Ae, Ad]); simp (disch := omega) only [go_sem]
       · (try simp only [Ak, Aj, Ai, Ah, Ag, Af, Ae, Ad]); simp (disch := omega) only [go_sem]
         simp
     · obtain rfl : put = false := by simpa using hput
       simp (disch := omega) only [Sf, List.length_map, he, Dv, Bs, hp, Ge, hcy, go_sem];refine Aa (Fj _ _ _ _) ?_;by_cases hl : M8 x.id y.id = true
       · rw [if_pos ⟨rfl, hl⟩] at p3;have hl' : C8 x.id.1 x.id.2 y.id.1 y.id.2 = true := hl;simp (disch := omega) only [hl', List.length_map, he, Ge, hcy, hcx, go_sem];refine ⟨by simp; omega, (k + 1, out ++ [x, y], true), ⟨by show k + 1 ≤ _; omega, by show List.length (out ++ [x, y]) ≤ 2 * (k + 1); simp; omega, by rw [p3]; show _ = (out ++ [x, y]) ++ _; simp⟩, by show l.length - (k + 1) < l.length - k; omega, Cf 59 40 (by decide) rfl (An ?_ ?_)⟩
         · (try simp only [Ak, Aj, Ai, Ah, Ag, Af, Ae, Ad]); simp (disch := omega) only [go_sem]
         · (try simp only [Ak, Aj, Ai, Ah, Ag, Af, Ae, Ad]); simp (disch := omega) only [go_sem]
           simp
       · rw [if_neg fun q => hl q.2] at p3;have hl' : C8 x.id.1 x.id.2 y.id.1 y.id.2 = false := by simpa using hl
         simp (disch := omega) only [hl', List.length_map, he, Ge, hcy, go_sem];refine ⟨(k + 1, out ++ [y], false), ⟨by show k + 1 ≤ _; omega, by show List.length (out ++ [y]) ≤ 2 * (k + 1); simp; omega, by rw [p3]; show _ = (out ++ [y]) ++ _; simp⟩, by show l.length - (k + 1) < l.length - k; omega, Cf 59 40 (by decide) rfl (An ?_ ?_)⟩
         · (try simp only [Ak, Aj, Ai, Ah, Ag, Af, Ae, Ad]); simp (disch := omega) only [go_sem]
         · (try simp only [Ak, Aj, Ai, Ah, Ag, Af, Ae, Ad]); simp (disch := omega) only [go_sem]
           simp
 · obtain rfl : k = l.length := by omega
   rw [List.drop_length] at p3;simp only [Ev] at p3;by_cases hput : put = true
   · subst hput;simp only [if_true, List.append_nil] at p3;simp (disch := omega) only [Sf, List.length_map, p3, go_sem]
   · obtain rfl : put = false := by simpa using hput
     simp only [Bool.false_eq_true, if_false] at p3;simp (disch := omega) only [Sf, List.length_map, Ge, hcx, go_sem];rw [p3]; simp
def Ar (e : Evt) (o d g b f t w : Bool) : Bool := (o || Ce e.orep e.oseq) && ((d || (Ce e.drep e.dseq && decide (e.name = []))) && ((g || decide ((e.gone.l.length : Int) = 0)) && ((b || decide ((e.base.l.length : Int) = 0)) && ((f || decide (e.off = 0)) && ((t || decide (e.data = [])) && (w || decide (e.ward = 0)))))))
set_option maxHeartbeats 4000000 in
theorem Akt (e : Evt) {h d} : FunOk Tryz.prog 92 [.vec 21 (Cn e), .pv (.b false), .pv (.b true), .pv (.b false), .pv (.b false), .pv (.b false), .pv (.b false), .pv (.b false)] h d (.pv (.b (Ar e false true false false false false false))) [] := by
 refine A7 Aq fn92 (by simp) rfl rfl fun F => ?_;have hl := Ac e;by_cases hz1' : Ce e.orep e.oseq = false
 · have hz1 := hz1';have eb : Ar e false true false false false false false = false := by simp only [Ar, hz1, go_sem, Bool.true_or]
   simp (disch := omega) only [ir92, Ac, hz1, eb, go_sem];refine Aa (A3 _ _) ?_;simp (disch := omega) only [Ac, hz1, eb, go_sem]
 have hz1 : Ce e.orep e.oseq = true := by simpa using hz1'
 by_cases hgo : (e.gone.l.length : Int) = 0;rotate_left
 · have eb : Ar e false true false false false false false = false := by simp only [Ar, hz1, hgo, go_sem, Bool.true_or]
   simp (disch := omega) only [ir92, Ac, hz1, hgo, eb, go_sem];refine Aa (A3 _ _) ?_;simp (disch := omega) only [Ac, hz1, hgo, eb, go_sem]
 by_cases hba : (e.base.l.length : Int) = 0;rotate_left
 · have eb : Ar e false true false false false false false = false := by simp only [Ar, hz1, hgo, hba, go_sem, Bool.true_or]
   simp (disch := omega) only [ir92, Ac, hz1, hgo, hba, eb, go_sem];refine Aa (A3 _ _) ?_;simp (disch := omega) only [Ac, hz1, hgo, hba, eb, go_sem]
 by_cases hof : e.off = 0;rotate_left
 · have eb : Ar e false true false false false false false = false := by simp only [Ar, hz1, hgo, hba, hof, go_sem, Bool.true_or]
   simp (disch := omega) only [ir92, Ac, hz1, hgo, hba, hof, eb, go_sem];refine Aa (A3 _ _) ?_;simp (disch := omega) only [Ac, hz1, hgo, hba, hof, eb, go_sem]
 by_cases hda : e.data = [];rotate_left
 · have eb : Ar e false true false false false false false = false := by simp only [Ar, hz1, hgo, hba, hof, hda, go_sem, Bool.true_or]
   simp (disch := omega) only [ir92, Ac, hz1, hgo, hba, hof, hda, eb, go_sem];refine Aa (A3 _ _) ?_;simp (disch := omega) only [Ac, hz1, hgo, hba, hof, hda, eb, go_sem]
 by_cases hwa : e.ward = 0;rotate_left
 · have eb : Ar e false true false false false false false = false := by simp only [Ar, hz1, hgo, hba, hof, hda, hwa, go_sem, Bool.true_or]
   simp (disch := omega) only [ir92, Ac, hz1, hgo, hba, hof, hda, hwa, eb, go_sem];refine Aa (A3 _ _) ?_;simp (disch := omega) only [Ac, hz1, hgo, hba, hof, hda, hwa, eb, go_sem]
 have eb : Ar e false true false false false false false = true := by simp only [Ar, hz1, hgo, hba, hof, hda, hwa, go_sem, Bool.true_or]
 simp (disch := omega) only [ir92, Ac, hz1, hgo, hba, hof, hda, hwa, eb, go_sem];refine Aa (A3 _ _) ?_;simp (disch := omega) only [Ac, hz1, hgo, hba, hof, hda, hwa, eb, go_sem]
set_option maxHeartbeats 4000000 in
theorem Ah4 (e : Evt) {h d} : FunOk Tryz.prog 92 [.vec 21 (Cn e), .pv (.b true), .pv (.b false), .pv (.b false), .pv (.b true), .pv (.b true), .pv (.b true), .pv (.b false)] h d (.pv (.b (Ar e true false false true true true false))) [] := by
 refine A7 Aq fn92 (by simp) rfl rfl fun F => ?_;have hl := Ac e;by_cases hz2' : Ce e.drep e.dseq = false
 · have hz2 := hz2';have eb : Ar e true false false true true true false = false := by simp only [Ar, hz2, go_sem, Bool.true_or]
   simp (disch := omega) only [ir92, Ac, hz2, eb, go_sem];refine Aa (A3 _ _) ?_;simp (disch := omega) only [Ac, hz2, eb, go_sem]
 have hz2 : Ce e.drep e.dseq = true := by simpa using hz2'
 by_cases hnm : e.name = [];rotate_left
 · have eb : Ar e true false false true true true false = false := by simp only [Ar, hz2, hnm, go_sem, Bool.true_or]
   simp (disch := omega) only [ir92, Ac, hz2, hnm, eb, go_sem];refine Aa (A3 _ _) ?_;simp (disch := omega) only [Ac, hz2, hnm, eb, go_sem]
 by_cases hgo : (e.gone.l.length : Int) = 0;rotate_left
 · have eb : Ar e true false false true true true false = false := by simp only [Ar, hz2, hnm, hgo, go_sem, Bool.true_or]
   simp (disch := omega) only [ir92, Ac, hz2, hnm, hgo, eb, go_sem];refine Aa (A3 _ _) ?_;simp (disch := omega) only [Ac, hz2, hnm, hgo, eb, go_sem]
 by_cases hwa : e.ward = 0;rotate_left
 · have eb : Ar e true false false true true true false = false := by simp only [Ar, hz2, hnm, hgo, hwa, go_sem, Bool.true_or]
   simp (disch := omega) only [ir92, Ac, hz2, hnm, hgo, hwa, eb, go_sem];refine Aa (A3 _ _) ?_;simp (disch := omega) only [Ac, hz2, hnm, hgo, hwa, eb, go_sem]
 have eb : Ar e true false false true true true false = true := by simp only [Ar, hz2, hnm, hgo, hwa, go_sem, Bool.true_or]
 simp (disch := omega) only [ir92, Ac, hz2, hnm, hgo, hwa, eb, go_sem];refine Aa (A3 _ _) ?_;simp (disch := omega) only [Ac, hz2, hnm, hgo, hwa, eb, go_sem]
set_option maxHeartbeats 4000000 in
theorem Amy (e : Evt) {h d} : FunOk Tryz.prog 92 [.vec 21 (Cn e), .pv (.b true), .pv (.b false), .pv (.b false), .pv (.b true), .pv (.b true), .pv (.b false), .pv (.b false)] h d (.pv (.b (Ar e true false false true true false false))) [] := by
 refine A7 Aq fn92 (by simp) rfl rfl fun F => ?_;have hl := Ac e;by_cases hz2' : Ce e.drep e.dseq = false
 · have hz2 := hz2';have eb : Ar e true false false true true false false = false := by simp only [Ar, hz2, go_sem, Bool.true_or]
   simp (disch := omega) only [ir92, Ac, hz2, eb, go_sem];refine Aa (A3 _ _) ?_;simp (disch := omega) only [Ac, hz2, eb, go_sem]
 have hz2 : Ce e.drep e.dseq = true := by simpa using hz2'
 by_cases hnm : e.name = [];rotate_left
 · have eb : Ar e true false false true true false false = false := by simp only [Ar, hz2, hnm, go_sem, Bool.true_or]
   simp (disch := omega) only [ir92, Ac, hz2, hnm, eb, go_sem];refine Aa (A3 _ _) ?_;simp (disch := omega) only [Ac, hz2, hnm, eb, go_sem]
 by_cases hgo : (e.gone.l.length : Int) = 0;rotate_left
 · have eb : Ar e true false false true true false false = false := by simp only [Ar, hz2, hnm, hgo, go_sem, Bool.true_or]
   simp (disch := omega) only [ir92, Ac, hz2, hnm, hgo, eb, go_sem];refine Aa (A3 _ _) ?_;simp (disch := omega) only [Ac, hz2, hnm, hgo, eb, go_sem]
 by_cases hda : e.data = [];rotate_left
 · have eb : Ar e true false false true true false false = false := by simp only [Ar, hz2, hnm, hgo, hda, go_sem, Bool.true_or]
   simp (disch := omega) only [ir92, Ac, hz2, hnm, hgo, hda, eb, go_sem];refine Aa (A3 _ _) ?_;simp (disch := omega) only [Ac, hz2, hnm, hgo, hda, eb, go_sem]
 by_cases hwa : e.ward = 0;rotate_left
 · have eb : Ar e true false false true true false false = false := by simp only [Ar, hz2, hnm, hgo, hda, hwa, go_sem, Bool.true_or]
   simp (disch := omega) only [ir92, Ac, hz2, hnm, hgo, hda, hwa, eb, go_sem];refine Aa (A3 _ _) ?_;simp (disch := omega) only [Ac, hz2, hnm, hgo, hda, hwa, eb, go_sem]
 have eb : Ar e true false false true true false false = true := by simp only [Ar, hz2, hnm, hgo, hda, hwa, go_sem, Bool.true_or]
 simp (disch := omega) only [ir92, Ac, hz2, hnm, hgo, hda, hwa, eb, go_sem];refine Aa (A3 _ _) ?_;simp (disch := omega) only [Ac, hz2, hnm, hgo, hda, hwa, eb, go_sem]
set_option maxHeartbeats 4000000 in
theorem Amz (e : Evt) {h d} : FunOk Tryz.prog 92 [.vec 21 (Cn e), .pv (.b true), .pv (.b false), .pv (.b false), .pv (.b true), .pv (.b false), .pv (.b true), .pv (.b false)] h d (.pv (.b (Ar e true false false true false true false))) [] := by
 refine A7 Aq fn92 (by simp) rfl rfl fun F => ?_;have hl := Ac e;by_cases hz2' : Ce e.drep e.dseq = false
 · have hz2 := hz2';have eb : Ar e true false false true false true false = false := by simp only [Ar, hz2, go_sem, Bool.true_or]
   simp (disch := omega) only [ir92, Ac, hz2, eb, go_sem];refine Aa (A3 _ _) ?_;simp (disch := omega) only [Ac, hz2, eb, go_sem]
 have hz2 : Ce e.drep e.dseq = true := by simpa using hz2'
 by_cases hnm : e.name = [];rotate_left
 · have eb : Ar e true false false true false true false = false := by simp only [Ar, hz2, hnm, go_sem, Bool.true_or]
   simp (disch := omega) only [ir92, Ac, hz2, hnm, eb, go_sem];refine Aa (A3 _ _) ?_;simp (disch := omega) only [Ac, hz2, hnm, eb, go_sem]
 by_cases hgo : (e.gone.l.length : Int) = 0;rotate_left
 · have eb : Ar e true false false true false true false = false := by simp only [Ar, hz2, hnm, hgo, go_sem, Bool.true_or]
   simp (disch := omega) only [ir92, Ac, hz2, hnm, hgo, eb, go_sem];refine Aa (A3 _ _) ?_;simp (disch := omega) only [Ac, hz2, hnm, hgo, eb, go_sem]
 by_cases hof : e.off = 0;rotate_left
 · have eb : Ar e true false false true false true false = false := by simp only [Ar, hz2, hnm, hgo, hof, go_sem, Bool.true_or]
   simp (disch := omega) only [ir92, Ac, hz2, hnm, hgo, hof, eb, go_sem];refine Aa (A3 _ _) ?_;simp (disch := omega) only [Ac, hz2, hnm, hgo, hof, eb, go_sem]
 by_cases hwa : e.ward = 0;rotate_left
 · have eb : Ar e true false false true false true false = false := by simp only [Ar, hz2, hnm, hgo, hof, hwa, go_sem, Bool.true_or]
   simp (disch := omega) only [ir92, Ac, hz2, hnm, hgo, hof, hwa, eb, go_sem];refine Aa (A3 _ _) ?_;simp (disch := omega) only [Ac, hz2, hnm, hgo, hof, hwa, eb, go_sem]
 have eb : Ar e true false false true false true false = true := by simp only [Ar, hz2, hnm, hgo, hof, hwa, go_sem, Bool.true_or]
 simp (disch := omega) only [ir92, Ac, hz2, hnm, hgo, hof, hwa, eb, go_sem];refine Aa (A3 _ _) ?_;simp (disch := omega) only [Ac, hz2, hnm, hgo, hof, hwa, eb, go_sem]
set_option maxHeartbeats 4000000 in
theorem Ar0 (e : Evt) {h d} : FunOk Tryz.prog 92 [.vec 21 (Cn e), .pv (.b true), .pv (.b false), .pv (.b true), .pv (.b false), .pv (.b false), .pv (.b false), .pv (.b false)] h d (.pv (.b (Ar e true false true false false false false))) [] := by
 refine A7 Aq fn92 (by simp) rfl rfl fun F => ?_;have hl := Ac e;by_cases hz2' : Ce e.drep e.dseq = false
 · have hz2 := hz2';have eb : Ar e true false true false false false false = false := by simp only [Ar, hz2, go_sem, Bool.true_or]
   simp (disch := omega) only [ir92, Ac, hz2, eb, go_sem];refine Aa (A3 _ _) ?_;simp (disch := omega) only [Ac, hz2, eb, go_sem]
 have hz2 : Ce e.drep e.dseq = true := by simpa using hz2'
 by_cases hnm : e.name = [];rotate_left
 · have eb : Ar e true false true false false false false = false := by simp only [Ar, hz2, hnm, go_sem, Bool.true_or]
   simp (disch := omega) only [ir92, Ac, hz2, hnm, eb, go_sem];refine Aa (A3 _ _) ?_;simp (disch := omega) only [Ac, hz2, hnm, eb, go_sem]
 by_cases hba : (e.base.l.length : Int) = 0;rotate_left
 · have eb : Ar e true false true false false false false = false := by simp only [Ar, hz2, hnm, hba, go_sem, Bool.true_or]
   simp (disch := omega) only [ir92, Ac, hz2, hnm, hba, eb, go_sem];refine Aa (A3 _ _) ?_;simp (disch := omega) only [Ac, hz2, hnm, hba, eb, go_sem]
 by_cases hof : e.off = 0;rotate_left
 · have eb : Ar e true false true false false false false = false := by simp only [Ar, hz2, hnm, hba, hof, go_sem, Bool.true_or]
   simp (disch := omega) only [ir92, Ac, hz2, hnm, hba, hof, eb, go_sem];refine Aa (A3 _ _) ?_;simp (disch := omega) only [Ac, hz2, hnm, hba, hof, eb, go_sem]
 by_cases hda : e.data = [];rotate_left
 · have eb : Ar e true false true false false false false = false := by simp only [Ar, hz2, hnm, hba, hof, hda, go_sem, Bool.true_or]
   simp (disch := omega) only [ir92, Ac, hz2, hnm, hba, hof, hda, eb, go_sem];refine Aa (A3 _ _) ?_;simp (disch := omega) only [Ac, hz2, hnm, hba, hof, hda, eb, go_sem]
 by_cases hwa : e.ward = 0;rotate_left
 · have eb : Ar e true false true false false false false = false := by simp only [Ar, hz2, hnm, hba, hof, hda, hwa, go_sem, Bool.true_or]
   simp (disch := omega) only [ir92, Ac, hz2, hnm, hba, hof, hda, hwa, eb, go_sem];refine Aa (A3 _ _) ?_;simp (disch := omega) only [Ac, hz2, hnm, hba, hof, hda, hwa, eb, go_sem]
 have eb : Ar e true false true false false false false = true := by simp only [Ar, hz2, hnm, hba, hof, hda, hwa, go_sem, Bool.true_or]
 simp (disch := omega) only [ir92, Ac, hz2, hnm, hba, hof, hda, hwa, eb, go_sem];refine Aa (A3 _ _) ?_;simp (disch := omega) only [Ac, hz2, hnm, hba, hof, hda, hwa, eb, go_sem]
set_option maxHeartbeats 4000000 in
theorem Amx (e : Evt) {h d} : FunOk Tryz.prog 92 [.vec 21 (Cn e), .pv (.b true), .pv (.b true), .pv (.b true), .pv (.b false), .pv (.b false), .pv (.b false), .pv (.b false)] h d (.pv (.b (Ar e true true true false false false false))) [] := by
 refine A7 Aq fn92 (by simp) rfl rfl fun F => ?_;have hl := Ac e;by_cases hba : (e.base.l.length : Int) = 0;rotate_left
 · have eb : Ar e true true true false false false false = false := by simp only [Ar, hba, go_sem, Bool.true_or]
   simp (disch := omega) only [ir92, Ac, hba, eb, go_sem]
 by_cases hof : e.off = 0;rotate_left
 · have eb : Ar e true true true false false false false = false := by simp only [Ar, hba, hof, go_sem, Bool.true_or]
   simp (disch := omega) only [ir92, Ac, hba, hof, eb, go_sem]
 by_cases hda : e.data = [];rotate_left
 · have eb : Ar e true true true false false false false = false := by simp only [Ar, hba, hof, hda, go_sem, Bool.true_or]
   simp (disch := omega) only [ir92, Ac, hba, hof, hda, eb, go_sem]
 by_cases hwa : e.ward = 0;rotate_left
 · have eb : Ar e true true true false false false false = false := by simp only [Ar, hba, hof, hda, hwa, go_sem, Bool.true_or]
   simp (disch := omega) only [ir92, Ac, hba, hof, hda, hwa, eb, go_sem]
 have eb : Ar e true true true false false false false = true := by simp only [Ar, hba, hof, hda, hwa, go_sem, Bool.true_or]
 simp (disch := omega) only [ir92, Ac, hba, hof, hda, hwa, eb, go_sem]
set_option maxHeartbeats 4000000 in
theorem Ax1 (e : Evt) {h d} : FunOk Tryz.prog 92 [.vec 21 (Cn e), .pv (.b false), .pv (.b false), .pv (.b false), .pv (.b false), .pv (.b false), .pv (.b false), .pv (.b true)] h d (.pv (.b (Ar e false false false false false false true))) [] := by
 refine A7 Aq fn92 (by simp) rfl rfl fun F => ?_;have hl := Ac e;by_cases hz1' : Ce e.orep e.oseq = false
 · have hz1 := hz1';have eb : Ar e false false false false false false true = false := by simp only [Ar, hz1, go_sem, Bool.true_or]
   simp (disch := omega) only [ir92, Ac, hz1, eb, go_sem];refine Aa (A3 _ _) ?_;simp (disch := omega) only [Ac, hz1, eb, go_sem]
 have hz1 : Ce e.orep e.oseq = true := by simpa using hz1'
 by_cases hz2' : Ce e.drep e.dseq = false
 · have hz2 := hz2';have eb : Ar e false false false false false false true = false := by simp only [Ar, hz1, hz2, go_sem, Bool.true_or]
   simp (disch := omega) only [ir92, Ac, hz1, hz2, eb, go_sem];refine Aa (A3 _ _) ?_;simp (disch := omega) only [Ac, hz1, hz2, eb, go_sem];refine Aa (A3 _ _) ?_;simp (disch := omega) only [Ac, hz1, hz2, eb, go_sem]
 have hz2 : Ce e.drep e.dseq = true := by simpa using hz2'
 by_cases hnm : e.name = [];rotate_left
 · have eb : Ar e false false false false false false true = false := by simp only [Ar, hz1, hz2, hnm, go_sem, Bool.true_or]
   simp (disch := omega) only [ir92, Ac, hz1, hz2, hnm, eb, go_sem];refine Aa (A3 _ _) ?_;simp (disch := omega) only [Ac, hz1, hz2, hnm, eb, go_sem];refine Aa (A3 _ _) ?_;simp (disch := omega) only [Ac, hz1, hz2, hnm, eb, go_sem]
 by_cases hgo : (e.gone.l.length : Int) = 0;rotate_left
 · have eb : Ar e false false false false false false true = false := by simp only [Ar, hz1, hz2, hnm, hgo, go_sem, Bool.true_or]
   simp (disch := omega) only [ir92, Ac, hz1, hz2, hnm, hgo, eb, go_sem];refine Aa (A3 _ _) ?_;simp (disch := omega) only [Ac, hz1, hz2, hnm, hgo, eb, go_sem];refine Aa (A3 _ _) ?_;simp (disch := omega) only [Ac, hz1, hz2, hnm, hgo, eb, go_sem]
 by_cases hba : (e.base.l.length : Int) = 0;rotate_left
 · have eb : Ar e false false false false false false true = false := by simp only [Ar, hz1, hz2, hnm, hgo, hba, go_sem, Bool.true_or]
   simp (disch := omega) only [ir92, Ac, hz1, hz2, hnm, hgo, hba, eb, go_sem];refine Aa (A3 _ _) ?_;simp (disch := omega) only [Ac, hz1, hz2, hnm, hgo, hba, eb, go_sem];refine Aa (A3 _ _) ?_;simp (disch := omega) only [Ac, hz1, hz2, hnm, hgo, hba, eb, go_sem]
 by_cases hof : e.off = 0;rotate_left
 · have eb : Ar e false false false false false false true = false := by simp only [Ar, hz1, hz2, hnm, hgo, hba, hof, go_sem, Bool.true_or]
   simp (disch := omega) only [ir92, Ac, hz1, hz2, hnm, hgo, hba, hof, eb, go_sem];refine Aa (A3 _ _) ?_;simp (disch := omega) only [Ac, hz1, hz2, hnm, hgo, hba, hof, eb, go_sem];refine Aa (A3 _ _) ?_;simp (disch := omega) only [Ac, hz1, hz2, hnm, hgo, hba, hof, eb, go_sem]
 by_cases hda : e.data = [];rotate_left
 · have eb : Ar e false false false false false false true = false := by simp only [Ar, hz1, hz2, hnm, hgo, hba, hof, hda, go_sem, Bool.true_or]
   simp (disch := omega) only [ir92, Ac, hz1, hz2, hnm, hgo, hba, hof, hda, eb, go_sem];refine Aa (A3 _ _) ?_;simp (disch := omega) only [Ac, hz1, hz2, hnm, hgo, hba, hof, hda, eb, go_sem];refine Aa (A3 _ _) ?_;simp (disch := omega) only [Ac, hz1, hz2, hnm, hgo, hba, hof, hda, eb, go_sem]
 have eb : Ar e false false false false false false true = true := by simp only [Ar, hz1, hz2, hnm, hgo, hba, hof, hda, go_sem, Bool.true_or]
 simp (disch := omega) only [ir92, Ac, hz1, hz2, hnm, hgo, hba, hof, hda, eb, go_sem];refine Aa (A3 _ _) ?_;simp (disch := omega) only [Ac, hz1, hz2, hnm, hgo, hba, hof, hda, eb, go_sem];refine Aa (A3 _ _) ?_;simp (disch := omega) only [Ac, hz1, hz2, hnm, hgo, hba, hof, hda, eb, go_sem]
set_option maxHeartbeats 4000000 in
theorem Ax2 (e : Evt) {h d} : FunOk Tryz.prog 92 [.vec 21 (Cn e), .pv (.b false), .pv (.b false), .pv (.b false), .pv (.b false), .pv (.b false), .pv (.b false), .pv (.b false)] h d (.pv (.b (Ar e false false false false false false false))) [] := by
 refine A7 Aq fn92 (by simp) rfl rfl fun F => ?_;have hl := Ac e;by_cases hz1' : Ce e.orep e.oseq = false
 · have hz1 := hz1';have eb : Ar e false false false false false false false = false := by simp only [Ar, hz1, go_sem, Bool.true_or]
   simp (disch := omega) only [ir92, Ac, hz1, eb, go_sem];refine Aa (A3 _ _) ?_;simp (disch := omega) only [Ac, hz1, eb, go_sem]
 have hz1 : Ce e.orep e.oseq = true := by simpa using hz1'
 by_cases hz2' : Ce e.drep e.dseq = false
 · have hz2 := hz2';have eb : Ar e false false false false false false false = false := by simp only [Ar, hz1, hz2, go_sem, Bool.true_or]
   simp (disch := omega) only [ir92, Ac, hz1, hz2, eb, go_sem];refine Aa (A3 _ _) ?_;simp (disch := omega) only [Ac, hz1, hz2, eb, go_sem];refine Aa (A3 _ _) ?_;simp (disch := omega) only [Ac, hz1, hz2, eb, go_sem]
 have hz2 : Ce e.drep e.dseq = true := by simpa using hz2'
 by_cases hnm : e.name = [];rotate_left
 · have eb : Ar e false false false false false false false = false := by simp only [Ar, hz1, hz2, hnm, go_sem, Bool.true_or]
   simp (disch := omega) only [ir92, Ac, hz1, hz2, hnm, eb, go_sem];refine Aa (A3 _ _) ?_;simp (disch := omega) only [Ac, hz1, hz2, hnm, eb, go_sem];refine Aa (A3 _ _) ?_;simp (disch := omega) only [Ac, hz1, hz2, hnm, eb, go_sem]
 by_cases hgo : (e.gone.l.length : Int) = 0;rotate_left
 · have eb : Ar e false false false false false false false = false := by simp only [Ar, hz1, hz2, hnm, hgo, go_sem, Bool.true_or]
   simp (disch := omega) only [ir92, Ac, hz1, hz2, hnm, hgo, eb, go_sem];refine Aa (A3 _ _) ?_;simp (disch := omega) only [Ac, hz1, hz2, hnm, hgo, eb, go_sem];refine Aa (A3 _ _) ?_;simp (disch := omega) only [Ac, hz1, hz2, hnm, hgo, eb, go_sem]
 by_cases hba : (e.base.l.length : Int) = 0;rotate_left
 · have eb : Ar e false false false false false false false = false := by simp only [Ar, hz1, hz2, hnm, hgo, hba, go_sem, Bool.true_or]
   simp (disch := omega) only [ir92, Ac, hz1, hz2, hnm, hgo, hba, eb, go_sem];refine Aa (A3 _ _) ?_;simp (disch := omega) only [Ac, hz1, hz2, hnm, hgo, hba, eb, go_sem];refine Aa (A3 _ _) ?_;simp (disch := omega) only [Ac, hz1, hz2, hnm, hgo, hba, eb, go_sem]
 by_cases hof : e.off = 0;rotate_left
 · have eb : Ar e false false false false false false false = false := by simp only [Ar, hz1, hz2, hnm, hgo, hba, hof, go_sem, Bool.true_or]
   simp (disch := omega) only [ir92, Ac, hz1, hz2, hnm, hgo, hba, hof, eb, go_sem];refine Aa (A3 _ _) ?_;simp (disch := omega) only [Ac, hz1, hz2, hnm, hgo, hba, hof, eb, go_sem];refine Aa (A3 _ _) ?_;simp (disch := omega) only [Ac, hz1, hz2, hnm, hgo, hba, hof, eb, go_sem]
 by_cases hda : e.data = [];rotate_left
 · have eb : Ar e false false false false false false false = false := by simp only [Ar, hz1, hz2, hnm, hgo, hba, hof, hda, go_sem, Bool.true_or]
   simp (disch := omega) only [ir92, Ac, hz1, hz2, hnm, hgo, hba, hof, hda, eb, go_sem];refine Aa (A3 _ _) ?_;simp (disch := omega) only [Ac, hz1, hz2, hnm, hgo, hba, hof, hda, eb, go_sem];refine Aa (A3 _ _) ?_;simp (disch := omega) only [Ac, hz1, hz2, hnm, hgo, hba, hof, hda, eb, go_sem]
 by_cases hwa : e.ward = 0;rotate_left
 · have eb : Ar e false false false false false false false = false := by simp only [Ar, hz1, hz2, hnm, hgo, hba, hof, hda, hwa, go_sem, Bool.true_or]
   simp (disch := omega) only [ir92, Ac, hz1, hz2, hnm, hgo, hba, hof, hda, hwa, eb, go_sem];refine Aa (A3 _ _) ?_;simp (disch := omega) only [Ac, hz1, hz2, hnm, hgo, hba, hof, hda, hwa, eb, go_sem];refine Aa (A3 _ _) ?_;simp (disch := omega) only [Ac, hz1, hz2, hnm, hgo, hba, hof, hda, hwa, eb, go_sem]
 have eb : Ar e false false false false false false false = true := by simp only [Ar, hz1, hz2, hnm, hgo, hba, hof, hda, hwa, go_sem, Bool.true_or]
 simp (disch := omega) only [ir92, Ac, hz1, hz2, hnm, hgo, hba, hof, hda, hwa, eb, go_sem];refine Aa (A3 _ _) ?_;simp (disch := omega) only [Ac, hz1, hz2, hnm, hgo, hba, hof, hda, hwa, eb, go_sem];refine Aa (A3 _ _) ?_;simp (disch := omega) only [Ac, hz1, hz2, hnm, hgo, hba, hof, hda, hwa, eb, go_sem]
def Q8 (b : UInt8) : Bool := decide ((97 ≤ b.toNat ∧ b.toNat ≤ 122) ∨ (65 ≤ b.toNat ∧ b.toNat ≤ 90) ∨ (48 ≤ b.toNat ∧ b.toNat ≤ 57) ∨ b.toNat = 46 ∨ b.toNat = 95 ∨ b.toNat = 45)
def Ef (s : List UInt8) : Bool := decide (1 ≤ s.length ∧ s.length ≤ 12 ∧ s ≠ [46] ∧ s ≠ [46, 46]) && s.all Q8
theorem Asl {s : List UInt8} {k : Nat} (hk : k < s.length) (h : Q8 (s.getD k 0) = false) : Ef s = false := by
 have hm : s.getD k 0 ∈ s := by rw [List.getD_eq_getElem?_getD, List.getElem?_eq_getElem hk]; exact List.getElem_mem hk
 unfold Ef;rw [show s.all Q8 = false from by rw [List.all_eq_false]; exact ⟨_, hm, by rw [h]; decide⟩, Bool.and_false]
theorem Am7 {s : List UInt8} (h1 : 1 ≤ s.length) (h2 : s.length ≤ 12) (h3 : s ≠ [46]) (h4 : s ≠ [46, 46]) (h : ∀ k, k < s.length → Q8 (s.getD k 0) = true) : Ef s = true := by
 unfold Ef;rw [decide_eq_true ⟨h1, h2, h3, h4⟩, Bool.true_and, List.all_eq_true];intro b hb;obtain ⟨k, hk, rfl⟩ := List.getElem_of_mem hb;have := h k hk
 rwa [List.getD_eq_getElem?_getD, List.getElem?_eq_getElem hk] at this
theorem Ab1 {s : List UInt8} (h : ¬ (1 ≤ s.length ∧ s.length ≤ 12 ∧ s ≠ [46] ∧ s ≠ [46, 46])) : Ef s = false := by
 unfold Ef; rw [decide_eq_false h, Bool.false_and]
def Ux (s : List UInt8) (k : Nat) : FS := mk [(3, .pv (.i .i64 k)), (0, .pv (.s s))] []
set_option maxHeartbeats 4000000 in
theorem Abt (s : List UInt8) {h d} : FunOk Tryz.prog 91 [.pv (.s s)] h d (.pv (.b (Ef s))) [] := by
 refine A7 Aq fn91 (by simp) rfl rfl fun F => ?_;by_cases h1 : s = []
 · subst h1;have e : Ef [] = false := Ab1 (by simp);have hl0 : (([] : List UInt8).length : Int) = 0 := rfl;simp (disch := omega) only [ir91, hl0, e, go_sem]
 have h1' : 1 ≤ s.length := List.length_pos_iff.2 h1;by_cases h2 : 12 < (s.length : Int)
 · have e : Ef s = false := Ab1 (by omega);simp (disch := omega) only [ir91, h1, h2, e, go_sem]
 by_cases h3 : s = [46]
 · subst h3;have e : Ef [46] = false := Ab1 (fun h => h.2.2.1 rfl);have hl0 : (([46] : List UInt8).length : Int) = 1 := rfl;simp (disch := omega) only [ir91, h1, hl0, e, go_sem]
 by_cases h4 : s = [46, 46]
 · subst h4;have e : Ef [46, 46] = false := Ab1 (fun h => h.2.2.2 rfl);have hl0 : (([46, 46] : List UInt8).length : Int) = 2 := rfl;simp (disch := omega) only [ir91, h1, h3, hl0, e, go_sem]
 simp (disch := omega) only [ir91, h1, h2, h3, h4, go_sem];refine A1 Aq (Ux s) (fun k => k ≤ s.length ∧ ∀ j, j < k → Q8 (s.getD j 0) = true) (fun k => s.length - k) 0 (by simp) (An ?_ ?_) fun k hk => ?_
 · simp (disch := omega) only [go_sem]
 · simp (disch := omega) only [go_sem]
 obtain ⟨hk1, hk2⟩ := hk;by_cases hlt : k < s.length
 · have hgo : Q8 (s.getD k 0) = true → (k + 1 ≤ s.length ∧ ∀ j, j < k + 1 → Q8 (s.getD j 0) = true) := fun h => ⟨hlt, fun j hj => by
    by_cases e : j = k
    · subst e; exact h
    · exact hk2 j (by omega)⟩
   have hbad := fun h => Asl (s := s) hlt h;generalize hb : s.getD k 0 = b at *;by_cases hok : Q8 b = true
   · have hok' := of_decide_eq_true hok;have hg := hgo hok;have : (97 ≤ b.toNat ∧ b.toNat ≤ 122) ∨ (65 ≤ b.toNat ∧ b.toNat ≤ 90) ∨ (48 ≤ b.toNat ∧ b.toNat ≤ 57) ∨ b.toNat = 46 ∨ b.toNat = 95 ∨ b.toNat = 45 := by omega
     rcases this with hc | hc | hc | hc | hc | hc
     all_goals simp (disch := omega) only [Ux, hb, hc, go_sem]
     all_goals refine Al (k + 1) _ _ rfl hg (by omega) ?_ ?_
     all_goals simp (disch := omega) only [go_sem]
   · have hok0 : Q8 b = false := by simpa using hok
     have hok' := of_decide_eq_false hok0;have hg := hbad hok0;have : b.toNat < 45 ∨ b.toNat = 47 ∨ (58 ≤ b.toNat ∧ b.toNat ≤ 64) ∨ (91 ≤ b.toNat ∧ b.toNat ≤ 94) ∨ b.toNat = 96 ∨ 123 ≤ b.toNat := by omega
     rcases this with hc | hc | hc | hc | hc | hc
     all_goals simp (disch := omega) only [Ux, hb, hc, hg, go_sem]
 · obtain rfl : k = s.length := by omega
   have e := Am7 h1' (by omega) h3 h4 hk2;simp (disch := omega) only [Ux, e, go_sem]
end Go.Proofs.YtannaphhhkncoaaGreat.Fw
namespace Go.Proofs.YtannaphhhkncoaaGreat.Fw
open Go.RowKit Go.Proofs
def Ik (e : Evt) : Prop := 1 ≤ e.rep ∧ e.rep ≤ 8 ∧ 1 ≤ e.seq ∧ e.seq ≤ 1048576 ∧ e.dep (e.rep - 1).toNat + 1 = e.seq ∧ 1 ≤ e.kind ∧ e.kind ≤ 9
def Qk (e : Evt) : Prop := ∀ i, i < 8 → e.dep i ≤ 1048576
def D1 (b : Evt) : Bool := Ce b.orep b.oseq && (Ce b.drep b.dseq && (decide (b.name = []) && (decide ((b.gone.l.length : Int) = 0) && (decide ((b.base.l.length : Int) = 0) && (decide (b.off = 0) && (decide (b.data = []) && decide (b.ward = 0)))))))
noncomputable def F5 (e : Evt) : Bool :=
 if e.kind = 1 ∨ e.kind = 2 then (Ed e && (Ef e.name))
 else if e.kind = 3 then (Cm e.dep e.orep e.oseq && (Gv e.base.l 1 e.dep && (Eb (e.off) && (decide ((1 : Int) ≤ (e.data.length : Int)) && (Eb ((e.data.length : Int)) && (Eb (e.off + (e.data.length : Int))))))))
 else if e.kind = 4 then (Cm e.dep e.orep e.oseq && (Gv e.base.l 1 e.dep && (Eb (e.off))))
 else if e.kind = 5 then (Cm e.dep e.orep e.oseq && (Gv e.base.l 8 e.dep && (decide ((2 : Int) ≤ (e.base.l.length : Int)) && (Eb ((e.data.length : Int))))))
 else if e.kind = 6 then (Cm e.dep e.orep e.oseq && (Gv e.gone.l 8 e.dep))
 else if e.kind = 7 then (Cm e.dep e.orep e.oseq && (Gv e.gone.l 8 e.dep && (Ed e && (Ef e.name))))
 else if e.kind = 8 then (decide (1 ≤ e.ward) && (decide (e.ward ≤ 4)))
 else true
open Classical in
noncomputable def Cc (e : Evt) : Bool := decide (Ik e) && (decide (Qk e) && (D1 (F8 e) && F5 e))
theorem Mt {e : Evt} (h : ¬ Ik e) : Cc e = false := by simp [Cc, h]
theorem Alr {e : Evt} (h : ¬ Qk e) : Cc e = false := by simp [Cc, h]
def ev (e : Evt) : Prop := e.gone.ok ∧ e.base.ok ∧ e.gone.l.length ≤ 1000 ∧ e.base.l.length ≤ 1000 ∧ e.data.length ≤ 100000
theorem Ald {e : Evt} (h : e.kind = 1) : F5 e = (Ed e && (Ef e.name)) := by simp [F5, h]
theorem Alc {e : Evt} (h : e.kind = 2) : F5 e = (Ed e && (Ef e.name)) := by simp [F5, h]
theorem Re {e : Evt} (h : e.kind = 3) : F5 e = (Cm e.dep e.orep e.oseq && (Gv e.base.l 1 e.dep && (Eb (e.off) && (decide ((1 : Int) ≤ (e.data.length : Int)) && (Eb ((e.data.length : Int)) && (Eb (e.off + (e.data.length : Int)))))))) := by simp [F5, h]
theorem U8 {e : Evt} (h : e.kind = 4) : F5 e = (Cm e.dep e.orep e.oseq && (Gv e.base.l 1 e.dep && (Eb (e.off)))) := by simp [F5, h]
theorem Rd {e : Evt} (h : e.kind = 5) : F5 e = (Cm e.dep e.orep e.oseq && (Gv e.base.l 8 e.dep && (decide ((2 : Int) ≤ (e.base.l.length : Int)) && (Eb ((e.data.length : Int)))))) := by simp [F5, h]
theorem Alb {e : Evt} (h : e.kind = 6) : F5 e = (Cm e.dep e.orep e.oseq && (Gv e.gone.l 8 e.dep)) := by simp [F5, h]
theorem Ala {e : Evt} (h : e.kind = 7) : F5 e = (Cm e.dep e.orep e.oseq && (Gv e.gone.l 8 e.dep && (Ed e && (Ef e.name)))) := by simp [F5, h]
theorem Ak9 {e : Evt} (h : e.kind = 8) : F5 e = (decide (1 ≤ e.ward) && (decide (e.ward ≤ 4))) := by simp [F5, h]
theorem Ak8 {e : Evt} (h : e.kind = 9) : F5 e = (true) := by simp [F5, h]
theorem F7 {e : Evt} (h1 : Ik e) (h2 : Qk e) : Cc e = (D1 (F8 e) && F5 e) := by simp [Cc, h1, h2]
theorem Li : Ce 0 0 = true := rfl
theorem Atl (l : List Ca) (n : Int) (a : Vc) : Gv l n a = (Gj a l && decide ((l.length : Int) ≤ n)) := by unfold Gv; rw [Bool.and_comm]
theorem A1p (f : Int) (s : List UInt8) : (Eb f && (decide ((1 : Int) ≤ (s.length : Int)) && (Eb (s.length : Int) && Eb (f + (s.length : Int))))) = (Eb f && (!decide (s = []) && decide ((s.length : Int) ≤ 200 - f))) := by
 have e1 : decide ((1 : Int) ≤ (s.length : Int)) = !decide (s = []) := by
  cases s with
  | nil => rfl
  | cons a s => simp; omega
 rw [e1];unfold Eb;by_cases h1 : 0 ≤ f ∧ f ≤ 200
 · rw [decide_eq_true h1, Bool.true_and, Bool.true_and];congr 1;rw [← Bool.decide_and];exact decide_eq_decide.2 (by omega)
 · rw [decide_eq_false h1, Bool.false_and, Bool.false_and]
theorem Aqu (s : List UInt8) : Eb (s.length : Int) = decide ((s.length : Int) ≤ 200) := decide_eq_decide.2 (by omega)
theorem A10 {e : Evt} (h : e.kind = 1) : D1 (F8 e) = Ar e false true false false false false false := by simp [D1, F8, Ar, h, Li, SlI.nil, Bool.and_assoc]
theorem A0j {e : Evt} (h1 : Ik e) (h2 : Qk e) (h : e.kind = 1) : Cc e = (Ar e false true false false false false false && (Ed e && (Ef e.name))) := by rw [F7 h1 h2, A10 h, Ald h]
theorem A1z {e : Evt} (h : e.kind = 2) : D1 (F8 e) = Ar e false true false false false false false := by simp [D1, F8, Ar, h, Li, SlI.nil, Bool.and_assoc]
theorem A0i {e : Evt} (h1 : Ik e) (h2 : Qk e) (h : e.kind = 2) : Cc e = (Ar e false true false false false false false && (Ed e && (Ef e.name))) := by rw [F7 h1 h2, A1z h, Alc h]
theorem A7w {e : Evt} (h : e.kind = 3) : D1 (F8 e) = Ar e true false false true true true false := by simp [D1, F8, Ar, h, Li, SlI.nil, Bool.and_assoc]
theorem A0h {e : Evt} (h1 : Ik e) (h2 : Qk e) (h : e.kind = 3) : Cc e = (Ar e true false false true true true false && (Cm e.dep e.orep e.oseq && (Gj e.dep e.base.l && (decide ((e.base.l.length : Int) ≤ 1) && (Eb e.off && (!decide (e.data = []) && (decide ((e.data.length : Int) ≤ 200 - e.off)))))))) := by rw [F7 h1 h2, A7w h, Re h]; simp only [Atl, A1p, Bool.and_assoc]
theorem A1y {e : Evt} (h : e.kind = 4) : D1 (F8 e) = Ar e true false false true true false false := by simp [D1, F8, Ar, h, Li, SlI.nil, Bool.and_assoc]
theorem A0g {e : Evt} (h1 : Ik e) (h2 : Qk e) (h : e.kind = 4) : Cc e = (Ar e true false false true true false false && (Cm e.dep e.orep e.oseq && (Gj e.dep e.base.l && (decide ((e.base.l.length : Int) ≤ 1) && (Eb e.off))))) := by rw [F7 h1 h2, A1y h, U8 h]; simp only [Atl, A1p, Bool.and_assoc]
theorem A7v {e : Evt} (h : e.kind = 5) : D1 (F8 e) = Ar e true false false true false true false := by simp [D1, F8, Ar, h, Li, SlI.nil, Bool.and_assoc]
theorem A0f {e : Evt} (h1 : Ik e) (h2 : Qk e) (h : e.kind = 5) : Cc e = (Ar e true false false true false true false && (Cm e.dep e.orep e.oseq && (Gj e.dep e.base.l && (decide ((2 : Int) ≤ (e.base.l.length : Int)) && (decide ((e.base.l.length : Int) ≤ 8) && (decide ((e.data.length : Int) ≤ 200))))))) := by rw [F7 h1 h2, A7v h, Rd h]; simp only [Atl, Aqu, Bool.and_assoc]; congr 3; cases decide ((e.base.l.length : Int) ≤ 8) <;> cases decide ((2 : Int) ≤ (e.base.l.length : Int)) <;> rfl
theorem A1x {e : Evt} (h : e.kind = 6) : D1 (F8 e) = Ar e true false true false false false false := by simp [D1, F8, Ar, h, Li, SlI.nil, Bool.and_assoc]
theorem A0e {e : Evt} (h1 : Ik e) (h2 : Qk e) (h : e.kind = 6) : Cc e = (Ar e true false true false false false false && (Cm e.dep e.orep e.oseq && (Gv e.gone.l 8 e.dep))) := by rw [F7 h1 h2, A1x h, Alb h]
theorem A1w {e : Evt} (h : e.kind = 7) : D1 (F8 e) = Ar e true true true false false false false := by simp [D1, F8, Ar, h, Li, SlI.nil, Bool.and_assoc]
theorem A0d {e : Evt} (h1 : Ik e) (h2 : Qk e) (h : e.kind = 7) : Cc e = (Ar e true true true false false false false && (Cm e.dep e.orep e.oseq && (Gv e.gone.l 8 e.dep && (Ed e && (Ef e.name))))) := by rw [F7 h1 h2, A1w h, Ala h]
theorem A1v {e : Evt} (h : e.kind = 8) : D1 (F8 e) = Ar e false false false false false false true := by simp [D1, F8, Ar, h, Li, SlI.nil, Bool.and_assoc]
theorem A0c {e : Evt} (h1 : Ik e) (h2 : Qk e) (h : e.kind = 8) : Cc e = (Ar e false false false false false false true && (decide (1 ≤ e.ward) && (decide (e.ward ≤ 4)))) := by rw [F7 h1 h2, A1v h, Ak9 h]
theorem A1u {e : Evt} (h : e.kind = 9) : D1 (F8 e) = Ar e false false false false false false false := by simp [D1, F8, Ar, h, Li, SlI.nil, Bool.and_assoc]
theorem A0b {e : Evt} (h1 : Ik e) (h2 : Qk e) (h : e.kind = 9) : Cc e = (Ar e false false false false false false false && (true)) := by rw [F7 h1 h2, A1u h, Ak8 h]
def Aba (e : Evt) (k : Nat) : FS := mk [(3, .pv (.i .i64 k)), (1, .p 1 0)] [(1, some (.var (.vec 21 (Cn e))))]
theorem A18 {a b : Nat} (ha : a < 4294967296) (hb : 1 ≤ b ∧ b ≤ 1048576) (h : ¬ a + 1 = b) : ¬ IntKind.u32.wrap ((a : Int) + 1) = (b : Int) := by
 by_cases h1 : a + 1 < 4294967296
 · rw [Qm (by omega)]; omega
 · have : (a : Int) + 1 = 4294967296 := by omega
   rw [this];have : IntKind.u32.wrap 4294967296 = 0 := by decide
   rw [this]; omega
set_option maxHeartbeats 40000000 in
theorem Ar4 (e : Evt) (he : ev e) (hdep : ∀ i, i < 8 → e.dep i < 4294967296) {h d} : FunOk Tryz.prog 51 [.vec 21 (Cn e)] h d (.pv (.b (Cc e))) [] := by
 refine A7 Aq fn51 (by simp) rfl rfl fun F => ?_;have hl := Ac e;obtain ⟨hg, hb, hgn, hbn, hdl⟩ := he;by_cases r1 : e.rep < 1
 · have eb := Mt (e := e) fun h => by have := h.1; omega
   simp (disch := omega) only [ir51, Fv, r1, eb, go_sem]
 by_cases r2 : 8 < e.rep
 · have eb := Mt (e := e) fun h => by have := h.2.1; omega
   simp (disch := omega) only [ir51, Fv, r1, r2, eb, go_sem]
 by_cases r3 : (e.seq : Int) < 1
 · have eb := Mt (e := e) fun h => by have := h.2.2.1; omega
   simp (disch := omega) only [ir51, Fv, Jc, r1, r2, r3, eb, go_sem]
 by_cases r4 : 1048576 < (e.seq : Int)
 · have eb := Mt (e := e) fun h => by have := h.2.2.2.1; omega
   simp (disch := omega) only [ir51, Fv, Jc, r1, r2, r3, r4, eb, go_sem]
 obtain ⟨k, hk⟩ : ∃ k : Nat, e.rep = (k : Int) + 1 := ⟨(e.rep - 1).toNat, by omega⟩
 have hk8 : k < 8 := by omega
 have ekn : (e.rep - 1).toNat = k := by omega
 have egv : Mk e.dep ((k : Int) + 1) = e.dep k := by
  have e1 : ((k : Int) + 1 - 1).toNat = k := by omega
  simp [Mk, e1]; omega
 have hdk := hdep k hk8;by_cases r5 : e.dep k + 1 = e.seq;rotate_left
 · have eb := Mt (e := e) fun h => by have := h.2.2.2.2.1; rw [ekn] at this; omega
   have hw := A18 hdk (by omega) r5;simp (disch := omega) only [ir51, Fv, Jc, Jb, Hz, hk, r3, r4, eb, go_sem];refine Aa (P0 _ _) ?_;simp (disch := omega) only [egv, hw, Jc, eb, go_sem]
 have r5' : (e.dep k : Int) + 1 = (e.seq : Int) := by omega
 simp (disch := omega) only [ir51, Fv, Jc, Jb, Hz, hk, r3, r4, go_sem];refine Aa (P0 _ _) ?_;simp (disch := omega) only [egv, r5', Jc, go_sem];refine A1 Aq (Aba e) (fun k => k ≤ 8 ∧ ∀ i, i < k → e.dep i ≤ 1048576) (fun k => 8 - k) 0 (by simp) (An ?_ ?_) fun j hj => ?_
 · simp (disch := omega) only [go_sem]
 · simp (disch := omega) only [go_sem]
 obtain ⟨hj1, hj2⟩ := hj;by_cases hlt : j < 8
 · by_cases hd : 1048576 < (e.dep j : Int)
   · have eb := Alr (e := e) fun h => by have := h j hlt; omega
     simp (disch := omega) only [Aba, Xc, hd, eb, go_sem]
   · simp (disch := omega) only [Aba, Xc, hd, go_sem];refine Al (j + 1) _ _ rfl ⟨by omega, fun i hi => ?_⟩ (by omega) ?_ ?_
     · by_cases e : i = j
       · subst e; omega
       · exact hj2 i (by omega)
     · simp (disch := omega) only [go_sem]
     · simp (disch := omega) only [go_sem]
 obtain rfl : j = 8 := by omega
 have hD : Qk e := hj2;simp (disch := omega) only [Aba, Ac, go_sem];refine Aa (Pz _ _ _) ?_;simp (disch := omega) only [Ac, go_sem];refine Aa (A3 _ _) ?_;by_cases hz' : Ce e.drep e.dseq = false
 all_goals first
  | (have hpl : Ed e = Cm e.dep e.drep e.dseq := by simp only [Ed, hz', Bool.false_or]
     simp (disch := omega) only [hz', go_sem];refine Aa (Pz _ _ _) ?_)
  | (have hz : Ce e.drep e.dseq = true := by simpa using hz'
     have hpl : Ed e = true := by simp only [Ed, hz, Bool.true_or]
     simp (disch := omega) only [hz, go_sem])
 all_goals by_cases hgl0 : (e.gone.l.length : Int) ≤ 8
 all_goals first
  | (have hgl : Gv e.gone.l 8 e.dep = Gj e.dep e.gone.l := by simp only [Gv, hgl0, decide_true, Bool.true_and]
     (try simp only [Ak, Aj, Ai, Ah, Ag, Af, Ae, Ad]); simp (disch := omega) only [hgl0, go_sem]
     refine Aa (Arv (l := e.gone.l) hg hgn) ?_;simp (disch := omega) only [hgl0, go_sem])
  | (have hgl : Gv e.gone.l 8 e.dep = false := by simp only [Gv, hgl0, decide_false, Bool.false_and]
     (try simp only [Ak, Aj, Ai, Ah, Ag, Af, Ae, Ad]); simp (disch := omega) only [hgl0, go_sem])
 all_goals refine Aa (Arv (l := e.base.l) hb hbn) ?_
 all_goals by_cases ho1 : 0 ≤ e.off
 rotate_left
 all_goals by_cases ho2 : e.off ≤ 200
 all_goals try (exfalso; omega)
 all_goals first
  | (have hso : Eb e.off = true := decide_eq_true ⟨ho1, ho2⟩
     simp (disch := omega) only [hgl0, ho1, ho2, go_sem])
  | (have hso : Eb e.off = false := decide_eq_false (by omega)
     simp (disch := omega) only [hgl0, ho1, ho2, go_sem])
 all_goals
  by_cases hkr : 1 ≤ e.kind ∧ e.kind ≤ 9;rotate_left
  · have eb := Mt (e := e) fun h => by have := h.2.2.2.2.2; omega
    have hn1 : ¬ e.kind = 1 := by omega
    have hn2 : ¬ e.kind = 2 := by omega
    have hn3 : ¬ e.kind = 3 := by omega
    have hn4 : ¬ e.kind = 4 := by omega
    have hn5 : ¬ e.kind = 5 := by omega
    have hn6 : ¬ e.kind = 6 := by omega
    have hn7 : ¬ e.kind = 7 := by omega
    have hn8 : ¬ e.kind = 8 := by omega
    have hn9 : ¬ e.kind = 9 := by omega
    (try simp only [Ak, Aj, Ai, Ah, Ag, Af, Ae, Ad]); simp (disch := omega) only [Ac, hn1, hn2, hn3, hn4, hn5, hn6, hn7, hn8, hn9, eb, go_sem]
  have hB : Ik e := ⟨by omega, by omega, by omega, by omega, by rw [ekn]; omega, by omega, by omega⟩
  have hkk : e.kind = 1 ∨ e.kind = 2 ∨ e.kind = 3 ∨ e.kind = 4 ∨ e.kind = 5 ∨ e.kind = 6 ∨ e.kind = 7 ∨ e.kind = 8 ∨ e.kind = 9 := by omega
  rcases hkk with hki | hki | hki | hki | hki | hki | hki | hki | hki
  · have ez := A0j hB hD hki;by_cases s0' : Ed e = false
    · first
       | exact absurd (hpl.symm.trans s0') (by decide)
       | (have s0b := hpl.symm.trans s0'
          simp only [s0', decide_true, decide_false, Bool.true_and, Bool.false_and, Bool.and_true, Bool.and_false, Bool.and_self, Bool.not_true, Bool.not_false] at ez
          (try simp only [Ak, Aj, Ai, Ah, Ag, Af, Ae, Ad]); simp (disch := omega) only [Ac, hki, s0b, ez, go_sem])
    have s0 : Ed e = true := by simpa using s0'
    have s0b := hpl.symm.trans s0
    first
     | exact absurd s0b (by decide)
     | ((try simp only [Ak, Aj, Ai, Ah, Ag, Af, Ae, Ad]); simp (disch := omega) only [Ac, hki, s0b, go_sem]
        refine Aa (Abt _) ?_;by_cases s1' : Ef e.name = false
        · simp only [s0, s1', decide_true, decide_false, Bool.true_and, Bool.false_and, Bool.and_true, Bool.and_false, Bool.and_self, Bool.not_true, Bool.not_false] at ez;simp (disch := omega) only [Ac, s0b, s1', ez, go_sem]
        have s1 : Ef e.name = true := by simpa using s1'
        simp (disch := omega) only [Ac, s0b, s1, go_sem];refine Aa (Akt e) ?_;simp only [s0, s1, decide_true, decide_false, Bool.true_and, Bool.false_and, Bool.and_true, Bool.and_false, Bool.and_self, Bool.not_true, Bool.not_false] at ez;simp (disch := omega) only [s0b, s1, ez, go_sem])
  · have ez := A0i hB hD hki;by_cases s0' : Ed e = false
    · first
       | exact absurd (hpl.symm.trans s0') (by decide)
       | (have s0b := hpl.symm.trans s0'
          simp only [s0', decide_true, decide_false, Bool.true_and, Bool.false_and, Bool.and_true, Bool.and_false, Bool.and_self, Bool.not_true, Bool.not_false] at ez
          (try simp only [Ak, Aj, Ai, Ah, Ag, Af, Ae, Ad]); simp (disch := omega) only [Ac, hki, s0b, ez, go_sem])
    have s0 : Ed e = true := by simpa using s0'
    have s0b := hpl.symm.trans s0
    first
     | exact absurd s0b (by decide)
     | ((try simp only [Ak, Aj, Ai, Ah, Ag, Af, Ae, Ad]); simp (disch := omega) only [Ac, hki, s0b, go_sem]
        refine Aa (Abt _) ?_;by_cases s1' : Ef e.name = false
        · simp only [s0, s1', decide_true, decide_false, Bool.true_and, Bool.false_and, Bool.and_true, Bool.and_false, Bool.and_self, Bool.not_true, Bool.not_false] at ez;simp (disch := omega) only [Ac, s0b, s1', ez, go_sem]
        have s1 : Ef e.name = true := by simpa using s1'
        simp (disch := omega) only [Ac, s0b, s1, go_sem];refine Aa (Akt e) ?_;simp only [s0, s1, decide_true, decide_false, Bool.true_and, Bool.false_and, Bool.and_true, Bool.and_false, Bool.and_self, Bool.not_true, Bool.not_false] at ez;simp (disch := omega) only [s0b, s1, ez, go_sem])
  · have ez := A0h hB hD hki;by_cases s0' : Cm e.dep e.orep e.oseq = false
    · simp only [s0', decide_true, decide_false, Bool.true_and, Bool.false_and, Bool.and_true, Bool.and_false, Bool.and_self, Bool.not_true, Bool.not_false] at ez
      (try simp only [Ak, Aj, Ai, Ah, Ag, Af, Ae, Ad]); simp (disch := omega) only [Ac, hki, s0', ez, go_sem]
    have s0 : Cm e.dep e.orep e.oseq = true := by simpa using s0'
    by_cases s1' : Gj e.dep e.base.l = false
    · simp only [s0, s1', decide_true, decide_false, Bool.true_and, Bool.false_and, Bool.and_true, Bool.and_false, Bool.and_self, Bool.not_true, Bool.not_false] at ez
      (try simp only [Ak, Aj, Ai, Ah, Ag, Af, Ae, Ad]); simp (disch := omega) only [Ac, hki, s0, s1', ez, go_sem]
    have s1 : Gj e.dep e.base.l = true := by simpa using s1'
    by_cases s2 : (e.base.l.length : Int) ≤ 1;rotate_left
    · simp only [s0, s1, s2, decide_true, decide_false, Bool.true_and, Bool.false_and, Bool.and_true, Bool.and_false, Bool.and_self, Bool.not_true, Bool.not_false] at ez
      (try simp only [Ak, Aj, Ai, Ah, Ag, Af, Ae, Ad]); simp (disch := omega) only [Ac, hki, s0, s1, s2, ez, go_sem]
    by_cases s3' : Eb e.off = false
    · first
       | exact absurd (hso.symm.trans s3') (by decide)
       | (have s3b := hso.symm.trans s3'
          simp only [s0, s1, s2, s3', decide_true, decide_false, Bool.true_and, Bool.false_and, Bool.and_true, Bool.and_false, Bool.and_self, Bool.not_true, Bool.not_false] at ez
          (try simp only [Ak, Aj, Ai, Ah, Ag, Af, Ae, Ad]); simp (disch := omega) only [Ac, hki, s0, s1, s2, s3b, ez, go_sem])
    have s3 : Eb e.off = true := by simpa using s3'
    have s3b := hso.symm.trans s3
    first
     | exact absurd s3b (by decide)
     | (by_cases s4 : e.data = []
        · simp only [s0, s1, s2, s3, s4, decide_true, decide_false, Bool.true_and, Bool.false_and, Bool.and_true, Bool.and_false, Bool.and_self, Bool.not_true, Bool.not_false] at ez
          (try simp only [Ak, Aj, Ai, Ah, Ag, Af, Ae, Ad]); simp (disch := omega) only [Ac, hki, s0, s1, s2, s4, ez, go_sem]
        by_cases s5 : (e.data.length : Int) ≤ 200 - e.off;rotate_left
        · simp only [s0, s1, s2, s3, s4, s5, decide_true, decide_false, Bool.true_and, Bool.false_and, Bool.and_true, Bool.and_false, Bool.and_self, Bool.not_true, Bool.not_false] at ez
          (try simp only [Ak, Aj, Ai, Ah, Ag, Af, Ae, Ad]); simp (disch := omega) only [Ac, hki, s0, s1, s2, s4, s5, ez, go_sem]
        (try simp only [Ak, Aj, Ai, Ah, Ag, Af, Ae, Ad]); simp (disch := omega) only [Ac, hki, s0, s1, s2, s4, s5, go_sem]
        refine Aa (Ah4 e) ?_;simp only [s0, s1, s2, s3, s4, s5, decide_true, decide_false, Bool.true_and, Bool.false_and, Bool.and_true, Bool.and_false, Bool.and_self, Bool.not_true, Bool.not_false] at ez;simp (disch := omega) only [s0, s1, s2, s4, s5, ez, go_sem])
  · have ez := A0g hB hD hki;by_cases s0' : Cm e.dep e.orep e.oseq = false
    · simp only [s0', decide_true, decide_false, Bool.true_and, Bool.false_and, Bool.and_true, Bool.and_false, Bool.and_self, Bool.not_true, Bool.not_false] at ez
      (try simp only [Ak, Aj, Ai, Ah, Ag, Af, Ae, Ad]); simp (disch := omega) only [Ac, hki, s0', ez, go_sem]
    have s0 : Cm e.dep e.orep e.oseq = true := by simpa using s0'
    by_cases s1' : Gj e.dep e.base.l = false
    · simp only [s0, s1', decide_true, decide_false, Bool.true_and, Bool.false_and, Bool.and_true, Bool.and_false, Bool.and_self, Bool.not_true, Bool.not_false] at ez
      (try simp only [Ak, Aj, Ai, Ah, Ag, Af, Ae, Ad]); simp (disch := omega) only [Ac, hki, s0, s1', ez, go_sem]
    have s1 : Gj e.dep e.base.l = true := by simpa using s1'
    by_cases s2 : (e.base.l.length : Int) ≤ 1;rotate_left
    · simp only [s0, s1, s2, decide_true, decide_false, Bool.true_and, Bool.false_and, Bool.and_true, Bool.and_false, Bool.and_self, Bool.not_true, Bool.not_false] at ez
      (try simp only [Ak, Aj, Ai, Ah, Ag, Af, Ae, Ad]); simp (disch := omega) only [Ac, hki, s0, s1, s2, ez, go_sem]
    by_cases s3' : Eb e.off = false
    · first
       | exact absurd (hso.symm.trans s3') (by decide)
       | (have s3b := hso.symm.trans s3'
          simp only [s0, s1, s2, s3', decide_true, decide_false, Bool.true_and, Bool.false_and, Bool.and_true, Bool.and_false, Bool.and_self, Bool.not_true, Bool.not_false] at ez
          (try simp only [Ak, Aj, Ai, Ah, Ag, Af, Ae, Ad]); simp (disch := omega) only [Ac, hki, s0, s1, s2, s3b, ez, go_sem])
    have s3 : Eb e.off = true := by simpa using s3'
    have s3b := hso.symm.trans s3
    first
     | exact absurd s3b (by decide)
     | ((try simp only [Ak, Aj, Ai, Ah, Ag, Af, Ae, Ad]); simp (disch := omega) only [Ac, hki, s0, s1, s2, go_sem]
        refine Aa (Amy e) ?_;simp only [s0, s1, s2, s3, decide_true, decide_false, Bool.true_and, Bool.false_and, Bool.and_true, Bool.and_false, Bool.and_self, Bool.not_true, Bool.not_false] at ez;simp (disch := omega) only [s0, s1, s2, ez, go_sem])
  · have ez := A0f hB hD hki;by_cases s0' : Cm e.dep e.orep e.oseq = false
    · simp only [s0', decide_true, decide_false, Bool.true_and, Bool.false_and, Bool.and_true, Bool.and_false, Bool.and_self, Bool.not_true, Bool.not_false] at ez
      (try simp only [Ak, Aj, Ai, Ah, Ag, Af, Ae, Ad]); simp (disch := omega) only [Ac, hki, s0', ez, go_sem]
    have s0 : Cm e.dep e.orep e.oseq = true := by simpa using s0'
    by_cases s1' : Gj e.dep e.base.l = false
    · simp only [s0, s1', decide_true, decide_false, Bool.true_and, Bool.false_and, Bool.and_true, Bool.and_false, Bool.and_self, Bool.not_true, Bool.not_false] at ez
      (try simp only [Ak, Aj, Ai, Ah, Ag, Af, Ae, Ad]); simp (disch := omega) only [Ac, hki, s0, s1', ez, go_sem]
    have s1 : Gj e.dep e.base.l = true := by simpa using s1'
    by_cases s2 : (2 : Int) ≤ (e.base.l.length : Int);rotate_left
    · simp only [s0, s1, s2, decide_true, decide_false, Bool.true_and, Bool.false_and, Bool.and_true, Bool.and_false, Bool.and_self, Bool.not_true, Bool.not_false] at ez
      (try simp only [Ak, Aj, Ai, Ah, Ag, Af, Ae, Ad]); simp (disch := omega) only [Ac, hki, s0, s1, s2, ez, go_sem]
    by_cases s3 : (e.base.l.length : Int) ≤ 8;rotate_left
    · simp only [s0, s1, s2, s3, decide_true, decide_false, Bool.true_and, Bool.false_and, Bool.and_true, Bool.and_false, Bool.and_self, Bool.not_true, Bool.not_false] at ez
      (try simp only [Ak, Aj, Ai, Ah, Ag, Af, Ae, Ad]); simp (disch := omega) only [Ac, hki, s0, s1, s2, s3, ez, go_sem]
    by_cases s4 : (e.data.length : Int) ≤ 200;rotate_left
    · simp only [s0, s1, s2, s3, s4, decide_true, decide_false, Bool.true_and, Bool.false_and, Bool.and_true, Bool.and_false, Bool.and_self, Bool.not_true, Bool.not_false] at ez
      (try simp only [Ak, Aj, Ai, Ah, Ag, Af, Ae, Ad]); simp (disch := omega) only [Ac, hki, s0, s1, s2, s3, s4, ez, go_sem]
    (try simp only [Ak, Aj, Ai, Ah, Ag, Af, Ae, Ad]); simp (disch := omega) only [Ac, hki, s0, s1, s2, s3, s4, go_sem]
    refine Aa (Amz e) ?_;simp only [s0, s1, s2, s3, s4, decide_true, decide_false, Bool.true_and, Bool.false_and, Bool.and_true, Bool.and_false, Bool.and_self, Bool.not_true, Bool.not_false] at ez;simp (disch := omega) only [s0, s1, s2, s3, s4, ez, go_sem]
  · have ez := A0e hB hD hki;by_cases s0' : Cm e.dep e.orep e.oseq = false
    · simp only [s0', decide_true, decide_false, Bool.true_and, Bool.false_and, Bool.and_true, Bool.and_false, Bool.and_self, Bool.not_true, Bool.not_false] at ez
      (try simp only [Ak, Aj, Ai, Ah, Ag, Af, Ae, Ad]); simp (disch := omega) only [Ac, hki, s0', ez, go_sem]
    have s0 : Cm e.dep e.orep e.oseq = true := by simpa using s0'
    by_cases s1' : Gv e.gone.l 8 e.dep = false
    · first
       | exact absurd (hgl.symm.trans s1') (by decide)
       | (have s1b := hgl.symm.trans s1'
          simp only [s0, s1', decide_true, decide_false, Bool.true_and, Bool.false_and, Bool.and_true, Bool.and_false, Bool.and_self, Bool.not_true, Bool.not_false] at ez
          (try simp only [Ak, Aj, Ai, Ah, Ag, Af, Ae, Ad]); simp (disch := omega) only [Ac, hki, s0, s1b, ez, go_sem])
    have s1 : Gv e.gone.l 8 e.dep = true := by simpa using s1'
    have s1b := hgl.symm.trans s1
    first
     | exact absurd s1b (by decide)
     | ((try simp only [Ak, Aj, Ai, Ah, Ag, Af, Ae, Ad]); simp (disch := omega) only [Ac, hki, s0, s1b, go_sem]
        refine Aa (Ar0 e) ?_;simp only [s0, s1, decide_true, decide_false, Bool.true_and, Bool.false_and, Bool.and_true, Bool.and_false, Bool.and_self, Bool.not_true, Bool.not_false] at ez;simp (disch := omega) only [s0, s1b, ez, go_sem])
  · have ez := A0d hB hD hki;by_cases s0' : Cm e.dep e.orep e.oseq = false
    · simp only [s0', decide_true, decide_false, Bool.true_and, Bool.false_and, Bool.and_true, Bool.and_false, Bool.and_self, Bool.not_true, Bool.not_false] at ez
      (try simp only [Ak, Aj, Ai, Ah, Ag, Af, Ae, Ad]); simp (disch := omega) only [Ac, hki, s0', ez, go_sem]
    have s0 : Cm e.dep e.orep e.oseq = true := by simpa using s0'
    by_cases s1' : Gv e.gone.l 8 e.dep = false
    · first
       | exact absurd (hgl.symm.trans s1') (by decide)
       | (have s1b := hgl.symm.trans s1'
          simp only [s0, s1', decide_true, decide_false, Bool.true_and, Bool.false_and, Bool.and_true, Bool.and_false, Bool.and_self, Bool.not_true, Bool.not_false] at ez
          (try simp only [Ak, Aj, Ai, Ah, Ag, Af, Ae, Ad]); simp (disch := omega) only [Ac, hki, s0, s1b, ez, go_sem])
    have s1 : Gv e.gone.l 8 e.dep = true := by simpa using s1'
    have s1b := hgl.symm.trans s1
    first
     | exact absurd s1b (by decide)
     | (by_cases s2' : Ed e = false
        · first
           | exact absurd (hpl.symm.trans s2') (by decide)
           | (have s2b := hpl.symm.trans s2'
              simp only [s0, s1, s2', decide_true, decide_false, Bool.true_and, Bool.false_and, Bool.and_true, Bool.and_false, Bool.and_self, Bool.not_true, Bool.not_false] at ez
              (try simp only [Ak, Aj, Ai, Ah, Ag, Af, Ae, Ad]); simp (disch := omega) only [Ac, hki, s0, s1b, s2b, ez, go_sem])
        have s2 : Ed e = true := by simpa using s2'
        have s2b := hpl.symm.trans s2
        first
         | exact absurd s2b (by decide)
         | ((try simp only [Ak, Aj, Ai, Ah, Ag, Af, Ae, Ad]); simp (disch := omega) only [Ac, hki, s0, s1b, s2b, go_sem]
            refine Aa (Abt _) ?_;by_cases s3' : Ef e.name = false
            · simp only [s0, s1, s2, s3', decide_true, decide_false, Bool.true_and, Bool.false_and, Bool.and_true, Bool.and_false, Bool.and_self, Bool.not_true, Bool.not_false] at ez;simp (disch := omega) only [Ac, s0, s1b, s2b, s3', ez, go_sem]
            have s3 : Ef e.name = true := by simpa using s3'
            simp (disch := omega) only [Ac, s0, s1b, s2b, s3, go_sem];refine Aa (Amx e) ?_;simp only [s0, s1, s2, s3, decide_true, decide_false, Bool.true_and, Bool.false_and, Bool.and_true, Bool.and_false, Bool.and_self, Bool.not_true, Bool.not_false] at ez;simp (disch := omega) only [s0, s1b, s2b, s3, ez, go_sem]))
  · have ez := A0c hB hD hki;by_cases s0 : 1 ≤ e.ward;rotate_left
    · simp only [s0, decide_true, decide_false, Bool.true_and, Bool.false_and, Bool.and_true, Bool.and_false, Bool.and_self, Bool.not_true, Bool.not_false] at ez
      (try simp only [Ak, Aj, Ai, Ah, Ag, Af, Ae, Ad]); simp (disch := omega) only [Ac, hki, s0, ez, go_sem]
    by_cases s1 : e.ward ≤ 4;rotate_left
    · simp only [s0, s1, decide_true, decide_false, Bool.true_and, Bool.false_and, Bool.and_true, Bool.and_false, Bool.and_self, Bool.not_true, Bool.not_false] at ez
      (try simp only [Ak, Aj, Ai, Ah, Ag, Af, Ae, Ad]); simp (disch := omega) only [Ac, hki, s0, s1, ez, go_sem]
    (try simp only [Ak, Aj, Ai, Ah, Ag, Af, Ae, Ad]); simp (disch := omega) only [Ac, hki, s0, s1, go_sem]
    refine Aa (Ax1 e) ?_;simp only [s0, s1, decide_true, decide_false, Bool.true_and, Bool.false_and, Bool.and_true, Bool.and_false, Bool.and_self, Bool.not_true, Bool.not_false] at ez;simp (disch := omega) only [s0, s1, ez, go_sem]
  · have ez := A0b hB hD hki
    (try simp only [Ak, Aj, Ai, Ah, Ag, Af, Ae, Ad]); simp (disch := omega) only [Ac, hki, go_sem]
    refine Aa (Ax2 e) ?_;simp only [decide_true, decide_false, Bool.true_and, Bool.false_and, Bool.and_true, Bool.and_false, Bool.and_self, Bool.not_true, Bool.not_false] at ez;simp (disch := omega) only [ez, go_sem]
end Go.Proofs.YtannaphhhkncoaaGreat.Fw
namespace Go.Proofs.YtannaphhhkncoaaGreat.Fw
open Go.RowKit Go.Proofs
def zs (n : Nat) : List UInt8 := List.replicate n 0
theorem Vo (n : Nat) : (zs n).length = n := by simp [zs]
theorem Av6 (n : Nat) : zs (n + 1) = zs n ++ [0] := by simp [zs, List.replicate_succ']
theorem A7u : zs 0 = [] := rfl
def Aaz (n : Int) (k : Nat) : FS := mk [(4, .pv (.i .i64 k)), (3, .pv (.s (zs k))), (0, .pv (.i .i64 n))] []
theorem Akr (n : Int) (hn : n ≤ 1000) {h d} : FunOk Tryz.prog 133 [.pv (.i .i64 n)] h d (.pv (.s (zs n.toNat))) [] := by
 refine A7 Aq fn133 (by simp) rfl rfl fun F => ?_;simp (disch := omega) only [ir133, go_sem];refine A1 Aq (Aaz n) (fun k => k ≤ n.toNat) (fun k => n.toNat - k) 0 (by omega) (An ?_ ?_) fun k hk => ?_
 · simp (disch := omega) only [A7u, go_sem]
 · simp (disch := omega) only [go_sem]
 have hl := Vo k;by_cases hlt : (k : Int) < n
 · simp (disch := omega) only [Aaz, hl, go_sem];refine Al (k + 1) _ _ rfl (by omega) (by omega) ?_ ?_
   · simp (disch := omega) only [Av6, go_sem]
   · simp (disch := omega) only [go_sem]
 · obtain rfl : k = n.toNat := by omega
   simp (disch := omega) only [Aaz, go_sem]
def Nl (data : List UInt8) (o : Nat) (s : List UInt8) : List UInt8 :=
 (data ++ zs (o + s.length - data.length)).take o ++ s ++ (data ++ zs (o + s.length - data.length)).drop (o + s.length)
def F3 (data : List UInt8) (off : Int) (s : List UInt8) : Prop := off < 0 ∨ 200 < off ∨ 200 < (data.length : Int) ∨ 200 - off < s.length
open Classical in
noncomputable def Sn (data : List UInt8) (off : Int) (s : List UInt8) : SV := if F3 data off s then .tup [.pv (.s []), .pv (.i .i64 4)] else .tup [.pv (.s (Nl data off.toNat s)), .pv (.i .i64 0)]
theorem Hg {data off s} (h : F3 data off s) : Sn data off s = .tup [.pv (.s []), .pv (.i .i64 4)] := by unfold Sn; rw [if_pos h]
theorem Sm {data off s} (h : ¬ F3 data off s) : Sn data off s = .tup [.pv (.s (Nl data off.toNat s)), .pv (.i .i64 0)] := by unfold Sn; rw [if_neg h]
set_option maxHeartbeats 2000000 in
theorem Aer (data s : List UInt8) (off : Int) (hs : s.length ≤ 1000) {h d} : FunOk Tryz.prog 117 [.pv (.s data), .pv (.i .i64 off), .pv (.s s)] h d (Sn data off s) [] := by
 refine A7 Aq fn117 (by simp) rfl (by unfold Sn; split <;> rfl) fun F => ?_;by_cases h1 : off < 0
 · rw [Hg (.inl h1)];simp (disch := omega) only [ir117, go_sem]
 by_cases h2 : 200 < off
 · rw [Hg (.inr (.inl h2))];simp (disch := omega) only [ir117, go_sem]
 by_cases h3 : 200 < (data.length : Int)
 · rw [Hg (.inr (.inr (.inl h3)))];simp (disch := omega) only [ir117, go_sem]
 by_cases h4 : 200 < off + (s.length : Int)
 · rw [Hg (.inr (.inr (.inr (by omega))))];simp (disch := omega) only [ir117, go_sem]
 have hok : ¬ F3 data off s := by unfold F3; omega
 obtain ⟨o, rfl⟩ : ∃ o : Nat, off = o := ⟨off.toNat, by omega⟩
 rw [Sm hok];simp (disch := omega) only [ir117, go_sem];refine Aa (Akr _ (by omega)) ?_;have hp : Nl data o s = (data ++ zs (o + s.length - data.length)).take o ++ s ++ (data ++ zs (o + s.length - data.length)).drop (o + s.length) := rfl;have e1 : ((o : Int) + (s.length : Int) - (data.length : Int)).toNat = o + s.length - data.length := by omega
 have e2 : ((o : Int) + (s.length : Int)).toNat = o + s.length := by omega
 have hl : (data ++ zs (o + s.length - data.length)).length = data.length + (o + s.length - data.length) := by simp [zs]
 have hz := Vo (o + s.length - data.length);rw [e1];generalize hX : data ++ zs (o + s.length - data.length) = X at *;simp (disch := omega) only [hX, e2, hp, List.length_append, List.length_take, List.length_drop, hz, go_sem]
def Acy (data : List UInt8) (n : Nat) : List UInt8 := if n < data.length then data.take n else data ++ zs (n - data.length)
open Classical in
noncomputable def Aaa (data : List UInt8) (n : Int) : SV := if n < 0 ∨ 200 < n then .tup [.pv (.s []), .pv (.i .i64 4)] else .tup [.pv (.s (Acy data n.toNat)), .pv (.i .i64 0)]
theorem O8 {data n} (h : n < 0 ∨ 200 < n) : Aaa data n = .tup [.pv (.s []), .pv (.i .i64 4)] := by unfold Aaa; rw [if_pos h]
theorem Xr {data n} (h : ¬ (n < 0 ∨ 200 < n)) : Aaa data n = .tup [.pv (.s (Acy data n.toNat)), .pv (.i .i64 0)] := by unfold Aaa; rw [if_neg h]
set_option maxHeartbeats 2000000 in
theorem Ar3 (data : List UInt8) (n : Int) (hd : data.length ≤ 1000) {h d} : FunOk Tryz.prog 116 [.pv (.s data), .pv (.i .i64 n)] h d (Aaa data n) [] := by
 refine A7 Aq fn116 (by simp) rfl (by unfold Aaa; split <;> rfl) fun F => ?_;by_cases h1 : n < 0
 · rw [O8 (.inl h1)];simp (disch := omega) only [ir116, go_sem]
 by_cases h2 : 200 < n
 · rw [O8 (.inr h2)];simp (disch := omega) only [ir116, go_sem]
 rw [Xr (by omega)];obtain ⟨o, rfl⟩ : ∃ o : Nat, n = o := ⟨n.toNat, by omega⟩
 have hz := Vo (o - data.length);have e1 : ((o : Int) - (data.length : Int)).toNat = o - data.length := by omega
 have e : (data ++ zs (o - data.length)).take o = Acy data o := by
  unfold Acy;split
  · rw [show o - data.length = 0 by omega, A7u, List.append_nil]
  · exact List.take_of_length_le (by simp [zs]; omega)
 simp (disch := omega) only [ir116, go_sem];refine Aa (Akr _ (by omega)) ?_;simp (disch := omega) only [e1, e, hz, List.length_append, go_sem]
structure Ver where
 rep : Int
 seq : Nat
 data : List UInt8
 gone : Vc
def Ba (v : Ver) : List PV := .i .i64 v.rep :: .i .u32 v.seq :: .s v.data :: vE v.gone
def atL : List Ver → Int → Nat → Nat → Nat × Bool
 | [], _, _, k => (k, false)
 | v :: l, r, q, k => if v.rep = r ∧ v.seq = q then (k, true) else if C8 r q v.rep v.seq = true then (k, false) else atL l r q (k + 1)
theorem Co (v : Ver) (K : KK) : LoadK (some (Ba v)) 0 2 true K = K (.vec 2 [.i .i64 v.rep, .i .u32 v.seq]) [] := by
 simp only [LoadK, G5, eq_iff_iff];exact ⟨fun h => h.2.2, fun h => ⟨by simp [Ba], .inl trivial, h⟩⟩
theorem Ib (v : Ver) (K : KK) : LoadK (some (Ba v)) 0 11 true K = K (.vec 11 (Ba v)) [] := by
 simp only [LoadK, G5, eq_iff_iff];have e : ((Ba v).drop 0).take 11 = Ba v := List.take_of_length_le (by simp [Ba, vE, Cq]);rw [e];exact ⟨fun h => h.2.2, fun h => ⟨by simp [Ba, vE, Cq], .inl trivial, h⟩⟩
theorem Ig (r : Int) (q : Nat) : D5 [K1.int .i64, K1.int .u32] [.i .i64 r, .i .u32 q] = True := eq_true rfl
theorem K3 (v : Ver) (K : KK) : LoadK (some (Ba v)) 3 8 true K = K (.vec 8 (vE v.gone)) [] := by
 simp only [LoadK, G5, eq_iff_iff];have e : ((Ba v).drop 3).take 8 = vE v.gone := List.take_of_length_le (by simp [Ba, vE, Cq]);rw [e];exact ⟨fun h => h.2.2, fun h => ⟨by simp [Ba, vE, Cq], .inl trivial, h⟩⟩
theorem Gp (v : Ver) : (Ba v).length = 11 := by simp [Ba, vE, Cq]
theorem Za (l : List Ver) : ∀ c ∈ l.map Ba, c.all PV.flat = true := by
 intro c hc;obtain ⟨v, _, rfl⟩ := List.mem_map.1 hc;simp [Ba, vE, Cq, PV.flat]
theorem Afx (v : Ver) : D5 [K1.int .i64, K1.int .u32, .str, .int .u32, .int .u32, .int .u32, .int .u32, .int .u32, .int .u32, .int .u32, .int .u32] (Ba v) = True := eq_true rfl
def Bx : List Ver → Int → Nat → Option Ver
 | [], _, _ => none
 | v :: l, r, q => if v.rep = r ∧ v.seq = q then some v else Bx l r q
def Aj9 (f : Bool) (l : List Ver) (r : Int) (q k : Nat) : FS := mk [(5, .pv (.i .i64 k)), (0, .pv (.sl f 11 (l.map Ba))), (3, .p 3 0)] [(3, some (.var (.vec 2 [.i .i64 r, .i .u32 q])))]
theorem A1m {x : SV} {f : Bool} {l : List Ver} (r : Int) (q : Nat) {h d} (hx : Ct h [x, .vec 2 [.i .i64 r, .i .u32 q]] = [.pv (.sl f 11 (l.map Ba)), .vec 2 [.i .i64 r, .i .u32 q]]) (hl : Bc [x, .vec 2 [.i .i64 r, .i .u32 q]] = true) (hn : l.length ≤ 1000) :
 FunOk Tryz.prog 118 [x, .vec 2 [.i .i64 r, .i .u32 q]] h d (.pv (.b (Bx l r q).isSome)) [] := by
 refine Cx Aq fn118 (by simp) hl rfl fun F => ?_;rw [hx];simp (disch := omega) only [ir118, List.length_map, go_sem];refine A1 Aq (Aj9 f l r q) (fun k => k ≤ l.length ∧ Bx l r q = Bx (l.drop k) r q) (fun k => l.length - k) 0 (by simp) (An ?_ ?_) fun k hk => ?_
 · simp (disch := omega) only [go_sem]
 · simp (disch := omega) only [go_sem]
 obtain ⟨hk1, hk2⟩ := hk;by_cases hlt : k < l.length
 · have hd : l.drop k = l[k] :: l.drop (k + 1) := List.drop_eq_getElem_cons hlt;have he : (l.map Ba)[k]? = some (Ba l[k]) := by simp [hlt]
   rw [hd] at hk2;generalize l[k] = v at *;simp only [Bx] at hk2;by_cases hid : v.rep = r ∧ v.seq = q
   · rw [if_pos hid] at hk2;have hp := L0 hid;simp (disch := omega) only [Aj9, List.length_map, he, Co, Ig, hp, hk2, Option.isSome_some, go_sem]
   · rw [if_neg hid] at hk2;have hp := Jw hid;simp (disch := omega) only [Aj9, List.length_map, he, Co, Ig, hp, go_sem];refine Al (k + 1) _ _ rfl ⟨by omega, hk2⟩ (by omega) ?_ ?_
     · simp (disch := omega) only [go_sem]
     · simp (disch := omega) only [go_sem]
 · have : k = l.length := by omega
   subst this;rw [List.drop_length] at hk2;simp only [Bx] at hk2;rw [hk2];simp (disch := omega) only [Aj9, List.length_map, Option.isSome_none, go_sem]
def Pu (v : Ver) (r : Int) (q : Nat) : Prop := v.rep = r ∧ v.seq = q
instance (v : Ver) (r : Int) (q : Nat) : Decidable (Pu v r q) := inferInstanceAs (Decidable (_ ∧ _))
theorem Mc (v : Ver) (K : KK) : LoadK (some (Ba v)) 2 1 false K = K (.pv (.s v.data)) [] := by
 simp only [LoadK, G5, eq_iff_iff];exact ⟨fun h => h.2.2, fun h => ⟨by simp [Ba], .inr trivial, h⟩⟩
theorem Rk {r : Int} {q : Nat} {r' : Int} {q' : Nat} : C8 r q r' q' = true ↔ (q < q' ∨ q = q' ∧ r < r') := by simp [C8]
theorem Xj {r : Int} {q : Nat} {r' : Int} {q' : Nat} {r'' : Int} {q'' : Nat} (h : C8 r q r' q' = true) (k : C8 r' q' r'' q'' = true) : C8 r q r'' q'' = true := by
 rw [Rk] at *; omega
theorem Ay7 {r : Int} {q : Nat} {r' : Int} {q' : Nat} (h : C8 r q r' q' = true) : ¬ (r = r' ∧ q = q') := by
 rw [Rk] at h; omega
theorem Ay8 {r : Int} {q : Nat} {r' : Int} {q' : Nat} (h : C8 r q r' q' = true) : ¬ C8 r' q' r q = true := by
 rw [Rk] at *; omega
theorem Atm {r : Int} {q : Nat} {r' : Int} {q' : Nat} (h : ¬ (r = r' ∧ q = q')) (k : ¬ C8 r q r' q' = true) : C8 r' q' r q = true := by
 rw [Rk] at *; omega
def Fs (l : List Ver) : Prop := l.Pairwise fun a b => C8 a.rep a.seq b.rep b.seq = true
theorem X6 : ∀ {l : List Ver} {r q k i}, atL l r q k = (i, true) → k ≤ i ∧ ∃ v, l[i - k]? = some v ∧ Pu v r q ∧ Bx l r q = some v
 | [], r, q, k, i, h => by simp [atL] at h
 | v :: l, r, q, k, i, h => by
   simp only [atL] at h;split at h
   · rename_i hs;cases h;exact ⟨Nat.le_refl _, v, by simp, hs, by simp [Bx, hs]⟩
   · rename_i hs;split at h
     · cases h
     · obtain ⟨h1, u, h2, h3, h4⟩ := X6 h;refine ⟨by omega, u, ?_, h3, by simp only [Bx]; rw [if_neg hs]; exact h4⟩;rw [show i - k = (i - (k + 1)) + 1 by omega, List.getElem?_cons_succ]; exact h2
theorem Ti : ∀ {l : List Ver} {r q k i}, Fs l → atL l r q k = (i, false) → k ≤ i ∧ i - k ≤ l.length ∧ Bx l r q = none ∧ (∀ v ∈ l, ¬ Pu v r q) ∧ (∀ v ∈ l.take (i - k), C8 v.rep v.seq r q = true) ∧ ∀ v ∈ l.drop (i - k), C8 r q v.rep v.seq = true
 | [], r, q, k, i, _, h => by simp only [atL] at h; cases h; simp [Bx]
 | v :: l, r, q, k, i, hs, h => by
   obtain ⟨h1, h2⟩ := List.pairwise_cons.1 hs;simp only [atL] at h;split at h
   · cases h
   · rename_i hn;split at h
     · rename_i hlt;cases h;have hall : ∀ u ∈ v :: l, C8 r q u.rep u.seq = true := fun u hu => by
        rcases List.mem_cons.1 hu with rfl | hu
        · exact hlt
        · exact Xj hlt (h1 u hu)
       have hno : ∀ u ∈ v :: l, ¬ Pu u r q := fun u hu e => Ay7 (hall u hu) ⟨e.1.symm, e.2.symm⟩;refine ⟨Nat.le_refl _, by simp, ?_, hno, by simp, by simpa using hall⟩;have : ∀ m : List Ver, (∀ u ∈ m, ¬ Pu u r q) → Bx m r q = none := fun m hm => by
        induction m with
        | nil => rfl
        | cons u m ih => simp only [Bx]; rw [if_neg (show ¬ (u.rep = r ∧ u.seq = q) from hm u List.mem_cons_self)]; exact ih fun x hx => hm x (List.mem_cons_of_mem _ hx)
       exact this _ hno
     · rename_i hge;obtain ⟨g1, g2, g3, g4, g5, g6⟩ := Ti h2 h;have e : i - k = (i - (k + 1)) + 1 := by omega
       refine ⟨by omega, by rw [e]; simpa using g2, by simp only [Bx]; rw [if_neg hn]; exact g3, fun u hu => ?_, ?_, ?_⟩
       · rcases List.mem_cons.1 hu with rfl | hu
         · exact hn
         · exact g4 u hu
       · rw [e, List.take_succ_cons];intro u hu;rcases List.mem_cons.1 hu with rfl | hu
         · exact Atm (fun e => hn ⟨e.1.symm, e.2.symm⟩) hge
         · exact g5 u hu
       · rw [e, List.drop_succ_cons]; exact g6
theorem Aix {l : List Ver} {r : Int} {q : Nat} : Bx l r q = none ↔ ∀ v ∈ l, ¬ Pu v r q := by
 induction l with
 | nil => simp [Bx]
 | cons u m ih =>
   simp only [Bx];by_cases h : u.rep = r ∧ u.seq = q
   · rw [if_pos h];exact ⟨fun e => (nomatch e), fun e => absurd h (e u List.mem_cons_self)⟩
   · rw [if_neg h, ih];simp only [List.mem_cons, forall_eq_or_imp];exact ⟨fun e => ⟨h, e⟩, fun e => e.2⟩
theorem Aok {l : List Ver} {r : Int} {q : Nat} {v : Ver} (h : Bx l r q = some v) : v ∈ l ∧ Pu v r q := by
 induction l with
 | nil => simp [Bx] at h
 | cons u m ih =>
   simp only [Bx] at h;by_cases e : u.rep = r ∧ u.seq = q
   · rw [if_pos e] at h; cases h; exact ⟨List.mem_cons_self, e⟩
   · rw [if_neg e] at h; exact ⟨List.mem_cons_of_mem _ (ih h).1, (ih h).2⟩
def Uc (l : List Ver) (r : Int) (q : Nat) : List UInt8 × Int := if r = 0 ∧ q = 0 then ([], 0) else match Bx l r q with
 | some v => (v.data, 0)
 | none => ([], 2)
theorem Alo {l : List Ver} {r : Int} {q : Nat} (h : r = 0 ∧ q = 0) : Uc l r q = ([], 0) := by simp [Uc, h]
theorem Vj {l : List Ver} {r : Int} {q : Nat} {v : Ver} (h : ¬ (r = 0 ∧ q = 0)) (k : Bx l r q = some v) : Uc l r q = (v.data, 0) := by unfold Uc; rw [if_neg h, k]
theorem Vk {l : List Ver} {r : Int} {q : Nat} (h : ¬ (r = 0 ∧ q = 0)) (k : Bx l r q = none) : Uc l r q = ([], 2) := by unfold Uc; rw [if_neg h, k]
def Js (f : Bool) (l : List Ver) (r : Int) (q k : Nat) : FS := mk [(6, .pv (.i .i64 k)), (0, .pv (.sl f 11 (l.map Ba))), (3, .p 3 0)] [(3, some (.var (.vec 2 [.i .i64 r, .i .u32 q])))]
set_option maxHeartbeats 1000000 in
theorem Akw {x : SV} {f : Bool} {l : List Ver} (r : Int) (q : Nat) {h d} (hx : Ct h [x, .vec 2 [.i .i64 r, .i .u32 q]] = [.pv (.sl f 11 (l.map Ba)), .vec 2 [.i .i64 r, .i .u32 q]]) (hl : Bc [x, .vec 2 [.i .i64 r, .i .u32 q]] = true) (hn : l.length ≤ 1000) :
 FunOk Tryz.prog 56 [x, .vec 2 [.i .i64 r, .i .u32 q]] h d (.tup [.pv (.s (Uc l r q).1), .pv (.i .i64 (Uc l r q).2)]) [] := by
 refine Cx Aq fn56 (by simp) hl rfl fun F => ?_;rw [hx];by_cases hz : r = 0 ∧ q = 0
 · have e := Alo (l := l) hz;rw [e];obtain ⟨rfl, rfl⟩ := hz
   (try simp only [Ak, Aj, Ai, Ah, Ag, Af, Ae, Ad]); simp (disch := omega) only [ir56, Int.natCast_zero, go_sem]
 · have hk : ∀ K : Prop, K → K := fun _ h => h;by_cases hr : r = 0
   · subst hr;have hq : ¬ (q : Int) = 0 := by omega
     simp (disch := omega) only [ir56, hq, go_sem];refine A1 Aq (Js f l 0 q) (fun k => k ≤ l.length ∧ Bx l 0 q = Bx (l.drop k) 0 q) (fun k => l.length - k) 0 (by simp) (An ?_ ?_) fun k hk => ?_
     · simp (disch := omega) only [go_sem]
     · simp (disch := omega) only [go_sem]
     obtain ⟨hk1, hk2⟩ := hk;by_cases hlt : k < l.length
     · have hd : l.drop k = l[k] :: l.drop (k + 1) := List.drop_eq_getElem_cons hlt;have he : (l.map Ba)[k]? = some (Ba l[k]) := by simp [hlt]
       rw [hd] at hk2;generalize l[k] = v at *;simp only [Bx] at hk2;by_cases hid : v.rep = 0 ∧ v.seq = q
       · rw [if_pos hid] at hk2;have hp := L0 hid;rw [Vj hz hk2]
         (try simp only [Ak, Aj, Ai, Ah, Ag, Af, Ae, Ad]); simp (disch := omega) only [Js, List.length_map, he, Co, Ig, hp, Mc, go_sem]
       · rw [if_neg hid] at hk2;have hp := Jw hid;simp (disch := omega) only [Js, List.length_map, he, Co, Ig, hp, go_sem];refine Al (k + 1) _ _ rfl ⟨by omega, hk2⟩ (by omega) ?_ ?_
         · simp (disch := omega) only [go_sem]
         · simp (disch := omega) only [go_sem]
     · obtain rfl : k = l.length := by omega
       rw [List.drop_length] at hk2;rw [Vk hz hk2]
       (try simp only [Ak, Aj, Ai, Ah, Ag, Af, Ae, Ad]); simp (disch := omega) only [Js, List.length_map, go_sem]
   · simp (disch := omega) only [ir56, hr, go_sem];refine A1 Aq (Js f l r q) (fun k => k ≤ l.length ∧ Bx l r q = Bx (l.drop k) r q) (fun k => l.length - k) 0 (by simp) (An ?_ ?_) fun k hk => ?_
     · simp (disch := omega) only [go_sem]
     · simp (disch := omega) only [go_sem]
     obtain ⟨hk1, hk2⟩ := hk;by_cases hlt : k < l.length
     · have hd : l.drop k = l[k] :: l.drop (k + 1) := List.drop_eq_getElem_cons hlt;have he : (l.map Ba)[k]? = some (Ba l[k]) := by simp [hlt]
       rw [hd] at hk2;generalize l[k] = v at *;simp only [Bx] at hk2;by_cases hid : v.rep = r ∧ v.seq = q
       · rw [if_pos hid] at hk2;have hp := L0 hid;rw [Vj hz hk2]
         (try simp only [Ak, Aj, Ai, Ah, Ag, Af, Ae, Ad]); simp (disch := omega) only [Js, List.length_map, he, Co, Ig, hp, Mc, go_sem]
       · rw [if_neg hid] at hk2;have hp := Jw hid;simp (disch := omega) only [Js, List.length_map, he, Co, Ig, hp, go_sem];refine Al (k + 1) _ _ rfl ⟨by omega, hk2⟩ (by omega) ?_ ?_
         · simp (disch := omega) only [go_sem]
         · simp (disch := omega) only [go_sem]
     · obtain rfl : k = l.length := by omega
       rw [List.drop_length] at hk2;rw [Vk hz hk2]
       (try simp only [Ak, Aj, Ai, Ah, Ag, Af, Ae, Ad]); simp (disch := omega) only [Js, List.length_map, go_sem]
theorem T7 (b : Ca) (K : KK) : LoadK (some (Ga b)) 0 2 true K = K (.vec 2 [.i .i64 b.1, .i .u32 b.2]) [] := by
 simp only [LoadK, G5, eq_iff_iff];exact ⟨fun h => h.2.2, fun h => ⟨by simp [Ga], .inl trivial, h⟩⟩
def Fu (v : Ver) (r : Int) (q : Nat) : Ver := { v with gone := Br v.gone r q }
def Q9 (l : List Ver) (bs : List Ca) (r : Int) (q : Nat) : List Ver := l.map fun x => if (x.rep, x.seq) ∈ bs then Fu x r q else x
theorem Ag8 (g : Vc) (r : Int) (q : Nat) : Br (Br g r q) r q = Br g r q := by
 unfold Br;split
 · funext i;simp only [Er];split <;> simp
 · rfl
theorem Sx (l : List Ver) (r : Int) (q : Nat) : Q9 l [] r q = l := by simp [Q9]
theorem Anb (l : List Ver) (bs) (r : Int) (q : Nat) : (Q9 l bs r q).length = l.length := by simp [Q9]
theorem Ab2 (x : Ver) (bs : List Ca) (r : Int) (q : Nat) : (if (x.rep, x.seq) ∈ bs then Fu x r q else x).rep = x.rep ∧ (if (x.rep, x.seq) ∈ bs then Fu x r q else x).seq = x.seq := by split <;> exact ⟨rfl, rfl⟩
def Iq (l : List Ver) (bs : List Ca) : Prop := ∃ b ∈ bs, Bx l b.1 b.2 = none
def M5 (l : List Ver) (bs : List Ca) (v : Ver) : List Ver := (Q9 l bs v.rep v.seq).take (atL l v.rep v.seq 0).1 ++ v :: (Q9 l bs v.rep v.seq).drop (atL l v.rep v.seq 0).1
theorem Lp (u : Ver) (g : Vc) : splice (Ba u) 3 (vE g) = Ba { u with gone := g } := by
 simp [splice, Ba, vE, Cq]
def Kr (M : List Ver) (v : Ver) (p k : Nat) : List Ver := if p < k then (M.take k).take p ++ v :: (M.take k).drop p else M.take k
theorem Arm (M : List Ver) (v : Ver) (p k : Nat) (hk : k ≤ M.length) : (Kr M v p k).length ≤ k + 1 := by
 unfold Kr; split <;> simp <;> omega
def Abb (f : Bool) (l : List Ver) (g : Bool) (bs : List Ca) (v : Ver) (k : Nat) : FS := mk [(8, .pv (.i .i64 k)), (0, .pv (.sl f 11 (l.map Ba))), (1, .pv (.sl g 2 (bs.map Ga))), (5, .p 5 0)]
 [(5, some (.var (.vec 11 (Ba v))))]
def Oc (f : Bool) (l : List Ver) (g : Bool) (bs : List Ca) (v : Ver) (M : List Ver) (p k : Nat) : FS := mk [(13, .pv (.i .i64 k)), (12, .pv (.b (decide (p < k)))), (11, .os 16), (0, .pv (.sl f 11 (l.map Ba))), (1, .pv (.sl g 2 (bs.map Ga))), (5, .p 5 0)]
 [(5, some (.var (.vec 11 (Ba v)))), (16, some (.row 11 ((Kr M v p k).map Ba)))]
def F9 (f : Bool) (l : List Ver) (g : Bool) (bs : List Ca) (v : Ver) (k : Nat) (b : Bool) (o : List Ver) (x : Ver) (j : Nat) : FS := mk [(15, .pv (.i .i64 j)), (14, .p 14 0), (13, .pv (.i .i64 k)), (12, .pv (.b b)), (11, .os 16), (0, .pv (.sl f 11 (l.map Ba))), (1, .pv (.sl g 2 (bs.map Ga))), (5, .p 5 0)]
 [(5, some (.var (.vec 11 (Ba v)))), (16, some (.row 11 (o.map Ba))), (14, some (.var (.vec 11 (Ba (if (x.rep, x.seq) ∈ bs.take j then Fu x v.rep v.seq else x)))))]
theorem Xe (x : Ver) (c : Prop) [Decidable c] (r : Int) (q : Nat) : Ba { (if c then Fu x r q else x) with gone := Ei (if c then Fu x r q else x).gone (Q6 r q) } = Ba (Fu x r q) := by
 have h1 : (if c then Fu x r q else x).rep = x.rep := by split <;> rfl
 have h2 : (if c then Fu x r q else x).seq = x.seq := by split <;> rfl
 have h3 : (if c then Fu x r q else x).data = x.data := by split <;> rfl
 have h4 : ∀ i, i < 8 → Ei (if c then Fu x r q else x).gone (Q6 r q) i = (Br x.gone r q) i := by
  intro i hi;rw [← Adf _ _ _ i hi];split
  · simp only [Fu, Ag8]
  · rfl
 show _ = Ba { x with gone := Br x.gone r q };simp only [Ba, h1, h2, h3, Kb h4]
theorem Axv {M : List Ver} {v : Ver} {p k : Nat} {x : Ver} (h : p < k) (hx : M[k]? = some x) : Kr M v p (k + 1) = Kr M v p k ++ [x] := by
 have hk : k < M.length := (List.getElem?_eq_some_iff.1 hx).1;unfold Kr;rw [if_pos h, if_pos (by omega), List.take_add_one, hx];simp only [Option.toList_some];rw [List.take_append_of_le_length (by simp; omega), List.drop_append_of_le_length (by simp; omega)];simp
theorem Axx {M : List Ver} {v : Ver} {k : Nat} {x : Ver} (hx : M[k]? = some x) : Kr M v k (k + 1) = Kr M v k k ++ [v] ++ [x] := by
 have hk : k < M.length := (List.getElem?_eq_some_iff.1 hx).1;have hl : (M.take k).length = k := by simp; omega
 unfold Kr;rw [if_neg (Nat.lt_irrefl k), if_pos (by omega), List.take_add_one, hx];simp only [Option.toList_some];rw [List.take_append_of_le_length (by omega), List.take_of_length_le (by omega), List.drop_append_of_le_length (by omega), List.drop_of_length_le (by omega)];simp
theorem Axw {M : List Ver} {v : Ver} {p k : Nat} {x : Ver} (h : k < p) (hx : M[k]? = some x) : Kr M v p (k + 1) = Kr M v p k ++ [x] := by
 unfold Kr;rw [if_neg (by omega), if_neg (by omega), List.take_add_one, hx]; rfl
set_option maxHeartbeats 4000000 in
theorem Avw {F : Fr} {f : Bool} {l : List Ver} {g : Bool} {bs : List Ca} {v : Ver} {R : SV → (Nat → Option Blk) → Prop} (hs : Fs l) (hn : l.length ≤ 900) (hbn : bs.length ≤ 900)
 (h1 : Iq l bs → ∀ h, R (.tup [.pv (.sl true 0 []), .pv (.i .i64 2)]) h)
 (h2 : ¬ Iq l bs → (Bx l v.rep v.seq).isSome = true → ∀ h, R (.tup [.pv (.sl true 0 []), .pv (.i .i64 11)]) h)
 (h3 : ¬ Iq l bs → Bx l v.rep v.seq = none → ∀ h n, h n = some (.row 11 ((M5 l bs v).map Ba)) → R (.tup [.os n, .pv (.i .i64 0)]) h) :
 sx (Z6 Tryz.prog F 118) ir88 (Yi [.t 6, .t 7] R) (mk (C4 0 [.pv (.sl f 11 (l.map Ba)), .pv (.sl g 2 (bs.map Ga)), .vec 11 (Ba v)]) []) := by
 have hv := Gp v;simp (disch := omega) only [ir88, List.length_map, go_sem];refine A1 Aq (Abb f l g bs v) (fun k => k ≤ bs.length ∧ ∀ b ∈ bs.take k, Bx l b.1 b.2 ≠ none) (fun k => bs.length - k) 0 (by simp) (An ?_ ?_) fun k hk => ?_
 · simp (disch := omega) only [go_sem]
 · simp (disch := omega) only [go_sem]
 obtain ⟨hk1, hk2⟩ := hk;by_cases hlt : k < bs.length
 · have he : (bs.map Ga)[k]? = some (Ga bs[k]) := by simp [hlt]
   have ht : bs.take (k + 1) = bs.take k ++ [bs[k]] := by rw [List.take_add_one, List.getElem?_eq_getElem hlt]; rfl
   have hb : bs[k] ∈ bs := List.getElem_mem hlt;generalize bs[k] = b at *;have c0 : LoadK (some (Ga b)) 0 1 false = fun K => K (.pv (.i .i64 b.1)) [] := by
    funext K; simp only [LoadK, G5, eq_iff_iff]; exact ⟨fun h => h.2.2, fun h => ⟨by simp [Ga], .inr trivial, h⟩⟩
   have c1 : LoadK (some (Ga b)) 1 1 false = fun K => K (.pv (.i .u32 b.2)) [] := by
    funext K; simp only [LoadK, G5, eq_iff_iff]; exact ⟨fun h => h.2.2, fun h => ⟨by simp [Ga], .inr trivial, h⟩⟩
   simp (disch := omega) only [Abb, List.length_map, he, T7, go_sem];refine Aa (Akw (l := l) b.1 b.2 rfl rfl (by omega)) ?_;have go : Bx l b.1 b.2 ≠ none → (k + 1 ≤ bs.length ∧ ∀ c ∈ bs.take (k + 1), Bx l c.1 c.2 ≠ none) := fun hne => ⟨by omega, fun c hc => by
    rw [ht] at hc;rcases List.mem_append.1 hc with hc | hc
    · exact hk2 c hc
    · simp at hc; subst hc; exact hne⟩
   by_cases hz : b.1 = 0 ∧ b.2 = 0
   · obtain ⟨b1, b2⟩ := b;obtain ⟨rfl, rfl⟩ : b1 = 0 ∧ b2 = 0 := hz;rw [Alo ⟨rfl, rfl⟩]
     (try simp only [Ak, Aj, Ai, Ah, Ag, Af, Ae, Ad]); simp (disch := omega) only [List.length_map, he, c0, c1, T7, Int.natCast_zero, go_sem]
     refine Aa (A1m (l := l) 0 0 rfl rfl (by omega)) ?_;cases hf : Bx l 0 0 with
     | none =>
       simp (disch := omega) only [Option.isSome_none, go_sem];exact h1 ⟨_, hb, hf⟩ _
     | some u =>
       simp (disch := omega) only [Option.isSome_some, go_sem];refine Al (k + 1) _ _ rfl (go (by rw [hf]; simp)) (by omega) ?_ ?_
       · simp (disch := omega) only [go_sem]
       · simp (disch := omega) only [go_sem]
   · cases hf : Bx l b.1 b.2 with
     | none =>
       rw [Vk hz hf]
       (try simp only [Ak, Aj, Ai, Ah, Ag, Af, Ae, Ad]); simp (disch := omega) only [go_sem]
       exact h1 ⟨b, hb, hf⟩ _
     | some u =>
       rw [Vj hz hf];by_cases hz1 : b.1 = 0
       · have hz2 : ¬ (b.2 : Int) = 0 := by omega
         (try simp only [Ak, Aj, Ai, Ah, Ag, Af, Ae, Ad]); simp (disch := omega) only [List.length_map, he, c0, c1, hz1, hz2, go_sem]
         refine Al (k + 1) _ _ rfl (go (by rw [hf]; simp)) (by omega) ?_ ?_
         · simp (disch := omega) only [go_sem]
         · simp (disch := omega) only [go_sem]
       · (try simp only [Ak, Aj, Ai, Ah, Ag, Af, Ae, Ad]); simp (disch := omega) only [List.length_map, he, c0, c1, hz1, go_sem]
         refine Al (k + 1) _ _ rfl (go (by rw [hf]; simp)) (by omega) ?_ ?_
         · simp (disch := omega) only [go_sem]
         · simp (disch := omega) only [go_sem]
 · obtain rfl : k = bs.length := by omega
   have hmiss : ¬ Iq l bs := fun ⟨b, hb, e⟩ => hk2 b (by rw [List.take_length]; exact hb) e;have e := List.take_length (l := bs);simp (disch := omega) only [Abb, List.length_map, Co, go_sem];refine Aa (A1m (l := l) v.rep v.seq rfl rfl (by omega)) ?_;cases hf : Bx l v.rep v.seq with
   | some u =>
     simp (disch := omega) only [Option.isSome_some, go_sem];exact h2 hmiss (by rw [hf]; rfl) _
   | none =>
     obtain ⟨p, hp⟩ : ∃ p, atL l v.rep v.seq 0 = (p, false) := by
      rcases ha : atL l v.rep v.seq 0 with ⟨p, b⟩
      cases b with
      | false => exact ⟨p, rfl⟩
      | true => obtain ⟨_, u, _, _, h4⟩ := X6 ha; rw [hf] at h4; cases h4
     obtain ⟨_, g2, _, g4, g5, g6⟩ := Ti hs hp;rw [Nat.sub_zero] at g2 g5 g6;have h3' := h3 hmiss hf;simp only [M5, hp] at h3';have hM : ∀ k x, l[k]? = some x → (Q9 l bs v.rep v.seq)[k]? = some (if (x.rep, x.seq) ∈ bs then Fu x v.rep v.seq else x) := fun k x hx => by unfold Q9; rw [List.getElem?_map, hx]; rfl
     have hMl := Anb l bs v.rep v.seq;generalize Q9 l bs v.rep v.seq = M at *;simp (disch := omega) only [Option.isSome_none, go_sem];refine A1 Aq (Oc f l g bs v M p) (fun k => k ≤ l.length) (fun k => l.length - k) 0 (by simp) (Na 11 16 11 rfl (by omega) (An ?_ ?_)) fun k hk => ?_
     · simp (disch := omega) only [Nat.not_lt_zero, go_sem]
     · simp (disch := omega) only [go_sem];simp [Kr]
     by_cases hlt : k < l.length
     · have he : (l.map Ba)[k]? = some (Ba l[k]) := by simp [hlt]
       have hx := hM k l[k] (List.getElem?_eq_getElem hlt);have ho := Arm M v p k (by omega);have hl5 : p > k → C8 v.rep v.seq l[k].rep l[k].seq = false := fun h => by
        have := Ay8 (g5 l[k] (List.mem_take_iff_getElem.2 ⟨k, by omega, rfl⟩));simpa using this
       have hl6 : p = k → C8 v.rep v.seq l[k].rep l[k].seq = true := fun h => g6 l[k] (by
        subst h;rw [List.drop_eq_getElem_cons hlt]; exact List.mem_cons_self)
       generalize l[k] = x at *;have hxl := Gp x;rcases Nat.lt_trichotomy p k with hpk | hpk | hpk
       · have e1 : decide (p < k) = true := by simp [hpk]
         have e2 : decide (p < k + 1) = true := by simp; omega
         have eo := Axv (v := v) hpk hx;simp (disch := omega) only [Oc, e1, List.length_map, he, Ib, hxl, go_sem];refine A1 Aq (F9 f l g bs v k true (Kr M v p k) x) (fun j => j ≤ bs.length) (fun j => bs.length - j) 0 (by simp) (An ?_ ?_) fun j hj => ?_
         · simp (disch := omega) only [go_sem]
         · simp (disch := omega) only [List.take_zero, List.not_mem_nil, go_sem]
         have ex := Ab2 x (bs.take j) v.rep v.seq;by_cases hj2 : j < bs.length
         · have hbe : (bs.map Ga)[j]? = some (Ga bs[j]) := by simp [hj2]
           have ht : bs.take (j + 1) = bs.take j ++ [bs[j]] := by rw [List.take_add_one, List.getElem?_eq_getElem hj2]; rfl
           generalize bs[j] = b at *;have hjn := Xe x ((x.rep, x.seq) ∈ bs.take j) v.rep v.seq;have hsp := Lp (if (x.rep, x.seq) ∈ bs.take j then Fu x v.rep v.seq else x) (Ei (if (x.rep, x.seq) ∈ bs.take j then Fu x v.rep v.seq else x).gone (Q6 v.rep v.seq));by_cases hb : b.1 = x.rep ∧ b.2 = x.seq
           · have hp := L0 hb;have hb' : (x.rep, x.seq) = b := by rw [← hb.1, ← hb.2]
             simp (disch := omega) only [F9, List.length_map, hbe, T7, Co, ex.1, ex.2, Ig, hp, K3, go_sem];refine Aa (U2 _ _ _) ?_;simp (disch := omega) only [hsp, hjn, go_sem];refine Al (j + 1) _ _ rfl (by omega) (by omega) ?_ ?_
             · simp (disch := omega) only [go_sem]
             · simp (disch := omega) only [ht, hb', List.mem_append, List.mem_singleton, go_sem]
           · have hp := Jw hb;have hb' : ¬ (x.rep, x.seq) = b := fun e => hb (by rw [← e]; exact ⟨rfl, rfl⟩);simp (disch := omega) only [F9, List.length_map, hbe, T7, Co, ex.1, ex.2, Ig, hp, go_sem];refine Al (j + 1) _ _ rfl (by omega) (by omega) ?_ ?_
             · simp (disch := omega) only [go_sem]
             · simp (disch := omega) only [ht, hb', List.mem_append, List.mem_singleton, or_false, go_sem]
         · obtain rfl : j = bs.length := by omega
           have e := List.take_length (l := bs);have hxl2 := Gp (if (x.rep, x.seq) ∈ bs then Fu x v.rep v.seq else x);simp (disch := omega) only [F9, e, List.length_map, Ib, hxl2, List.length_append, List.length_singleton, go_sem];refine ⟨k + 1, by omega, by omega, Cf 110 16 (by decide) rfl (An ?_ ?_)⟩
           · simp (disch := omega) only [e2, go_sem]
           · simp (disch := omega) only [eo, List.map_append, List.map_cons, List.map_nil, go_sem]
       · subst hpk;have e1 : decide (p < p) = false := by simp
         have e2 : decide (p < p + 1) = true := by simp
         have eo := Axx (v := v) hx;have hl7 := hl6 rfl;simp (disch := omega) only [Oc, e1, List.length_map, he, Co, go_sem];refine Aa (Fj _ _ _ _) ?_;simp (disch := omega) only [hl7, hv, List.length_map, he, Ib, hxl, go_sem];refine A1 Aq (F9 f l g bs v p true (Kr M v p p ++ [v]) x) (fun j => j ≤ bs.length) (fun j => bs.length - j) 0 (by simp) (Cf 83 16 (by decide) rfl (An ?_ ?_)) fun j hj => ?_
         · simp (disch := omega) only [go_sem]
         · simp (disch := omega) only [List.take_zero, List.not_mem_nil, List.map_append, List.map_cons, List.map_nil, go_sem]
         have ex := Ab2 x (bs.take j) v.rep v.seq;by_cases hj2 : j < bs.length
         · have hbe : (bs.map Ga)[j]? = some (Ga bs[j]) := by simp [hj2]
           have ht : bs.take (j + 1) = bs.take j ++ [bs[j]] := by rw [List.take_add_one, List.getElem?_eq_getElem hj2]; rfl
           generalize bs[j] = b at *;have hjn := Xe x ((x.rep, x.seq) ∈ bs.take j) v.rep v.seq;have hsp := Lp (if (x.rep, x.seq) ∈ bs.take j then Fu x v.rep v.seq else x) (Ei (if (x.rep, x.seq) ∈ bs.take j then Fu x v.rep v.seq else x).gone (Q6 v.rep v.seq));by_cases hb : b.1 = x.rep ∧ b.2 = x.seq
           · have hp := L0 hb;have hb' : (x.rep, x.seq) = b := by rw [← hb.1, ← hb.2]
             simp (disch := omega) only [F9, List.length_map, hbe, T7, Co, ex.1, ex.2, Ig, hp, K3, go_sem];refine Aa (U2 _ _ _) ?_;simp (disch := omega) only [hsp, hjn, go_sem];refine Al (j + 1) _ _ rfl (by omega) (by omega) ?_ ?_
             · simp (disch := omega) only [go_sem]
             · simp (disch := omega) only [ht, hb', List.mem_append, List.mem_singleton, go_sem]
           · have hp := Jw hb;have hb' : ¬ (x.rep, x.seq) = b := fun e => hb (by rw [← e]; exact ⟨rfl, rfl⟩);simp (disch := omega) only [F9, List.length_map, hbe, T7, Co, ex.1, ex.2, Ig, hp, go_sem];refine Al (j + 1) _ _ rfl (by omega) (by omega) ?_ ?_
             · simp (disch := omega) only [go_sem]
             · simp (disch := omega) only [ht, hb', List.mem_append, List.mem_singleton, or_false, go_sem]
         · obtain rfl : j = bs.length := by omega
           have e := List.take_length (l := bs);have hxl2 := Gp (if (x.rep, x.seq) ∈ bs then Fu x v.rep v.seq else x);simp (disch := omega) only [F9, e, List.length_map, Ib, hxl2, List.length_append, List.length_singleton, go_sem];refine ⟨p + 1, by omega, by omega, Cf 110 16 (by decide) rfl (An ?_ ?_)⟩
           · simp (disch := omega) only [e2, go_sem]
           · simp (disch := omega) only [eo, List.map_append, List.map_cons, List.map_nil, go_sem]
       · have e1 : decide (p < k) = false := by simp; omega
         have e2 : decide (p < k + 1) = false := by simp; omega
         have eo := Axw (v := v) hpk hx;have hl7 := hl5 hpk;simp (disch := omega) only [Oc, e1, List.length_map, he, Co, go_sem];refine Aa (Fj _ _ _ _) ?_;simp (disch := omega) only [hl7, hv, List.length_map, he, Ib, hxl, go_sem];refine A1 Aq (F9 f l g bs v k false (Kr M v p k) x) (fun j => j ≤ bs.length) (fun j => bs.length - j) 0 (by simp) (An ?_ ?_) fun j hj => ?_
         · simp (disch := omega) only [go_sem]
         · simp (disch := omega) only [List.take_zero, List.not_mem_nil, go_sem]
         have ex := Ab2 x (bs.take j) v.rep v.seq;by_cases hj2 : j < bs.length
         · have hbe : (bs.map Ga)[j]? = some (Ga bs[j]) := by simp [hj2]
           have ht : bs.take (j + 1) = bs.take j ++ [bs[j]] := by rw [List.take_add_one, List.getElem?_eq_getElem hj2]; rfl
           generalize bs[j] = b at *;have hjn := Xe x ((x.rep, x.seq) ∈ bs.take j) v.rep v.seq;have hsp := Lp (if (x.rep, x.seq) ∈ bs.take j then Fu x v.rep v.seq else x) (Ei (if (x.rep, x.seq) ∈ bs.take j then Fu x v.rep v.seq else x).gone (Q6 v.rep v.seq));by_cases hb : b.1 = x.rep ∧ b.2 = x.seq
           · have hp := L0 hb;have hb' : (x.rep, x.seq) = b := by rw [← hb.1, ← hb.2]
             simp (disch := omega) only [F9, List.length_map, hbe, T7, Co, ex.1, ex.2, Ig, hp, K3, go_sem];refine Aa (U2 _ _ _) ?_;simp (disch := omega) only [hsp, hjn, go_sem];refine Al (j + 1) _ _ rfl (by omega) (by omega) ?_ ?_
             · simp (disch := omega) only [go_sem]
             · simp (disch := omega) only [ht, hb', List.mem_append, List.mem_singleton, go_sem]
           · have hp := Jw hb;have hb' : ¬ (x.rep, x.seq) = b := fun e => hb (by rw [← e]; exact ⟨rfl, rfl⟩);simp (disch := omega) only [F9, List.length_map, hbe, T7, Co, ex.1, ex.2, Ig, hp, go_sem];refine Al (j + 1) _ _ rfl (by omega) (by omega) ?_ ?_
             · simp (disch := omega) only [go_sem]
             · simp (disch := omega) only [ht, hb', List.mem_append, List.mem_singleton, or_false, go_sem]
         · obtain rfl : j = bs.length := by omega
           have e := List.take_length (l := bs);have hxl2 := Gp (if (x.rep, x.seq) ∈ bs then Fu x v.rep v.seq else x);simp (disch := omega) only [F9, e, List.length_map, Ib, hxl2, List.length_append, List.length_singleton, go_sem];refine ⟨k + 1, by omega, by omega, Cf 110 16 (by decide) rfl (An ?_ ?_)⟩
           · simp (disch := omega) only [e2, go_sem]
           · simp (disch := omega) only [eo, List.map_append, List.map_cons, List.map_nil, go_sem]
     · obtain rfl : k = l.length := by omega
       by_cases hpl : p < l.length
       · have e1 : decide (p < l.length) = true := by simp [hpl]
         have e2 : Kr M v p l.length = M.take p ++ v :: M.drop p := by unfold Kr; rw [if_pos hpl, ← hMl, List.take_length]
         simp (disch := omega) only [Oc, e1, e2, List.length_map, go_sem];exact h3' _ _ rfl
       · have e1 : decide (p < l.length) = false := by simp; omega
         have ep : p = M.length := by omega
         have e2 : Kr M v p l.length = M := by unfold Kr; rw [if_neg hpl, ← hMl, List.take_length]
         simp (disch := omega) only [Oc, e1, e2, hv, List.length_map, go_sem];refine h3' _ _ ?_;simp (disch := omega) only [go_sem];simp [ep]
structure Obj where
 id : Ca
 dir : Bool
 last : Ca
 name : List UInt8
 seen : Vc
 vers : List Ver
def Gm (f : Bool) (z : Nat) (o : Obj) : List PV := [.i .i64 o.id.1, .i .u32 o.id.2, .b o.dir, .i .i64 o.last.1, .i .u32 o.last.2, .s o.name] ++ vE o.seen ++ [.sl f z (o.vers.map Ba)]
def A6 (o : Obj) : List PV := Gm false 11 o
theorem F4 (f z) (o : Obj) : (Gm f z o).length = 15 := by simp [Gm, Bh]
theorem C5 (o : Obj) : (A6 o).length = 15 := F4 _ _ o
theorem Ax7 {f : Bool} {z : Nat} (o : Obj) (h : o.vers = [] ∨ z = 11) : PImpL (Gm f z o) (A6 o) := by
 refine PImpL.app (PImpL.refl _) ⟨Lz (by simp) (h.imp (fun e => by rw [e]; rfl) id) (.refl _), trivial⟩
theorem Anj (f : Bool) (z : Nat) (o : Obj) (K : KK) : LoadK (some (Gm f z o)) 0 2 true K = K (.vec 2 ([.i .i64 o.id.1, .i .u32 o.id.2])) [] := by
 simp only [LoadK, G5, eq_iff_iff];have e : ((Gm f z o).drop 0).take 2 = [.i .i64 o.id.1, .i .u32 o.id.2] := by
  obtain ⟨i, b, l, n, s, v⟩ := o;simp only [Gm, vE, Cq]; rfl
 rw [e];exact ⟨fun h => h.2.2, fun h => ⟨by simp [F4], .inl trivial, h⟩⟩
theorem Afa (f : Bool) (z : Nat) (o : Obj) (K : KK) : LoadK (some (Gm f z o)) 3 2 true K = K (.vec 2 ([.i .i64 o.last.1, .i .u32 o.last.2])) [] := by
 simp only [LoadK, G5, eq_iff_iff];have e : ((Gm f z o).drop 3).take 2 = [.i .i64 o.last.1, .i .u32 o.last.2] := by
  obtain ⟨i, b, l, n, s, v⟩ := o;simp only [Gm, vE, Cq]; rfl
 rw [e];exact ⟨fun h => h.2.2, fun h => ⟨by simp [F4], .inl trivial, h⟩⟩
theorem Ae8 (f : Bool) (z : Nat) (o : Obj) (K : KK) : LoadK (some (Gm f z o)) 6 8 true K = K (.vec 8 (vE o.seen)) [] := by
 simp only [LoadK, G5, eq_iff_iff];have e : ((Gm f z o).drop 6).take 8 = vE o.seen := by
  obtain ⟨i, b, l, n, s, v⟩ := o;simp only [Gm, vE, Cq]; rfl
 rw [e];exact ⟨fun h => h.2.2, fun h => ⟨by simp [F4], .inl trivial, h⟩⟩
theorem Aih (f : Bool) (z : Nat) (o : Obj) (K : KK) : LoadK (some (Gm f z o)) 2 1 false K = K (.pv (.b o.dir)) [] := by
 simp only [LoadK, G5, eq_iff_iff];have e : (Gm f z o).getD 2 (.b false) = .b o.dir := by
  obtain ⟨i, b, l, n, s, v⟩ := o;simp only [Gm, vE, Cq]; rfl
 rw [e];exact ⟨fun h => h.2.2, fun h => ⟨by simp [F4], .inr trivial, h⟩⟩
theorem Ae9 (f : Bool) (z : Nat) (o : Obj) (K : KK) : LoadK (some (Gm f z o)) 5 1 false K = K (.pv (.s o.name)) [] := by
 simp only [LoadK, G5, eq_iff_iff];have e : (Gm f z o).getD 5 (.b false) = .s o.name := by
  obtain ⟨i, b, l, n, s, v⟩ := o;simp only [Gm, vE, Cq]; rfl
 rw [e];exact ⟨fun h => h.2.2, fun h => ⟨by simp [F4], .inr trivial, h⟩⟩
theorem Ae7 (f : Bool) (z : Nat) (o : Obj) (K : KK) : LoadK (some (Gm f z o)) 14 1 false K = K (.pv (.sl f z (o.vers.map Ba))) [] := by
 simp only [LoadK, G5, eq_iff_iff];have e : (Gm f z o).getD 14 (.b false) = .sl f z (o.vers.map Ba) := by
  obtain ⟨i, b, l, n, s, v⟩ := o;simp only [Gm, vE, Cq]; rfl
 rw [e];exact ⟨fun h => h.2.2, fun h => ⟨by simp [F4], .inr trivial, h⟩⟩
theorem Ayt (f : Bool) (z : Nat) (o : Obj) (K : KK) : LoadK (some (Gm f z o)) 0 15 true K = K (.vec 15 (Gm f z o)) [] := by
 simp only [LoadK, G5, eq_iff_iff];have e : ((Gm f z o).drop 0).take 15 = Gm f z o := List.take_of_length_le (by simp [F4]);rw [e];exact ⟨fun h => h.2.2, fun h => ⟨by simp [F4], .inl trivial, h⟩⟩
theorem C6 (o : Obj) (K : KK) : LoadK (some (A6 o)) 0 2 true K = K (.vec 2 [.i .i64 o.id.1, .i .u32 o.id.2]) [] := Anj _ _ o K
theorem Cp (o : Obj) (K : KK) : LoadK (some (A6 o)) 3 2 true K = K (.vec 2 [.i .i64 o.last.1, .i .u32 o.last.2]) [] := Afa _ _ o K
theorem Df (o : Obj) (K : KK) : LoadK (some (A6 o)) 6 8 true K = K (.vec 8 (vE o.seen)) [] := Ae8 _ _ o K
theorem Db (o : Obj) (K : KK) : LoadK (some (A6 o)) 2 1 false K = K (.pv (.b o.dir)) [] := Aih _ _ o K
theorem D3 (o : Obj) (K : KK) : LoadK (some (A6 o)) 5 1 false K = K (.pv (.s o.name)) [] := Ae9 _ _ o K
theorem Em (o : Obj) (K : KK) : LoadK (some (A6 o)) 14 1 false K = K (.pv (.sl false 11 (o.vers.map Ba))) [] := Ae7 _ _ o K
theorem D4 (o : Obj) (K : KK) : LoadK (some (A6 o)) 0 15 true K = K (.vec 15 (A6 o)) [] := Ayt _ _ o K
theorem Adw (o : Obj) (i : Ca) : splice (A6 o) 3 ([.i .i64 i.1, .i .u32 i.2]) = A6 { o with last := i } := by
 obtain ⟨i, b, l, n, s, v⟩ := o;simp only [splice, A6, Gm, vE, Cq]; rfl
theorem Adv (o : Obj) (s : List UInt8) : splice (A6 o) 5 ([.s s]) = A6 { o with name := s } := by
 obtain ⟨i, b, l, n, s, v⟩ := o;simp only [splice, A6, Gm, vE, Cq]; rfl
theorem Adu (o : Obj) (v : Vc) : splice (A6 o) 6 (vE v) = A6 { o with seen := v } := by
 obtain ⟨i, b, l, n, s, v⟩ := o;simp only [splice, A6, Gm, vE, Cq]; rfl
def obN (o : Obj) : Ent := ⟨o.id, (0, 0), [], (0, 0), fun _ => 0⟩
def H7 (l : List Obj) : Prop := J8 (l.map obN)
def D7 (l : List Obj) (i : Ca) : Nat := Ly (l.map obN) i
def isO (l : List Obj) (i : Ca) : Bool := isE (l.map obN) i
structure St where
 known : Vc
 objs : List Obj
 ents : List Ent
 wards : Nat → Int
 ret : Nat → Bool
def Bg (s : St) (x y : SV) : List SV := [.vec 8 (vE s.known), x, y, .vec 8 (iE s.wards), .vec 8 (wE s.ret)]
def Bb (s : St) : List SV := Bg s (.pv (.sl false 15 (s.objs.map A6))) (.pv (.sl false 15 (s.ents.map Bk)))
theorem Ake {s : St} {f g : Bool} {y z : Nat} {es fs : List (List PV)} (hy : es = [] ∨ y = 15) (hz : fs = [] ∨ z = 15) (he : PImpR es (s.objs.map A6)) (hf : PImpR fs (s.ents.map Bk)) : Imp (.agg (Bg s (.pv (.sl f y es)) (.pv (.sl g z fs)))) (.agg (Bb s)) :=
 Atg ⟨⟨Imp.refl _, rfl⟩, ⟨Ach (Lz (by simp) hy he), rfl⟩, ⟨Ach (Lz (by simp) hz hf), rfl⟩, ⟨Imp.refl _, rfl⟩, ⟨Imp.refl _, rfl⟩, trivial⟩
theorem Ayu (a b : PV) (w : Nat → Int) (r : Nat → Bool) {j : Nat} (hj : j < 8) (K : KK) : LoadK (some (a :: b :: (iE w ++ wE r))) (18 + j - 8) 1 false K = K (.pv (.b (r j))) [] := by
 have e : 18 + j - 8 = 10 + j := by omega
 rw [e];simp only [LoadK, G5, eq_iff_iff];have e2 : (a :: b :: (iE w ++ wE r)).getD (10 + j) (.b false) = .b (r j) := by
  have hk2 : j = 0 ∨ j = 1 ∨ j = 2 ∨ j = 3 ∨ j = 4 ∨ j = 5 ∨ j = 6 ∨ j = 7 := by omega
  simp only [iE, wE, Cq];rcases hk2 with rfl | rfl | rfl | rfl | rfl | rfl | rfl | rfl <;> rfl
 rw [e2];exact ⟨fun h => h.2.2, fun h => ⟨by simp [K6, Kk]; omega, .inr trivial, h⟩⟩
def Je (s : St) (i : Nat) : UInt8 := UInt8.ofNat ((s.wards i).toNat * 2 + (Fe (s.ret i)).length)
def G9 (s : St) (k : Nat) : List UInt8 := (List.range k).map (Je s)
theorem Azh (s : St) (k : Nat) : G9 s (k + 1) = G9 s k ++ [Je s k] := by simp [G9, List.range_succ]
theorem K8 (s : St) (k : Nat) : (G9 s k).length = k := by simp [G9]
def Aaq (v : Ver) : List (List UInt8) := [E6 (v.rep, v.seq), v.data, Io v.gone]
def Ci : List Ver → List (List UInt8)
 | [] => []
 | v :: l => Aaq v ++ Ci l
theorem Y8 : ∀ (l m : List Ver), Ci (l ++ m) = Ci l ++ Ci m
 | [], m => rfl
 | v :: l, m => by simp only [List.cons_append, Ci, Y8 l m, List.append_assoc]
def Kv (o : Obj) : List (List UInt8) := [E6 o.id, Fe o.dir, E6 o.last, o.name, Io o.seen]
def G4 (o : Obj) : List UInt8 := Cz (Kv o ++ Ci o.vers)
def H3 (x : Ent) : List UInt8 := Cz [E6 x.id, E6 x.dir, x.name, E6 x.obj, Io x.gone]
def Zd (s : St) : List (List UInt8) := [Io s.known, G9 s 8]
def Hc (s : St) : List UInt8 := Cz (Zd s ++ s.objs.map G4 ++ [[]] ++ s.ents.map H3)
theorem Ad4 (v base : Vc) (hv : ∀ i, i < 8 → v i < 4294967296) (hb : ∀ i, i < 8 → base i < 4294967296) : (C2 v base).length ≤ 42 := by
 have := X0 v base hv hb 8 (by omega);simp [C2]; omega
def Mv (v : Vc) : Prop := ∀ i, i < 8 → v i < 4294967296
structure WrO (o : Obj) : Prop where
 id : Ez o.id
 last : Ez o.last
 name : o.name.length ≤ 1000
 seen : Mv o.seen
 vn : o.vers.length ≤ 60
 v : ∀ v ∈ o.vers, Ez (v.rep, v.seq) ∧ v.data.length ≤ 300 ∧ Mv v.gone
structure WrE (x : Ent) : Prop where
 id : Ez x.id
 dir : Ez x.dir
 obj : Ez x.obj
 name : x.name.length ≤ 1000
 gone : Mv x.gone
structure WrS (s : St) : Prop where
 known : Mv s.known
 wards : ∀ i, i < 8 → 0 ≤ s.wards i ∧ s.wards i ≤ 100
 on : s.objs.length ≤ 100
 o : ∀ o ∈ s.objs, WrO o
 en : s.ents.length ≤ 60
 tot : Be (s.objs.map G4) ≤ 200000
 e : ∀ x ∈ s.ents, WrE x
theorem E1 {v : Vc} (h : Mv v) : (Io v).length ≤ 42 := Ad4 v (fun _ => 0) h (by simp)
theorem Cu {x : Ca} (h : Ez x) : (E6 x).length ≤ 12 := by
 have := Afj (l := [x]) (by simpa using h);simpa [E6] using this
theorem La (b : Bool) : (Fe b).length ≤ 1 := by unfold Fe; split <;> simp
theorem Ej : ∀ (l m : List (List UInt8)), Be (l ++ m) = Be l + Be m
 | [], m => by simp [Be]
 | f :: l, m => by simp only [List.cons_append, Be, Ej l m]; omega
theorem Gc : ∀ {l : List Ver}, (∀ v ∈ l, Ez (v.rep, v.seq) ∧ v.data.length ≤ 300 ∧ Mv v.gone) → Be (Ci l) ≤ 400 * l.length ∧ ∀ b ∈ Ci l, b.length ≤ 300
 | [], _ => ⟨by simp [Ci, Be], by simp [Ci]⟩
 | v :: l, h => by
   obtain ⟨h1, h2, h3⟩ := h v List.mem_cons_self;obtain ⟨h4, h5⟩ := Gc (l := l) fun v hv => h v (List.mem_cons_of_mem _ hv);have a1 := Cu h1;have a2 := E1 h3;refine ⟨?_, fun b hb => ?_⟩
   · simp only [Ci, Ej, Aaq, Be, List.length_cons]; omega
   · rcases List.mem_append.1 hb with hb | hb
     · simp only [Aaq, List.mem_cons, List.not_mem_nil, or_false] at hb;rcases hb with rfl | rfl | rfl <;> omega
     · exact h5 b hb
theorem Iw {o : Obj} (h : WrO o) : Be (Kv o) ≤ 1200 ∧ ∀ b ∈ Kv o, b.length ≤ 1000 := by
 have a1 := Cu h.id;have a2 := Cu h.last;have a3 := E1 h.seen;have a4 := La o.dir;have a5 := h.name;refine ⟨by simp only [Kv, Be]; omega, fun b hb => ?_⟩;simp only [Kv, List.mem_cons, List.not_mem_nil, or_false] at hb;rcases hb with rfl | rfl | rfl | rfl | rfl <;> omega
theorem Ww {o : Obj} (h : WrO o) : (G4 o).length ≤ 26000 := by
 have h1 := (Iw h).1;have h2 := (Gc h.v).1;have h3 := Hh (Kv o ++ Ci o.vers);have h4 := h.vn;rw [Ej] at h3;unfold G4; omega
def A2o (s : St) (k : Nat) : FS := mk [(17, .pv (.i .i64 k)), (16, .vec 8 (iE s.wards)), (1, .p 1 0), (3, .os 300)] [(1, some (.var (.agg (Bb s)))), (300, some (.row 1 (Am (G9 s k))))]
def A2n (s : St) (k : Nat) : FS := mk [(44, .pv (.i .i64 k)), (43, .pv (.i .i64 s.objs.length)), (42, .pv (.sl false 15 (s.objs.map A6))), (1, .p 1 0), (6, .os 310)] [(1, some (.var (.agg (Bb s)))), (310, some (.row 1 ((Zd s ++ (s.objs.take k).map G4).map bE)))]
def A2m (s : St) (o : Obj) (k j : Nat) : FS := mk [(67, .pv (.i .i64 j)), (66, .pv (.i .i64 o.vers.length)), (65, .pv (.sl false 11 (o.vers.map Ba))), (9, .os 320), (44, .pv (.i .i64 k)), (43, .pv (.i .i64 s.objs.length)), (42, .pv (.sl false 15 (s.objs.map A6))), (1, .p 1 0), (6, .os 310)] [(1, some (.var (.agg (Bb s)))), (310, some (.row 1 ((Zd s ++ (s.objs.take k).map G4).map bE))), (320, some (.row 1 ((Kv o ++ Ci (o.vers.take j)).map bE)))]
theorem Agg {a b : List (List PV)} {L M : List (List UInt8)} (h : Aj0 a L) (k : Aj0 b M) : Aj0 (a ++ b) (L ++ M) := by
 refine ⟨by simp [h.1, k.1], fun i hi => ?_⟩;by_cases hl : i < L.length
 · obtain ⟨f, z, e, hz⟩ := h.2 i hl;have e2 : (L ++ M).getD i [] = L.getD i [] := by simp [List.getD_eq_getElem?_getD, List.getElem?_append_left hl]
   rw [e2];exact ⟨f, z, by rw [List.getElem?_append_left (by rw [h.1]; exact hl)]; exact e, hz⟩
 · rw [List.length_append] at hi;obtain ⟨f, z, e, hz⟩ := k.2 (i - L.length) (by omega);have e2 : (L ++ M).getD i [] = M.getD (i - L.length) [] := by simp [List.getD_eq_getElem?_getD, List.getElem?_append_right (Nat.le_of_not_lt hl)]
   rw [e2];exact ⟨f, z, by rw [List.getElem?_append_right (by rw [h.1]; omega), h.1]; exact e, hz⟩
theorem O5 : ∀ {l : List Ent}, (∀ x ∈ l, WrE x) → Be (l.map H3) ≤ 1200 * l.length ∧ ∀ b ∈ l.map H3, b.length ≤ 1200
 | [], _ => ⟨by simp [Be], by simp⟩
 | x :: l, h => by
   have hx := h x List.mem_cons_self;obtain ⟨h4, h5⟩ := O5 (l := l) fun v hv => h v (List.mem_cons_of_mem _ hv);have l1 := Cu hx.id;have l2 := Cu hx.dir;have l3 := Cu hx.obj;have l4 := E1 hx.gone;have l5 := hx.name;have l6 : (H3 x).length ≤ 1100 := by
    have := Hh [E6 x.id, E6 x.dir, x.name, E6 x.obj, Io x.gone];simp only [Be] at this;unfold H3; omega
   refine ⟨by simp only [List.map_cons, Be, List.length_cons]; omega, fun b hb => ?_⟩;rcases List.mem_cons.1 hb with rfl | hb
   · omega
   · exact h5 b hb
def Abg (s : St) (k : Nat) : List (List PV) := (Zd s ++ s.objs.map G4).map bE ++ ([.sl true 0 []] :: ((s.ents.take k).map H3).map bE)
def A2l (s : St) (k : Nat) : FS := mk [(96, .pv (.i .i64 k)), (95, .pv (.i .i64 s.ents.length)), (94, .pv (.sl false 15 (s.ents.map Bk))), (1, .p 1 0), (6, .os 330)] [(1, some (.var (.agg (Bb s)))), (330, some (.row 1 (Abg s k)))]
set_option maxHeartbeats 8000000 in
theorem Wr {s : St} (hs : WrS s) {h d} : FunOk Tryz.prog 8 [.agg (Bb s)] h d (.pv (.sl false 1 (Am (Hc s)))) [] := by
 refine A7 Aq fn8 (by simp) rfl rfl fun F => ?_;simp (disch := omega) only [ir8, Bb, Bg, go_sem];refine A1 Aq (A2o s) (fun k => k ≤ 8) (fun k => 8 - k) 0 (by omega) (Cf 14 300 (by decide) rfl (An ?_ ?_)) fun k hk => ?_
 · simp (disch := omega) only [go_sem]
 · simp (disch := omega) only [Bb, Bg, go_sem];rfl
 by_cases hlt : k < 8
 · have hld := fun (a b : PV) (w : Nat → Int) (r : Nat → Bool) (K : KK) => Ayu a b w r hlt K;obtain ⟨hw1, hw2⟩ := hs.wards k hlt;obtain ⟨n, hn⟩ : ∃ n : Nat, s.wards k = n := ⟨(s.wards k).toNat, by omega⟩
   have hflag := La (s.ret k);have hb : ((Je s k).toNat : Int) = (n : Int) * 2 + ((Fe (s.ret k)).length : Int) := by
    unfold Je;rw [hn, Int.toNat_natCast, UInt8.toNat_ofNat'];omega
   have he : Am (G9 s (k + 1)) = Am (G9 s k) ++ [[.i .u8 ((n : Int) * 2 + ((Fe (s.ret k)).length : Int))]] := by
    rw [Azh, Am, List.map_append, ← hb]; rfl
   simp (disch := omega) only [A2o, Bb, Bg, hld, go_sem];refine Aa (Akv (s.ret k)) ?_;have q1 : IntKind.u8.wrap (n : Int) = n := Il ⟨by omega, by omega⟩;have q2 : IntKind.u8.wrap ((n : Int) * 2) = (n : Int) * 2 := Il ⟨by omega, by omega⟩;have q3 : IntKind.u8.wrap ((Fe (s.ret k)).length : Int) = ((Fe (s.ret k)).length : Int) := Il ⟨by omega, by omega⟩;have q4 : IntKind.u8.wrap ((n : Int) * 2 + ((Fe (s.ret k)).length : Int)) = (n : Int) * 2 + ((Fe (s.ret k)).length : Int) := Il ⟨by omega, by omega⟩;have hl := K8 s k;simp (disch := omega) only [A0, hn, q1, q2, q3, q4, hl, go_sem];refine ⟨k + 1, by omega, by omega, Cf 34 300 (by decide) rfl (An ?_ ?_)⟩
   · simp (disch := omega) only [go_sem]
   · simp (disch := omega) only [he, Bb, Bg, go_sem]
 have ek : k = 8 := by omega
 subst ek;simp (disch := omega) only [A2o, Bb, Bg, go_sem];refine Aa (Q7 s.known hs.known) ?_;simp (disch := omega) only [go_sem];have hon := hs.on;have hst0 : (Zd s).map bE = [bE (Io s.known), bE (G9 s 8)] := rfl;refine A1 Aq (A2n s) (fun k => k ≤ s.objs.length) (fun k => s.objs.length - k) 0 (by simp) (Cf 40 310 (by decide) rfl (An ?_ ?_)) fun k hk => ?_
 · simp (disch := omega) only [List.length_map, go_sem]
 · simp (disch := omega) only [Bb, Bg, List.take_zero, List.map_nil, List.append_nil, hst0, bE, go_sem]
 by_cases hlt : k < s.objs.length
 · have h1 : (s.objs.map A6)[k]? = some (A6 s.objs[k]) := by simp [hlt]
   have ht : s.objs.take (k + 1) = s.objs.take k ++ [s.objs[k]] := by rw [List.take_add_one, List.getElem?_eq_getElem hlt]; rfl
   have ho := hs.o _ (List.getElem_mem hlt);have hoe : ∀ o : Obj, (A6 o).length = 15 := C5;generalize s.objs[k] = o at *;have hvn := ho.vn;simp (disch := omega) only [A2n, Bb, Bg, h1, D4, hoe, List.length_map, C6, Db, Cp, D3, Df, go_sem];refine Aa (Sq o.id ho.id) ?_;simp (disch := omega) only [C6, Db, Cp, D3, Df, go_sem];refine Aa (Akv o.dir) ?_;simp (disch := omega) only [C6, Db, Cp, D3, Df, go_sem];refine Aa (Sq o.last ho.last) ?_;simp (disch := omega) only [C6, Db, Cp, D3, Df, go_sem];refine Aa (Q7 o.seen ho.seen) ?_;simp (disch := omega) only [Em, List.length_map, go_sem];refine A1 Aq (A2m s o k) (fun j => j ≤ o.vers.length) (fun j => o.vers.length - j) 0 (by simp) (Cf 63 320 (by decide) rfl (An ?_ ?_)) fun j hj => ?_
   · simp (disch := omega) only [List.length_map, go_sem]
   · simp (disch := omega) only [Bb, Bg, List.take_zero, Ci, Kv, List.map_nil, List.append_nil, List.map_cons, bE, go_sem]
   by_cases hlt2 : j < o.vers.length
   · have h2 : (o.vers.map Ba)[j]? = some (Ba o.vers[j]) := by simp [hlt2]
     have ht2 : o.vers.take (j + 1) = o.vers.take j ++ [o.vers[j]] := by rw [List.take_add_one, List.getElem?_eq_getElem hlt2]; rfl
     obtain ⟨v1, v2, v3⟩ := ho.v _ (List.getElem_mem hlt2);have hve : ∀ v : Ver, (Ba v).length = 11 := fun v => by simp [Ba, Bh]
     generalize o.vers[j] = v at *;have hvl : ∀ l : List Ver, (Ci l).length = 3 * l.length := fun l => by
      induction l with
      | nil => rfl
      | cons v l ih => simp only [Ci, Aaq, List.length_append, List.length_cons, List.length_nil, ih]; omega
     have hlv : (Ci (o.vers.take j)).length ≤ 180 := by rw [hvl]; simp; omega
     have hop : (Kv o).length = 5 := rfl;simp (disch := omega) only [A2m, Bb, Bg, h2, Ib, hve, List.length_map, Co, Mc, K3, go_sem];refine Aa (Sq (v.rep, v.seq) v1) ?_;simp (disch := omega) only [Co, Mc, K3, go_sem];refine Aa (Q7 v.gone v3) ?_;simp (disch := omega) only [List.length_map, List.length_append, hop, go_sem];refine ⟨j + 1, by omega, by omega, Cf 82 320 (by decide) rfl (An ?_ ?_)⟩
     · simp (disch := omega) only [List.length_map, go_sem]
     · simp (disch := omega) only [Bb, Bg, ht2, Y8, Ci, Aaq, List.map_append, List.append_assoc, List.map_cons, List.map_nil, bE, List.append_nil, go_sem]
   have ej : j = o.vers.length := by omega
   subst ej;have et := List.take_length (l := o.vers);have hp1 := Iw ho;have hp2 := Gc ho.v;have hW : Cz (Kv o ++ Ci o.vers) = G4 o := rfl;have hkl : (s.objs.take k).length ≤ 100 := by simp; omega
   have hsp : (Zd s).length = 2 := rfl;simp (disch := omega) only [A2m, et, go_sem];refine Aa (Abs (f := false) (z := 1) (L := Kv o ++ Ci o.vers) rfl rfl (N0 _) (.inr rfl) (by rw [Ej]; omega) (fun b hb => (List.mem_append.1 hb).elim (fun hb => by have := hp1.2 b hb; omega) fun hb => by have := hp2.2 b hb; omega)) ?_;rw [hW];simp (disch := omega) only [List.length_map, List.length_append, hsp, go_sem];refine ⟨k + 1, by omega, by omega, Cf 88 310 (by decide) rfl (An ?_ ?_)⟩
   · simp (disch := omega) only [List.length_map, go_sem]
   · simp (disch := omega) only [Bb, Bg, ht, List.map_append, List.append_assoc, List.map_cons, List.map_nil, bE, go_sem]
 have ek : k = s.objs.length := by omega
 subst ek;have et := List.take_length (l := s.objs);have hsp : (Zd s).length = 2 := rfl;have hen := hs.en;simp (disch := omega) only [A2n, Bb, Bg, et, List.length_map, List.length_append, hsp, go_sem];refine A1 Aq (A2l s) (fun k => k ≤ s.ents.length) (fun k => s.ents.length - k) 0 (by simp) (Cf 92 330 (by decide) rfl (An ?_ ?_)) fun k hk => ?_
 · simp (disch := omega) only [List.length_map, go_sem]
 · simp (disch := omega) only [Bb, Bg, Abg, List.take_zero, List.map_nil, go_sem]
 by_cases hlt : k < s.ents.length
 · have h1 : (s.ents.map Bk)[k]? = some (Bk s.ents[k]) := by simp [hlt]
   have ht : s.ents.take (k + 1) = s.ents.take k ++ [s.ents[k]] := by rw [List.take_add_one, List.getElem?_eq_getElem hlt]; rfl
   have hx := hs.e _ (List.getElem_mem hlt);have hee : ∀ x : Ent, (Bk x).length = 15 := C7;generalize s.ents[k] = x at *;have hrl : (Abg s k).length ≤ 300 := by simp [Abg, hsp]; omega
   have hrs : Abg s (k + 1) = Abg s k ++ [bE (H3 x)] := by simp [Abg, ht]
   simp (disch := omega) only [A2l, Bb, Bg, h1, Ge, hee, List.length_map, Dv, Oq, Md, Cr, Fa, go_sem];have l1 := Cu hx.id;have l2 := Cu hx.dir;have l3 := Cu hx.obj;have l4 := E1 hx.gone;have l5 := hx.name;refine Aa (Sq x.id hx.id) ?_;simp (disch := omega) only [Dv, Oq, Md, Cr, Fa, go_sem];refine Aa (Sq x.dir hx.dir) ?_;simp (disch := omega) only [Dv, Oq, Md, Cr, Fa, go_sem];refine Aa (Sq x.obj hx.obj) ?_;simp (disch := omega) only [Dv, Oq, Md, Cr, Fa, go_sem];refine Aa (Q7 x.gone hx.gone) ?_;simp (disch := omega) only [go_sem];refine Aa (Abs (f := false) (z := 1) (L := [E6 x.id, E6 x.dir, x.name, E6 x.obj, Io x.gone]) rfl rfl (N0 [E6 x.id, E6 x.dir, x.name, E6 x.obj, Io x.gone]) (.inr rfl) (by simp only [Be]; omega) (fun b hb => by
    simp only [List.mem_cons, List.not_mem_nil, or_false] at hb;rcases hb with rfl | rfl | rfl | rfl | rfl <;> omega)) ?_
   have hW : Cz [E6 x.id, E6 x.dir, x.name, E6 x.obj, Io x.gone] = H3 x := rfl;rw [hW];simp (disch := omega) only [go_sem];refine ⟨k + 1, by omega, by omega, Cf 119 330 (by decide) rfl (An ?_ ?_)⟩
   · simp (disch := omega) only [List.length_map, go_sem]
   · simp (disch := omega) only [Bb, Bg, hrs, bE, go_sem]
 have ek : k = s.ents.length := by omega
 subst ek;have et2 := List.take_length (l := s.ents);have hB : Aj0 (Abg s s.ents.length) ((Zd s ++ s.objs.map G4) ++ ([] :: s.ents.map H3)) := by
  unfold Abg;rw [et2];exact Agg (N0 _) (Agg (a := [[.sl true 0 []]]) (L := [[]]) ⟨rfl, fun i hi => by
   have : i = 0 := by simp at hi; omega
   subst this;exact ⟨true, 0, rfl, .inl rfl⟩⟩ (N0 _))
 have hS : Cz ((Zd s ++ s.objs.map G4) ++ ([] :: s.ents.map H3)) = Hc s := by
  unfold Hc; congr 1; simp
 have hE := O5 hs.e;have hT := hs.tot;have hV := E1 hs.known;have hH := K8 s 8;simp (disch := omega) only [A2l, go_sem];refine Aa (Abs (f := false) (z := 1) rfl rfl hB (.inr rfl) (by simp only [Ej, Be, Zd, List.length_nil]; omega) (fun b hb => by
  simp only [Zd, List.mem_append, List.mem_cons, List.not_mem_nil, or_false] at hb;rcases hb with ((rfl | rfl) | hb) | rfl | hb
  · omega
  · omega
  · obtain ⟨o, ho, rfl⟩ := List.mem_map.1 hb;have := Ww (hs.o o ho); omega
  · simp
  · have := hE.2 b hb; omega)) ?_
 rw [hS];simp (disch := omega) only [go_sem]
theorem Ah3 {h d} : FunOk Tryz.prog 61 [.pv (.i .i64 0)] h d (.tup []) [] := by
 refine A7 Aq fn61 (by simp) rfl rfl fun F => ?_;simp (disch := omega) only [ir61, go_sem];rfl
def Lx (f : Bool) (L : List (List UInt8)) : Blk := .var (.pv (.sl f 1 (L.map bE)))
theorem Abq {f : Bool} {b : List UInt8} {L : List (List UInt8)} {h d} (hn : L.length ≤ 100000) (hg : h 900 = some (Lx f (b :: L))) : FunOk Tryz.prog 28 [.p 900 0] h d (.pv (.sl false 1 (Am b))) [.upd 900 (Lx f L)] := by
 unfold Lx at *;refine Ro (g := 900) Aq fn28 (by simp) (by simp [Bd, tn]) (by simp [Bd, tn]) hg rfl (by simp [Blk.ptr, SV.kill]) rfl (fun _ => rfl) fun F => ?_;have h0 : ¬ ((L.length : Int) + 1 = 0) := by omega
 have e : G5 [PV.sl false 1 (Am b)] 0 1 false = .pv (.sl false 1 (Am b)) := rfl;have t1 : Int.toNat 1 = 1 := rfl;have ed : List.drop 1 (List.take (L.length + 1) ([PV.sl false 1 (Am b)] :: List.map bE L)) = L.map bE := by
  rw [List.take_of_length_le (by simp)]; rfl
 simp (disch := omega) only [ir28, List.length_map, h0, List.map_cons, bE, Afb, Blk.ptr, go_sem];refine ⟨by simp, by simp, ?_⟩;simp (disch := omega) only [go_sem];refine ⟨mk [(2, .pv (.sl false 1 (Am b))), (1000000, .p 900 0)] [(900, some (.var (.pv (.sl f 1 (L.map bE)))))], An ?_ ?_, ?_⟩
 · simp (disch := omega) only [e, go_sem]
 · simp (disch := omega) only [t1, ed, go_sem]
 · (try simp only [Ak, Aj, Ai, Ah, Ag, Af, Ae, Ad]); simp (disch := omega) only [Blk.ptr, go_sem]
   exact ⟨900, rfl, rfl⟩
end Go.Proofs.YtannaphhhkncoaaGreat.Fw
namespace Go.Proofs.YtannaphhhkncoaaGreat.Fw
open Go.RowKit Go.Proofs
variable {P : Program}
end Go.Proofs.YtannaphhhkncoaaGreat.Fw
