/- What the functions compute that the laws of this seat reach. -/
import Derived.Test.YthhomcfimdkfhaaGreatIr
import Derived.OpenShut
import Derived.ShutString
import Derived.ChangeOld
import Derived.SizedLaws
import Derived.ChangeOld
import Derived.Lib.Bytealg
import Derived.Lib.Overlaps
import Derived.OpenShut
import Derived.ShutString
import Derived.SizedLaws
set_option linter.unusedVariables false
set_option linter.unusedSimpArgs false
set_option linter.unusedSectionVars false
set_option maxRecDepth 100000
namespace Go.Proofs.YthhomcfimdkfhaaGreat.Fw
open Go.RowKit Go.Proofs
def Ck (a b : Vc) : Vc := fun i => max (a i) (b i)
def Ua (a b : Vc) : Prop := ∀ i, i < 8 → a i ≤ b i
instance (a b : Vc) : Decidable (Ua a b) := inferInstanceAs (Decidable (∀ i, i < 8 → a i ≤ b i))
def Ar7 (a b : Vc) : Int := if vEq a b then 0 else if Ua a b then -1 else if Ua b a then 1 else 2
theorem Agg (a b : Vc) : Ar7 a b ≤ 0 ↔ Ua a b := by
 unfold Ar7;by_cases h : vEq a b
 · have : Ua a b := fun i hi => by rw [h i hi]; exact Nat.le_refl _
   simp [h, this]
 · by_cases h2 : Ua a b
   · simp [h, h2]
   · by_cases h3 : Ua b a <;> simp [h, h2, h3]
def Ad9 (a b : Vc) (k : Nat) : FS := mk [(8, .pv (.i .i64 k)), (7, .vec 8 (vE b)), (4, .p 4 0), (2, .p 2 0)] [(2, some (.var (.vec 8 (vE fun i => if i < k then Ck a b i else a i)))), (4, some (.var (.vec 8 (vE fun _ => 0))))]
theorem Ayp (a b : Vc) {h d} : FunOk Tryz.prog 108 [.vec 8 (vE a), .vec 8 (vE b)] h d (.vec 8 (vE (Ck a b))) [] := by
 refine Au Ae fn108 (by simp) rfl rfl fun F => ?_;simp (disch := omega) only [ir108, go_sem];refine A1 Ae (Ad9 a b) (fun k => k ≤ 8) (fun k => 8 - k) 0 (by simp) (Am ?_ ?_) fun k hk => ?_
 · simp (disch := omega) only [go_sem]
 · simp (disch := omega) only [Yv, go_sem]
 by_cases hlt : k < 8
 · simp (disch := omega) only [Ad9, go_sem];refine Ad (k + 1) _ _ rfl (by omega) (by omega) ?_ ?_
   · simp (disch := omega) only [go_sem]
   · simp (disch := omega) only [go_sem];exact Qe (Ad0 _ _ _ (by simp [Ck]))
 · simp (disch := omega) only [Ad9, Ad1, go_sem]
def I7 (a b : Vc) (k : Nat) : Prop := ¬ ∀ i, i < k → ¬ a i < b i
instance (a b : Vc) (k : Nat) : Decidable (I7 a b k) := inferInstanceAs (Decidable (¬ ∀ i, i < k → ¬ a i < b i))
theorem Us (a b : Vc) (k : Nat) : I7 a b k ↔ ∃ i, i < k ∧ a i < b i := by unfold I7; simp
def Y2 (a b : Vc) (k : Nat) : FS := mk [(7, .pv (.i .i64 k)), (5, .pv (.b (decide (I7 a b k)))), (6, .pv (.b (decide (I7 b a k)))), (2, .p 2 0), (3, .p 3 0)] [(2, some (.var (.vec 8 (vE a)))), (3, some (.var (.vec 8 (vE b))))]
theorem Abl (a b : Vc) (k : Nat) : I7 a b (k + 1) ↔ I7 a b k ∨ a k < b k := by
 simp only [Us];constructor
 · rintro ⟨i, h1, h2⟩;by_cases e : i = k
   · subst e; exact .inr h2
   · exact .inl ⟨i, by omega, h2⟩
 · rintro (⟨i, h1, h2⟩ | h)
   · exact ⟨i, by omega, h2⟩
   · exact ⟨k, by omega, h⟩
theorem Amn (a b : Vc) : I7 a b 8 ↔ ¬ Ua b a := by
 rw [Us];constructor
 · rintro ⟨i, h1, h2⟩ h; have := h i h1; omega
 · intro h;refine Decidable.byContradiction fun hn => h fun i hi => ?_;refine Nat.le_of_not_lt fun hl => hn ⟨i, hi, hl⟩
theorem Ar8 (a b : Vc) : vEq a b ↔ Ua a b ∧ Ua b a :=
 ⟨fun h => ⟨fun i hi => by rw [h i hi]; exact Nat.le_refl _, fun i hi => by rw [h i hi]; exact Nat.le_refl _⟩, fun h i hi => Nat.le_antisymm (h.1 i hi) (h.2 i hi)⟩
theorem Acr {a b : Bool} (h : a = b) : Imp (.pv (.b a)) (.pv (.b b)) := h ▸ Imp.refl _
set_option maxHeartbeats 1000000 in
theorem Ann (a b : Vc) {h d} : FunOk Tryz.prog 49 [.vec 8 (vE a), .vec 8 (vE b)] h d (.pv (.i .i64 (Ar7 a b))) [] := by
 refine Au Ae fn49 (by simp) rfl rfl fun F => ?_;simp (disch := omega) only [ir49, go_sem];refine A1 Ae (Y2 a b) (fun k => k ≤ 8) (fun k => 8 - k) 0 (by simp) (Am ?_ ?_) fun k hk => ?_
 · simp (disch := omega) only [go_sem];have e : ∀ x y : Vc, ¬ I7 x y 0 := fun x y => by rw [Us]; rintro ⟨i, h, _⟩; omega
   refine ⟨Acr ?_, Acr ?_⟩ <;> simp [e]
 · simp (disch := omega) only [go_sem]
 by_cases hlt : k < 8
 · by_cases h1 : I7 a b k <;> by_cases h2 : I7 b a k
   all_goals simp (disch := omega) only [Y2, h1, h2, go_sem]
   all_goals refine Ad (k + 1) _ _ rfl (by omega) (by omega) ?_ ?_
   all_goals simp (disch := omega) only [go_sem]
   all_goals try refine ⟨Acr ?_, Acr ?_⟩
   all_goals try refine Acr ?_
   all_goals simp [Abl, h1, h2]
 · obtain rfl : k = 8 := by omega
   by_cases h1 : Ua a b <;> by_cases h2 : Ua b a
   all_goals simp (disch := omega) only [Y2, Amn, h1, h2, go_sem]
   all_goals simp [Ar7, Ar8, h1, h2]
theorem Ayo (a b : Vc) {h d} : FunOk Tryz.prog 22 [.vec 8 (vE a), .vec 8 (vE b)] h d (.pv (.b (decide (Ua a b)))) [] := by
 refine Au Ae fn22 (by simp) rfl rfl fun F => ?_;simp (disch := omega) only [ir22, go_sem];refine Aa (Ann a b) ?_;simp (disch := omega) only [go_sem];by_cases h1 : Ua a b
 · simp [Agg, h1]
 · simp [Agg, h1]
end Go.Proofs.YthhomcfimdkfhaaGreat.Fw
namespace Go.Proofs.YthhomcfimdkfhaaGreat.Fw
open Go.RowKit
noncomputable abbrev Md (w : World) : View := Ay w fun _ => False
theorem Ye {w : World} {a : Addr} {v : Value} (h : w.cell? a = some v) : a.spot = none ∧ ∃ arr, Md w a.block = some arr ∧ arr[a.off]? = some v := by
 unfold World.cell? at h;split at h
 · rename_i c ty fr hb;split at h
   · cases h
   · rename_i hs;refine ⟨by cases hx : a.spot <;> simp_all, c, ?_, h⟩;unfold Md Ay Em;simp [hb]
 · cases h
inductive Sh where
 | int (k : IntKind) | bool | str | arr (n : Nat) (s : Sh) | st (l : List Sh) | sl (s : Sh)
mutual
def Sh.w : Sh → Nat
 | .arr n s => n * s.w
 | .st l => Sh.wL l
 | _ => 1
def Sh.wL : List Sh → Nat
 | [] => 0
 | s :: l => s.w + Sh.wL l
end
mutual
def shB (P : Program) : Sh → TypeId → Bool
 | .int k, t => match P.underlying t with | some (.int k') => decide (k = k') | _ => false
 | .bool, t => match P.underlying t with | some .bool => true | _ => false
 | .str, t => match P.underlying t with | some .string => true | _ => false
 | .arr n s, t => match P.underlying t with | some (.array n' e) => decide (n = n') && decide (P.cellsOf e = s.w) && decide (P.cellsOf t = n * s.w) && shB P s e | _ => false
 | .st l, t => match P.underlying t with | some (.struct fs) => decide (P.cellsOf t = Sh.wL l) && Amu P l fs.toList 0 | _ => false
 | .sl s, t => match P.underlying t with | some (.slice e) => decide (P.cellsOf e = s.w) && decide (0 < s.w) && shB P s e | _ => false
def Amu (P : Program) : List Sh → List Field → Nat → Bool
 | [], [], _ => true
 | s :: l, f :: fs, off => decide (f.offset = off) && decide (P.cellsOf f.type = s.w) && shB P s f.type && Amu P l fs (off + s.w)
 | _, _, _ => false
end
mutual
def GC : Sh → List PV → Prop
 | .int k, cs => ∃ n, cs = [.i k n] ∧ (Lit.int k n).wf = true
 | .bool, cs => ∃ b, cs = [.b b]
 | .str, cs => ∃ l, cs = [.s l] ∧ l.length ≤ maxLen
 | .arr n s, cs => ∃ cc : List (List PV), cs = cc.flatten ∧ cc.length = n ∧ ∀ c ∈ cc, GC s c
 | .st l, cs => GCL l cs
 | .sl s, cs => ∃ es, cs = [.sl false s.w es] ∧ es.length ≤ maxLen ∧ ∀ c ∈ es, GC s c
def GCL : List Sh → List PV → Prop
 | [], cs => cs = []
 | s :: l, cs => ∃ c cs', cs = c ++ cs' ∧ GC s c ∧ GCL l cs'
end
theorem Ac1 {w : Nat} : ∀ {cc : List (List PV)}, (∀ c ∈ cc, c.length = w) → cc.flatten.length = cc.length * w
 | [], _ => by simp
 | c :: cc, h => by
   rw [List.flatten_cons, List.length_append, Ac1 fun c hc => h c (by simp [hc]), h c (by simp), List.length_cons, Nat.add_mul]; omega
mutual
theorem GC.len : ∀ {s : Sh} {cs : List PV}, GC s cs → cs.length = s.w
 | .int k, cs, h => by obtain ⟨n, rfl, _⟩ := h; rfl
 | .bool, cs, h => by obtain ⟨n, rfl⟩ := h; rfl
 | .str, cs, h => by obtain ⟨n, rfl, _⟩ := h; rfl
 | .arr n s, cs, h => by
   simp only [GC] at h;obtain ⟨cc, rfl, rfl, h⟩ := h;rw [Ac1 fun c hc => GC.len (h c hc)]; rfl
 | .st l, cs, h => by simp only [GC] at h; simp only [Sh.w]; exact GCL.len h
 | .sl s, cs, h => by obtain ⟨n, rfl, _⟩ := h; rfl
theorem GCL.len : ∀ {l : List Sh} {cs : List PV}, GCL l cs → cs.length = Sh.wL l
 | [], cs, h => by simp only [GCL] at h; subst h; rfl
 | s :: l, cs, h => by
   simp only [GCL] at h;obtain ⟨c, cs', rfl, h1, h2⟩ := h;rw [List.length_append, GC.len h1, GCL.len h2]; rfl
end
theorem Aq5 {V : View} {s : Sh} : ∀ (n : Nat) (vs : List Value), vs.length = n * s.w → (∀ i, i < n → ∃ c, GC s c ∧ PCells V c ((vs.drop (i * s.w)).take s.w)) → ∃ cc : List (List PV), cc.length = n ∧ (∀ c ∈ cc, GC s c) ∧ PCells V cc.flatten vs
 | 0, vs, hl, h => by
   have : vs = [] := List.eq_nil_of_length_eq_zero (by omega);subst this;exact ⟨[], rfl, by simp, PCells.nil⟩
 | n + 1, vs, hl, h => by
   rw [Nat.add_mul] at hl;obtain ⟨c, g, p⟩ := h 0 (by omega);rw [Nat.zero_mul, List.drop_zero] at p;obtain ⟨cc, e1, e2, e3⟩ := Aq5 (V := V) (s := s) n (vs.drop s.w) (by rw [List.length_drop]; omega) fun i hi => by
    obtain ⟨c', g', p'⟩ := h (i + 1) (by omega);refine ⟨c', g', ?_⟩;rw [List.drop_drop, show s.w + i * s.w = (i + 1) * s.w from by rw [Nat.add_mul]; omega];exact p'
   refine ⟨c :: cc, by simp [e1], fun x hx => ?_, ?_⟩
   · rcases List.mem_cons.1 hx with rfl | hx
     · exact g
     · exact e2 x hx
   · rw [List.flatten_cons];have := PCells.append p e3
     rwa [List.take_append_drop] at this
theorem Av8 {a : Addr} (h : a.spot = none) (i j : Nat) : (a.add i).add j = ⟨a.block, a.off + (i + j), none⟩ := by
 obtain ⟨b, o, sp⟩ := a;simp only at h; subst h;unfold Addr.add;by_cases hi : i = 0
 · subst hi;by_cases hj : j = 0
   · subst hj; simp
   · simp [hj]
 · by_cases hj : j = 0
   · subst hj; simp [hi]
   · simp [hi, hj]; omega
theorem Amq {w : World} {s : Sh} {a : Addr} {len cap : Nat} (hcap : len ≤ cap) (hw : 0 < s.w)
 (h : ∀ i, i < len → ∃ c vs, GC s c ∧ PCells (Md w) c vs ∧ w.cells? 0 (a.add (i * s.w)) s.w = some vs) :
 ∃ es : List (List PV), es.length = len ∧ (∀ c ∈ es, GC s c) ∧ PConc (Md w) (.sl false s.w es) (.slice (some a) len cap) := by
 by_cases h0 : len = 0
 · subst h0;exact ⟨[], rfl, by simp, .sl false s.w [] (some a) cap (fun _ _ => undef) 0 0 #[] (by simp) (by simp) (by simp) (by simp) (by simp) (by simp)⟩
 · have h' : ∀ i, ∃ c vs, i < len → GC s c ∧ PCells (Md w) c vs ∧ w.cells? 0 (a.add (i * s.w)) s.w = some vs := fun i => by
    by_cases hi : i < len
    · obtain ⟨c, vs, h1⟩ := h i hi; exact ⟨c, vs, fun _ => h1⟩
    · exact ⟨[], [], fun h => absurd h hi⟩
   obtain ⟨c, hc⟩ := Classical.axiomOfChoice h';obtain ⟨vs, hv⟩ := Classical.axiomOfChoice hc;obtain ⟨g0, p0, k0⟩ := hv 0 (by omega);obtain ⟨_, l0, c0⟩ := World.cells?_some k0;have c00 := c0 0 hw;have hlen0 : 0 < (vs 0).length := by omega
   rw [List.getElem?_eq_getElem hlen0, Nat.zero_mul] at c00;have e0 : (a.add 0).add 0 = a := by simp [Addr.add]
   rw [e0] at c00;obtain ⟨hs, arr, harr, _⟩ := Ye c00;have hget : ∀ i j, i < len → j < s.w → arr[a.off + (i * s.w + j)]? = (vs i)[j]? := fun i j hi hj => by
    obtain ⟨_, _, k⟩ := hv i hi;obtain ⟨_, ll, cc⟩ := World.cells?_some k;have h1 := cc j hj;have hlt : j < (vs i).length := by omega
    rw [List.getElem?_eq_getElem hlt, Av8 hs] at h1;obtain ⟨_, arr', ha', h2⟩ := Ye h1;simp only at ha' h2;rw [harr] at ha'; cases ha';rw [h2, List.getElem?_eq_getElem hlt]
   have hel : ∀ i, i < len → ((List.range len).map c)[i]? = some (c i) := fun i hi => by simp [hi]
   refine ⟨(List.range len).map c, by simp, fun x hx => ?_, ?_⟩
   · obtain ⟨i, hi, rfl⟩ := List.mem_map.1 hx;exact (hv i (by simpa using hi)).1
   · have e := PConc.sl (V := Md w) false s.w ((List.range len).map c) (some a) cap (fun i j => (vs i).getD j undef) a.block a.off arr (by simpa using hcap) (by simp) (fun x hx => by
      obtain ⟨i, hi, rfl⟩ := List.mem_map.1 hx;exact (hv i (by simpa using hi)).1.len) (fun _ => by
      obtain ⟨b, o, sp⟩ := a;simp only at hs; subst hs;exact ⟨rfl, harr⟩) (fun i j hi hj => by
      have hi' : i < len := by simpa using hi
      rw [hget i j hi' hj];have : j < (vs i).length := by
       obtain ⟨_, ll, _⟩ := World.cells?_some (hv i hi').2.2; omega
      simp [List.getD_eq_getElem?_getD, this]) (fun i j x y hx hy => by
      have hi' : i < len := by
       have := (List.getElem?_eq_some_iff.1 hx).1; simpa using this
      rw [hel i hi'] at hx; cases hx;obtain ⟨v, hv1, hv2⟩ := (hv i hi').2.1.2 j y hy;simp only [List.getD_eq_getElem?_getD, hv1, Option.getD_some]; exact hv2)
     simpa using e
section
variable {H : Type} {enc : TypeId × Value → H} {P : Program} {w : World} {spare : Nat → Bool} {held : Bool}
mutual
theorem S8 : ∀ (s : Sh) {t : TypeId} {fuel : Nat} {vs : List Value} {x}, shB P s t = true → DataW.trod enc P w 0 spare held fuel t vs = some x → ∃ cs, GC s cs ∧ PCells (Md w) cs vs
 | .int k, t, fuel, vs, x, hs, h => by
   simp only [shB] at hs;split at hs
   · rename_i k' hu;obtain rfl := of_decide_eq_true hs;obtain ⟨n, rfl, _, hw⟩ := DataW.trod_int hu h;exact ⟨[.i k n], ⟨n, rfl, hw⟩, PCells.cons (.i _ _) PCells.nil⟩
   · cases hs
 | .bool, t, fuel, vs, x, hs, h => by
   simp only [shB] at hs;split at hs
   · rename_i hu;obtain ⟨n, rfl, _⟩ := DataW.trod_bool hu h;exact ⟨[.b n], ⟨n, rfl⟩, PCells.cons (.b _) PCells.nil⟩
   · cases hs
 | .str, t, fuel, vs, x, hs, h => by
   simp only [shB] at hs;split at hs
   · rename_i hu;obtain ⟨b, rfl, _, hl⟩ := DataW.trod_string hu h;refine ⟨[.s b.data.toList], ⟨b.data.toList, rfl, by simpa using hl⟩, PCells.cons ?_ PCells.nil⟩;have := PConc.s (V := Md w) b.data.toList;simpa using this
   · cases hs
 | .arr n s, t, fuel, vs, x, hs, h => by
   simp only [shB] at hs;split at hs
   · rename_i n' e hu;simp only [Bool.and_eq_true, decide_eq_true_eq] at hs;obtain ⟨⟨⟨rfl, h1⟩, h2⟩, h3⟩ := hs;obtain ⟨xs, m, rfl, _, hl, hx, hg⟩ := DataW.trod_array hu h;rw [h1] at hg;obtain ⟨cc, e1, e2, e3⟩ := Aq5 (V := Md w) (s := s) n vs (by rw [hl, h2]) fun i hi => by
      have := hg i hi;rw [List.getElem?_eq_getElem (by omega)] at this;exact S8 s h3 this
     exact ⟨cc.flatten, by simp only [GC]; exact ⟨cc, rfl, e1, e2⟩, e3⟩
   · cases hs
 | .st l, t, fuel, vs, x, hs, h => by
   simp only [shB] at hs;split at hs
   · rename_i fs hu;simp only [Bool.and_eq_true, decide_eq_true_eq] at hs;obtain ⟨h2, h3⟩ := hs;obtain ⟨xs, m, rfl, _, hl, hx, hg⟩ := DataW.trod_struct hu h;obtain ⟨cs, e1, e2⟩ := Aa6 l (off := 0) (vs := vs) h3 fun f hf => by
      obtain ⟨i, hi⟩ := List.mem_iff_getElem?.1 hf;have hi2 : fs[i]? = some f := by simpa using hi
      have := hg i f hi2;have hlt := (Array.getElem?_eq_some_iff.1 hi2).1;rw [List.getElem?_eq_getElem (by omega)] at this;exact ⟨_, _, this⟩
     rw [List.drop_zero, ← h2, ← hl, List.take_length] at e2;exact ⟨cs, by simp only [GC]; exact e1, e2⟩
   · cases hs
 | .sl s, t, fuel, vs, x, hs, h => by
   simp only [shB] at hs;split at hs
   · rename_i e hu;simp only [Bool.and_eq_true, decide_eq_true_eq] at hs;obtain ⟨⟨h1, h2⟩, h3⟩ := hs;rcases DataW.trod_slice hu h with ⟨rfl, _⟩ | ⟨a, len, cap, C6, rest, n, rfl, rfl, _, _, hl, hm, hle, hg, _⟩
     · exact ⟨[.sl false s.w []], by simp only [GC]; exact ⟨[], rfl, by simp, by simp⟩, PCells.cons (.sl false s.w [] none 0 (fun _ _ => undef) 0 0 #[] (by simp) (by simp) (by simp) (by simp) (by simp) (by simp)) PCells.nil⟩
     · rw [h1] at hg;obtain ⟨es, e1, e2, e3⟩ := Amq (w := w) (s := s) (a := a) hl h2 fun i hi => by
        have h4 := hg i hi;rw [List.getElem?_eq_getElem (by omega)] at h4;obtain ⟨vs, h5, h6⟩ := Option.bind_eq_some_iff.1 h4;obtain ⟨c, g, p⟩ := S8 s h3 h6;exact ⟨c, vs, g, p, h5⟩
       exact ⟨[.sl false s.w es], by simp only [GC]; exact ⟨es, rfl, by omega, e2⟩, PCells.cons e3 PCells.nil⟩
   · cases hs
theorem Aa6 : ∀ (l : List Sh) {fs : List Field} {off : Nat} {vs : List Value}, Amu P l fs off = true →
 (∀ f ∈ fs, ∃ n x, DataW.trod enc P w 0 spare held n f.type ((vs.drop f.offset).take (P.cellsOf f.type)) = some x) → ∃ cs, GCL l cs ∧ PCells (Md w) cs ((vs.drop off).take (Sh.wL l))
 | [], fs, off, vs, hs, h => ⟨[], by simp only [GCL], by simp only [Sh.wL, List.take_zero]; exact PCells.nil⟩
 | s :: l, [], off, vs, hs, h => by simp [Amu] at hs
 | s :: l, f :: fs, off, vs, hs, h => by
   simp only [Amu, Bool.and_eq_true, decide_eq_true_eq] at hs;obtain ⟨⟨⟨h1, h2⟩, h3⟩, h4⟩ := hs;obtain ⟨n, x, hx⟩ := h f (by simp);obtain ⟨c, g, p⟩ := S8 s h3 hx;obtain ⟨cs, gl, pl⟩ := Aa6 l (vs := vs) h4 fun f hf => h f (by simp [hf]);refine ⟨c ++ cs, by simp only [GCL]; exact ⟨c, cs, rfl, g, gl⟩, ?_⟩;rw [h1, h2] at p;have := PCells.append p pl;have e : (vs.drop off).take (Sh.wL (s :: l)) = (vs.drop off).take s.w ++ (vs.drop (off + s.w)).take (Sh.wL l) := by
    simp only [Sh.wL];rw [List.take_add, List.drop_drop]
   rw [e]; exact this
end
end
mutual
def Jj : Sh → List PV → SV
 | .arr n s, cs => .vec (n * s.w) cs
 | .st l, cs => .agg (Ot l cs)
 | _, cs => .pv (cs.headD (.b false))
def Ot : List Sh → List PV → List SV
 | [], _ => []
 | s :: l, cs => (Jj s (cs.take s.w)).segs ++ Ot l (cs.drop s.w)
end
def Sh.isAg : Sh → Bool
 | .arr _ _ => true
 | .st _ => true
 | _ => false
theorem Qr {V : View} {ρ : Nat → Value} : ∀ {l m : List SV} {a b : List Value}, Cells V ρ l a → Cells V ρ m b → Cells V ρ (l ++ m) (a ++ b)
 | [], m, a, b, h1, h2 => by simp only [Cells] at h1; subst h1; exact h2
 | x :: l, m, a, b, h1, h2 => by
   simp only [Cells, List.cons_append] at h1 ⊢;obtain ⟨u, us, rfl, c, d, e, f⟩ := h1;exact ⟨u, us ++ b, by simp, c, d, e, Qr f h2⟩
mutual
theorem Yb {V : View} {ρ : Nat → Value} : ∀ (s : Sh) {cs : List PV} {v : Value}, GC s cs → PCells V cs (Av v) → (s.isAg = true → ∃ vs, v = .agg ⟨vs⟩) → (s.isAg = false → ∀ vs, v ≠ .agg vs) → Conc V ρ (Jj s cs) v
 | .int k, cs, v, g, p, _, h => by
   obtain ⟨n, rfl, _⟩ := g;have e : Av v = [v] := by cases v <;> first | rfl | exact absurd rfl (h rfl _)
   rw [e] at p;obtain ⟨v', h1, h2⟩ := p.2 0 _ rfl;simp at h1; subst h1;simp only [Jj, Conc, List.headD_cons]; exact h2
 | .bool, cs, v, g, p, _, h => by
   obtain ⟨n, rfl⟩ := g;have e : Av v = [v] := by cases v <;> first | rfl | exact absurd rfl (h rfl _)
   rw [e] at p;obtain ⟨v', h1, h2⟩ := p.2 0 _ rfl;simp at h1; subst h1;simp only [Jj, Conc, List.headD_cons]; exact h2
 | .str, cs, v, g, p, _, h => by
   obtain ⟨n, rfl, _⟩ := g;have e : Av v = [v] := by cases v <;> first | rfl | exact absurd rfl (h rfl _)
   rw [e] at p;obtain ⟨v', h1, h2⟩ := p.2 0 _ rfl;simp at h1; subst h1;simp only [Jj, Conc, List.headD_cons]; exact h2
 | .sl s, cs, v, g, p, _, h => by
   simp only [GC] at g;obtain ⟨n, rfl, _⟩ := g;have e : Av v = [v] := by cases v <;> first | rfl | exact absurd rfl (h rfl _)
   rw [e] at p;obtain ⟨v', h1, h2⟩ := p.2 0 _ rfl;simp at h1; subst h1;simp only [Jj, Conc, List.headD_cons]; exact h2
 | .arr n s, cs, v, g, p, h, _ => by
   obtain ⟨vs, rfl⟩ := h rfl;have hl := g.len;simp only [Jj, Conc];refine ⟨vs, rfl, ?_, p⟩;have e1 : vs.length = cs.length := p.1.symm;rw [e1, hl]; rfl
 | .st l, cs, v, g, p, h, _ => by
   obtain ⟨vs, rfl⟩ := h rfl;simp only [GC] at g;simp only [Jj, Conc];exact ⟨vs, rfl, M2 l g p⟩
theorem M2 {V : View} {ρ : Nat → Value} : ∀ (l : List Sh) {cs : List PV} {vs : List Value}, GCL l cs → PCells V cs vs → Cells V ρ (Ot l cs) vs
 | [], cs, vs, g, p => by
   simp only [GCL] at g; subst g;have : vs = [] := List.eq_nil_of_length_eq_zero (by rw [← p.1]; rfl);subst this;simp only [Ot, Cells]
 | s :: l, cs, vs, g, p => by
   simp only [GCL] at g;obtain ⟨c, cs', rfl, g1, g2⟩ := g;have hl := g1.len;have p1 : PCells V c (vs.take c.length) := by
    have := p.split c.length |>.1;simpa using this
   have p2 : PCells V cs' (vs.drop c.length) := by
    have := p.split c.length |>.2;simpa using this
   have hvs : vs = vs.take c.length ++ vs.drop c.length := (List.take_append_drop _ _).symm;have hlen : (vs.take c.length).length = s.w := by rw [← p1.1, hl]
   simp only [Ot];rw [List.take_left' hl, List.drop_left' hl];rw [hvs];refine Qr ?_ (M2 l g2 p2);cases s with
   | st m =>
     simp only [GC] at g1;simp only [Jj, SV.segs];exact M2 m g1 p1
   | arr n s' =>
     have := Yb (V := V) (ρ := ρ) (.arr n s') (v := .agg ⟨vs.take c.length⟩) g1 (by simpa [Av] using p1) (fun _ => ⟨_, rfl⟩) (by simp [Sh.isAg]);simp only [Jj] at this ⊢;simp only [SV.segs, Cells];exact ⟨_, [], by simp [Av], this, by simpa [Av, SV.width, Sh.w] using hlen, fun v hv => p1.one v (by simpa [Av] using hv), rfl⟩
   | int k =>
     obtain ⟨n, rfl, _⟩ := g1;obtain ⟨v, h1, h2⟩ := p1.2 0 _ rfl;have e : vs.take [PV.i k n].length = [v] := by
      match hx : vs.take [PV.i k n].length, h1, hlen with
      | [u], h1, _ => simp at h1; rw [h1]
     have ho := h2.one;have fv : Av v = [v] := by cases v <;> first | rfl | exact absurd ho (by simp [A5])
     rw [e];simp only [Jj, SV.segs, Cells, Conc, List.headD_cons];exact ⟨v, [], by rw [fv]; rfl, h2, by rw [fv]; rfl, by rw [fv]; simpa using ho, rfl⟩
   | bool =>
     obtain ⟨n, rfl⟩ := g1;obtain ⟨v, h1, h2⟩ := p1.2 0 _ rfl;have e : vs.take [PV.b n].length = [v] := by
      match hx : vs.take [PV.b n].length, h1, hlen with
      | [u], h1, _ => simp at h1; rw [h1]
     have ho := h2.one;have fv : Av v = [v] := by cases v <;> first | rfl | exact absurd ho (by simp [A5])
     rw [e];simp only [Jj, SV.segs, Cells, Conc, List.headD_cons];exact ⟨v, [], by rw [fv]; rfl, h2, by rw [fv]; rfl, by rw [fv]; simpa using ho, rfl⟩
   | str =>
     obtain ⟨n, rfl, _⟩ := g1;obtain ⟨v, h1, h2⟩ := p1.2 0 _ rfl;have e : vs.take [PV.s n].length = [v] := by
      match hx : vs.take [PV.s n].length, h1, hlen with
      | [u], h1, _ => simp at h1; rw [h1]
     have ho := h2.one;have fv : Av v = [v] := by cases v <;> first | rfl | exact absurd ho (by simp [A5])
     rw [e];simp only [Jj, SV.segs, Cells, Conc, List.headD_cons];exact ⟨v, [], by rw [fv]; rfl, h2, by rw [fv]; rfl, by rw [fv]; simpa using ho, rfl⟩
   | sl s' =>
     simp only [GC] at g1;obtain ⟨n, rfl, _⟩ := g1;obtain ⟨v, h1, h2⟩ := p1.2 0 _ rfl;have e : vs.take [PV.sl false s'.w n].length = [v] := by
      match hx : vs.take [PV.sl false s'.w n].length, h1, hlen with
      | [u], h1, _ => simp at h1; rw [h1]
     have ho := h2.one;have fv : Av v = [v] := by cases v <;> first | rfl | exact absurd ho (by simp [A5])
     rw [e];simp only [Jj, SV.segs, Cells, Conc, List.headD_cons];exact ⟨v, [], by rw [fv]; rfl, h2, by rw [fv]; rfl, by rw [fv]; simpa using ho, rfl⟩
end
mutual
theorem Aa7 : ∀ (s : Sh) (cs : List PV), (Jj s cs).closed = true
 | .int k, cs => rfl
 | .bool, cs => rfl
 | .str, cs => rfl
 | .sl s, cs => rfl
 | .arr n s, cs => rfl
 | .st l, cs => by simp only [Jj, SV.closed]; exact J8 l cs
theorem J8 : ∀ (l : List Sh) (cs : List PV), SV.closedL (Ot l cs) = true
 | [], cs => rfl
 | s :: l, cs => by
   simp only [Ot];have h2 := J8 l (cs.drop s.w);have app : ∀ (a b : List SV), SV.closedL a = true → SV.closedL b = true → SV.closedL (a ++ b) = true := fun a b ha hb => by
    induction a with
    | nil => exact hb
    | cons x a ih => simp only [SV.closedL, Bool.and_eq_true, List.cons_append] at ha ⊢; exact ⟨ha.1, ih ha.2⟩
   refine app _ _ ?_ h2;cases s with
   | st m => simp only [Jj, SV.segs]; exact J8 m _
   | int k => rfl
   | bool => rfl
   | str => rfl
   | sl s => rfl
   | arr n s => rfl
end
theorem Ai1 {P : Program} {w : World} {base : Nat} {t : TypeId} {v : Value} : ∀ {s : Sh}, shB P s t = true → Value.okWide P w .any base t v → (s.isAg = true → ∃ vs, v = .agg ⟨vs⟩) ∧ (s.isAg = false → ∀ vs, v ≠ .agg vs)
 | .int k, hs, h => by
   simp only [shB] at hs;split at hs
   · rename_i k' hu;obtain ⟨n, rfl⟩ := WideShapes.okWide_int hu h;exact ⟨fun h => (by cases h), fun _ vs e => by cases e⟩
   · cases hs
 | .bool, hs, h => by
   simp only [shB] at hs;split at hs
   · rename_i hu;obtain ⟨n, rfl⟩ := WideShapes.okWide_bool hu h;exact ⟨fun h => (by cases h), fun _ vs e => by cases e⟩
   · cases hs
 | .str, hs, h => by
   simp only [shB] at hs;split at hs
   · rename_i hu;obtain ⟨n, rfl⟩ := WideShapes.okWide_string hu h;exact ⟨fun h => (by cases h), fun _ vs e => by cases e⟩
   · cases hs
 | .sl s, hs, h => by
   simp only [shB] at hs;split at hs
   · rename_i e hu;obtain ⟨a, b, c, rfl⟩ := WideShapes.okWide_slice hu h;exact ⟨fun h => (by cases h), fun _ vs e => by cases e⟩
   · cases hs
 | .arr n s, hs, h => by
   simp only [shB] at hs;split at hs
   · rename_i n' e hu;simp only [Value.okWide, hu] at h;obtain ⟨⟨xs⟩, rfl, _⟩ := h;exact ⟨fun _ => ⟨_, rfl⟩, fun h => (by cases h)⟩
   · cases hs
 | .st l, hs, h => by
   simp only [shB] at hs;split at hs
   · rename_i fs hu;simp only [Value.okWide, hu] at h;obtain ⟨⟨xs⟩, rfl, _⟩ := h;exact ⟨fun _ => ⟨_, rfl⟩, fun h => (by cases h)⟩
   · cases hs
theorem Adk {H : Type} {enc : TypeId × Value → H} {P : Program} {w : World} {spare : Nat → Bool} {held : Bool} {base : Nat} {t : TypeId} {v : Value} {d : DataW H} {ps : List MemPlace} {s : Sh} (hs : shB P s t = true)
 (hv : Value.okWide P w .any base t v) (h : DataW.Trod enc P w 0 spare held t v d ps) : ∃ cs, GC s cs ∧ Conc (Md w) (fun _ => undef) (Jj s cs) v := by
 obtain ⟨fuel, hf⟩ := h;obtain ⟨cs, g, p⟩ := S8 s hs hf;rw [Fq] at p;obtain ⟨h1, h2⟩ := Ai1 hs hv;exact ⟨cs, g, Yb s g p h1 h2⟩
end Go.Proofs.YthhomcfimdkfhaaGreat.Fw
namespace Go.Proofs.YthhomcfimdkfhaaGreat.Fw
open Go.RowKit
theorem Ac2 {m : Nat} : ∀ {cc : List (List PV)} {i j : Nat}, (∀ c ∈ cc, c.length = m) → j < m → cc.flatten[i * m + j]? = (cc[i]?).bind (·[j]?)
 | [], i, j, _, _ => by simp
 | c :: cc, 0, j, h, hj => by
   have hc := h c (by simp);rw [List.flatten_cons, Nat.zero_mul, Nat.zero_add, List.getElem?_append_left (by omega)]; rfl
 | c :: cc, i + 1, j, h, hj => by
   have hc := h c (by simp);rw [List.flatten_cons, List.getElem?_append_right (by rw [Nat.add_mul]; omega)];rw [show (i + 1) * m + j - c.length = i * m + j from by rw [Nat.add_mul]; omega];rw [Ac2 (fun c hc => h c (by simp [hc])) hj]; rfl
theorem A02 {n : Nat} {s : Sh} {cs : List PV} (h : GC (.arr n s) cs) : cs.length = n * s.w ∧ ∀ i, i < n → ∃ c, GC s c ∧ ∀ j, j < s.w → cs[i * s.w + j]? = c[j]? := by
 refine ⟨h.len, fun i hi => ?_⟩;simp only [GC] at h;obtain ⟨cc, rfl, rfl, g⟩ := h;refine ⟨cc[i], g _ (List.getElem_mem _), fun j hj => ?_⟩;rw [Ac2 (fun c hc => (g c hc).len) hj, List.getElem?_eq_getElem hi]; rfl
theorem Al6 {n : Int} (h : (Lit.int .u32 n).wf = true) : 0 ≤ n ∧ n < 4294967296 := by
 simp [Lit.wf, IntKind.min, IntKind.max, IntKind.signed, IntKind.bits] at h; omega
theorem Azq {n : Int} (h : (Lit.int .i64 n).wf = true) : -9223372036854775808 ≤ n ∧ n < 9223372036854775808 := by
 simp [Lit.wf, IntKind.min, IntKind.max, IntKind.signed, IntKind.bits] at h; omega
theorem Avx {n : Nat} {cs : List PV} {f : Nat → PV} (hl : cs.length = n) (h : ∀ i, i < n → cs[i]? = some (f i)) : cs = Cy n f := by
 apply List.ext_getElem?;intro i;by_cases hi : i < n
 · rw [h i hi, H8 hi]
 · rw [List.getElem?_eq_none (by omega), List.getElem?_eq_none (by rw [Ee]; omega)]
theorem A5z {cs : List PV} (h : GC (.arr 8 (.int .u32)) cs) : ∃ a : Vc, cs = vE a ∧ ∀ i, i < 8 → a i < 4294967296 := by
 obtain ⟨hl, g⟩ := A02 h;have key : ∀ i, ∃ n : Nat, i < 8 → cs[i]? = some (.i .u32 n) ∧ n < 4294967296 := fun i => by
  by_cases hi : i < 8
  · obtain ⟨c, ⟨n, rfl, hw⟩, k⟩ := g i hi;have := k 0 (by simp [Sh.w]);simp only [Sh.w, Nat.mul_one, Nat.add_zero] at this;have hr := Al6 hw;refine ⟨n.toNat, fun _ => ⟨?_, by omega⟩⟩;rw [this, show ((n.toNat : Nat) : Int) = n from by omega]; rfl
  · exact ⟨0, fun h => absurd h hi⟩
 obtain ⟨a, ha⟩ := Classical.axiomOfChoice key;exact ⟨a, Avx hl fun i hi => (ha i hi).1, fun i hi => (ha i hi).2⟩
theorem Yq (n : Int) : IntKind.u64.wrap n = n % 18446744073709551616 := by simp [IntKind.wrap, IntKind.signed, IntKind.bits]
theorem Arw {s : Sh} {cs : List PV} (h : GC (.sl s) cs) : ∃ es, cs = [.sl false s.w es] ∧ es.length ≤ maxLen ∧ ∀ c ∈ es, GC s c := by
 simp only [GC] at h; exact h
end Go.Proofs.YthhomcfimdkfhaaGreat.Fw
namespace Go.Proofs.YthhomcfimdkfhaaGreat.Fw
open Go.RowKit Go.Proofs
def Bp (r : Int) (q : Nat) (r' : Int) (q' : Nat) : Bool := decide (q < q' ∨ q = q' ∧ r < r')
theorem Mo (r : Int) (q : Nat) (r' : Int) (q' : Nat) {h d} : FunOk Tryz.prog 83 [.vec 2 [.i .i64 r, .i .u32 q], .vec 2 [.i .i64 r', .i .u32 q']] h d (.pv (.b (Bp r q r' q'))) [] := by
 refine Au Ae fn83 (by simp) rfl rfl fun F => ?_;by_cases h : q = q'
 · subst h;have e : Bp r q r' q = decide (r < r') := by simp [Bp]
   simp (disch := omega) only [ir83, e, go_sem]
 · have hz : ¬ (q : Int) = (q' : Int) := by omega
   have e : Bp r q r' q' = decide ((q : Int) < (q' : Int)) := by simp [Bp, h]
   simp (disch := omega) only [ir83, e, go_sem]
theorem Ir (r : Int) (q : Nat) (r' : Int) (q' : Nat) {h d} : FunOk Tryz.prog 31 [.vec 2 [.i .i64 r, .i .u32 q], .vec 2 [.i .i64 r', .i .u32 q']] h d (.pv (.b (Bp r q r' q'))) [] := by
 refine Au Ae fn31 (by simp) rfl rfl fun F => ?_;by_cases h : q = q'
 · subst h;have e : Bp r q r' q = decide (r < r') := by simp [Bp]
   have hl : ¬ (q : Int) < (q : Int) := by omega
   simp (disch := omega) only [ir31, e, hl, go_sem]
 · have hz : ¬ (q : Int) = (q' : Int) := by omega
   have e : Bp r q r' q' = decide ((q : Int) < (q' : Int)) := by simp [Bp, h]
   by_cases hl : (q : Int) < (q' : Int)
   · simp (disch := omega) only [ir31, e, hl, go_sem]
   · simp (disch := omega) only [ir31, e, hl, go_sem]
theorem Jw {r r' : Int} {q q' : Nat} (h : r = r' ∧ q = q') : Xg [.i .i64 r, .i .u32 q] [.i .i64 r', .i .u32 q'] = true := by
 obtain ⟨rfl, rfl⟩ := h; simp [Xg]
theorem Ht {r r' : Int} {q q' : Nat} (h : ¬ (r = r' ∧ q = q')) : Xg [.i .i64 r, .i .u32 q] [.i .i64 r', .i .u32 q'] = false := by
 simp only [Xg, decide_eq_false_iff_not];intro e;simp only [List.cons.injEq, PV.i.injEq, true_and, and_true] at e;exact h ⟨e.1, by omega⟩
abbrev Bi := Int × Nat
def Ek (b : Bi) : List PV := [.i .i64 b.1, .i .u32 b.2]
def Ec (a : Vc) (r : Int) : Nat := if 1 ≤ r ∧ r ≤ 8 then a (r - 1).toNat else 0
def Bj (a : Vc) (r : Int) (q : Nat) : Bool := decide (1 ≤ q ∧ q ≤ Ec a r)
theorem A2s (a : Vc) (r : Int) {h d} : FunOk Tryz.prog 74 [.vec 8 (vE a), .pv (.i .i64 r)] h d (.pv (.i .u32 (Ec a r))) [] := by
 refine Au Ae fn74 (by simp) rfl rfl fun F => ?_;by_cases h1 : r < 1
 · have e : Ec a r = 0 := by simp [Ec]; omega
   simp (disch := omega) only [ir74, h1, e, go_sem]
 by_cases h2 : 8 < r
 · have e : Ec a r = 0 := by simp [Ec]; omega
   simp (disch := omega) only [ir74, h1, h2, e, go_sem]
 have e : Ec a r = a (r - 1).toNat := by simp [Ec]; omega
 obtain ⟨k, rfl⟩ : ∃ k : Nat, r = k + 1 := ⟨(r - 1).toNat, by omega⟩
 have ek : ((k : Int) + 1 - 1) = k := by omega
 simp (disch := omega) only [ir74, h1, h2, e, ek, go_sem]
def Y8 (a : Vc) (r : Int) (k : Nat) : FS := mk [(5, .pv (.i .i64 k)), (1, .pv (.i .i64 r)), (2, .p 2 0)] [(2, some (.var (.vec 8 (vE a))))]
theorem U8 (a : Vc) (r : Int) {h d} : FunOk Tryz.prog 32 [.vec 8 (vE a), .pv (.i .i64 r)] h d (.pv (.i .u32 (Ec a r))) [] := by
 refine Au Ae fn32 (by simp) rfl rfl fun F => ?_;simp (disch := omega) only [ir32, go_sem];refine A1 Ae (Y8 a r) (fun k => k ≤ 8 ∧ ∀ i : Nat, i < k → (i : Int) + 1 ≠ r) (fun k => 8 - k) 0 (by simp) (Am ?_ ?_) fun k hk => ?_
 · simp (disch := omega) only [go_sem]
 · simp (disch := omega) only [go_sem]
 obtain ⟨hk1, hk2⟩ := hk;by_cases hlt : k < 8
 · by_cases he : (k : Int) + 1 = r
   · subst he;have e : Ec a ((k : Int) + 1) = a k := by
      have e1 : ((k : Int) + 1 - 1).toNat = k := by omega
      simp [Ec, e1]; omega
     simp (disch := omega) only [Y8, e, go_sem]
   · simp (disch := omega) only [Y8, he, go_sem];refine Ad (k + 1) _ _ rfl ⟨by omega, fun i hi => ?_⟩ (by omega) ?_ ?_
     · by_cases e : i = k
       · subst e; exact he
       · exact hk2 i (by omega)
     · simp (disch := omega) only [go_sem]
     · simp (disch := omega) only [go_sem]
 · obtain rfl : k = 8 := by omega
   have e : Ec a r = 0 := by
    unfold Ec;rw [if_neg];intro h;exact hk2 (r - 1).toNat (by omega) (by omega)
   simp (disch := omega) only [Y8, e, go_sem]
theorem Jc (a : Vc) (r : Int) (q : Nat) {h d} : FunOk Tryz.prog 34 [.vec 8 (vE a), .vec 2 [.i .i64 r, .i .u32 q]] h d (.pv (.b (Bj a r q))) [] := by
 refine Au Ae fn34 (by simp) rfl rfl fun F => ?_;by_cases h1 : (1 : Int) ≤ q
 · simp (disch := omega) only [ir34, h1, go_sem];refine Aa (A2s a r) ?_;have e : Bj a r q = decide ((q : Int) ≤ (Ec a r : Int)) := decide_eq_decide.2 (by omega);simp (disch := omega) only [e, go_sem]
 · have e : Bj a r q = false := decide_eq_false (by omega);simp (disch := omega) only [ir34, h1, e, go_sem]
theorem Oz (a : Vc) (r : Int) (q : Nat) {h d} : FunOk Tryz.prog 21 [.vec 8 (vE a), .vec 2 [.i .i64 r, .i .u32 q]] h d (.pv (.b (Bj a r q))) [] := by
 refine Au Ae fn21 (by simp) rfl rfl fun F => ?_;by_cases h1 : (0 : Int) < q
 · simp (disch := omega) only [ir21, h1, go_sem];refine Aa (U8 a r) ?_;have e : Bj a r q = decide ((q : Int) ≤ (Ec a r : Int)) := decide_eq_decide.2 (by omega);simp (disch := omega) only [e, go_sem]
 · have e : Bj a r q = false := decide_eq_false (by omega);simp (disch := omega) only [ir21, h1, e, go_sem]
theorem Fz {l : List SV} {cs : List PV} {n : Nat} (hc : SV.cellsL? l = some cs) (hn : cs.length = n) : Imp (.agg l) (.vec n cs) := by
 intro V ρ v h;have hp := Conc.cells h (x := .agg l) (cs := cs) hc;simp only [Conc] at h ⊢;obtain ⟨vs, rfl, _⟩ := h;exact ⟨vs, rfl, by rw [← hn]; exact hp.1.symm, hp⟩
def ImpL : List SV → List SV → Prop
 | [], [] => True
 | x :: l, y :: m => Imp x y ∧ ImpL l m
 | _, _ => False
theorem ImpL.conc {V : View} {ρ : Nat → Value} : ∀ {l m : List SV} {vs : List Value}, ImpL l m → ConcL V ρ l vs → ConcL V ρ m vs
 | [], [], vs, _, h => h
 | x :: l, y :: m, vs, h, k => by
   simp only [ConcL] at k ⊢;obtain ⟨v, us, rfl, k1, k2⟩ := k;exact ⟨v, us, rfl, h.1 _ _ _ k1, ImpL.conc h.2 k2⟩
 | [], _ :: _, _, h, _ => h.elim
 | _ :: _, [], _, h, _ => h.elim
theorem FunOk.imp {P : Program} {f : Nat} {args args' : List SV} {h d x u} (hf : FunOk P f args' h d x u) (hi : ImpL args args') (ht : ∀ n ∈ A8 args', n ∈ A8 args) : FunOk P f args h d x u :=
 ⟨hf.1, fun F N ρ s a w hR hh vs hc => hf.2 F N ρ s a w hR (fun n hn => hh n (ht n hn)) vs (hi.conc hc)⟩
abbrev Abm : Sh := .st [.int .i64, .int .u32]
theorem Adu {cs : List PV} (h : GC Abm cs) : ∃ b : Bi, cs = Ek b ∧ (-9223372036854775808 ≤ b.1 ∧ b.1 < 9223372036854775808) ∧ b.2 < 4294967296 := by
 simp only [GC, GCL] at h;obtain ⟨c, cs', rfl, ⟨n, rfl, hw⟩, c', cs'', rfl, ⟨m, rfl, hw'⟩, rfl⟩ := h;have hr := Al6 hw';exact ⟨(n, m.toNat), by simp [Ek]; omega, Azq hw, by show m.toNat < _; omega⟩
theorem Aan {α : Type} {f : α → List PV} {p : α → Prop} {s : Sh} (key : ∀ {cs}, GC s cs → ∃ x, cs = f x ∧ p x) : ∀ {es : List (List PV)}, (∀ c ∈ es, GC s c) → ∃ l : List α, es = l.map f ∧ ∀ x ∈ l, p x
 | [], _ => ⟨[], rfl, by simp⟩
 | c :: es, h => by
   obtain ⟨l, e, hp⟩ := Aan (es := es) key fun c hc => h c (List.mem_cons_of_mem _ hc);obtain ⟨x, e2, hx⟩ := key (h c List.mem_cons_self);exact ⟨x :: l, by rw [e, e2]; rfl, fun y hy => by
    rcases List.mem_cons.1 hy with hy | hy
    · rw [hy]; exact hx
    · exact hp y hy⟩
structure Ent where
 id : Bi
 dir : Bi
 name : List UInt8
 obj : Bi
 gone : Vc
def Ap8 (x : Ent) : List PV := [.i .i64 x.id.1, .i .u32 x.id.2, .i .i64 x.dir.1, .i .u32 x.dir.2, .s x.name, .i .i64 x.obj.1, .i .u32 x.obj.2]
def Bh (x : Ent) : List PV := Ap8 x ++ vE x.gone
theorem Agh (a : Vc) : (vE a).all PV.flat = true := by simp [vE, Cy, PV.flat]
theorem Dk (x : Ent) : (Bh x).length = 15 := by simp [Bh, Ap8, Bl]
theorem Afk (x : Ent) : (Bh x).all PV.flat = true := by
 unfold Bh Ap8; rw [List.all_append, Agh]; rfl
theorem I1 (l : List Ent) : ∀ c ∈ l.map Bh, c.all PV.flat = true := by
 intro c hc;obtain ⟨v, _, rfl⟩ := List.mem_map.1 hc;exact Afk v
theorem E0 (x : Ent) (K : KK) : LoadK (some (Bh x)) 0 15 true K = K (.vec 15 (Bh x)) [] := by
 have e : ((Bh x).drop 0).take 15 = Bh x := List.take_of_length_le (by rw [List.drop_zero, Dk]; omega);simp only [LoadK, Ik, eq_iff_iff, e, Dk];exact ⟨fun h => h.2.2, fun h => ⟨by omega, .inl trivial, h⟩⟩
theorem C5 (x : Ent) (K : KK) : LoadK (some (Bh x)) 0 2 true K = K (.vec 2 [.i .i64 x.id.1, .i .u32 x.id.2]) [] := by
 simp only [LoadK, Ik, eq_iff_iff, Dk];exact ⟨fun h => h.2.2, fun h => ⟨by omega, .inl trivial, h⟩⟩
theorem Cv (x : Ent) (K : KK) : LoadK (some (Bh x)) 5 2 true K = K (.vec 2 [.i .i64 x.obj.1, .i .u32 x.obj.2]) [] := by
 simp only [LoadK, Ik, eq_iff_iff, Dk];exact ⟨fun h => h.2.2, fun h => ⟨by omega, .inl trivial, h⟩⟩
theorem H3 (x : Ent) (K : KK) : LoadK (some (Bh x)) 7 8 true K = K (.vec 8 (vE x.gone)) [] := by
 have e : ((Bh x).drop 7).take 8 = vE x.gone := by
  unfold Bh;rw [List.drop_left' (by rfl)];exact List.take_of_length_le (by rw [Bl]; omega)
 simp only [LoadK, Ik, eq_iff_iff, Dk, e];exact ⟨fun h => h.2.2, fun h => ⟨by omega, .inl trivial, h⟩⟩
theorem Gw (x : Ent) (v : Vc) : splice (Bh x) 7 (vE v) = Bh { x with gone := v } := by
 unfold splice Bh;rw [List.take_left' (by rfl), Bl];have : (Ap8 x ++ vE x.gone).drop (7 + 8) = [] := List.drop_of_length_le (by simp [Ap8, Bl]);rw [this, List.append_nil]; rfl
theorem Ja {P : Program} {F : Fr} {N : Nat} {ρ : Nat → Value} {s : FS} {a : Act} {w : World} {tS tR e : TypeId} {sz m n lo hi : Nat} {es fs : List (List PV)} (ht : P.underlying tS = some (.slice e)) (hz : Ah P e = some sz) (h1 : sz ≠ 1)
 (hR : RelR F N ρ s a w) (hm : s.h m = some (.row sz fs)) (hn : s.h n = some (.row sz es)) (hne : m ≠ n) (hfs : fs ≠ []) (hes : es ≠ []) (hlt : lo < hi) {v u : Value}
 (hv : Conc (vw F w ρ s) ρ (.os m) v) (hu : Conc (vw F w ρ s) ρ (.ov n sz lo hi) u) :
 (Extern.SlicesOverlaps.overlaps #[tS, tS] #[tR] #[v, u]).run P w = .ok (.bool false) w := by
 obtain ⟨bm, lm, cm, vm, tym, frm, a1, a2, a3, a4, a5, a6, a7, a8, a9, rfl, a11⟩ := Hh (hR.own m _ hm) (List.length_pos_iff.2 hfs);obtain ⟨bn, ln, cn, vn, tyn, frn, b1, b2, b3, b4, b5, b6, b7, b8, b9, rfl, b11⟩ := Hh (hR.own n _ hn) (List.length_pos_iff.2 hes);simp only [Conc] at hv hu;obtain ⟨base, len, cap, base', c1, c2, c3, rfl, c4⟩ := hu;rw [hv.1, a1];rw [b1] at c1; cases c1;have := c4 (.inl hlt);simp only [Option.map_some, C1, Nat.zero_add] at this;subst this;have hbb : bm ≠ bn := fun e => hne (hR.inj m n _ _ bm hm hn (by rw [a1]; simp [Ch, a7]) (by rw [b1]; simp [Ch, b7, e]));have hfr : frm.1 = frm.2 := by rcases a3 with h | h; exact h; exact absurd h.1 h1
 have fz : ∀ o, w.frozen? ⟨bm, o, none⟩ = false := fun o => by
  unfold World.frozen?;simp only [a2];obtain ⟨x, y⟩ := frm;simp only at hfr;simp; omega
 exact Lib.run_overlaps_apart w tS tR e ht sz (fun w => Bz hz w) ⟨bm, 0, none⟩ ⟨bn, lo * sz, none⟩ _ _ _ _ hbb tym tyn vm.length vn.length (by unfold World.shape?; rw [a2]; rfl) (by unfold World.shape?; rw [b2]; rfl)
  (by rw [b5]; exact Nat.mul_ne_zero b7 (by omega)) (fz _) (fz _)
theorem Aym {m n lo hi : Nat} {es fs : List (List PV)} {h} (hm : h m = some (.row 15 fs)) (hn : h n = some (.row 15 es)) (hne : m ≠ n) (hfs : fs ≠ []) (hes : es ≠ []) (hlt : lo < hi) : Yo Tryz.prog 129 [.os m, .ov n 15 lo hi] h (.pv (.b false)) := by
 intro F N ρ s a w hR hh vs hc;simp only [ConcL] at hc;obtain ⟨v, us, rfl, hv, u, us', rfl, hu, rfl⟩ := hc;have hsm := (hh m (by simp [A8, tn])).trans hm;have hsn := (hh n (by simp [A8, tn])).trans hn;refine ⟨.bool false, ?_, E4⟩;rw [run_callFunc_extern (fn := (Tryz.prog.funcs[129]?).getD default) (by kernel_rfl) (by kernel_rfl) (by kernel_rfl) (by kernel_rfl) (e := Extern.SlicesOverlaps.overlaps #[29, 29] #[4]) (by kernel_rfl)];rw [Ja (tS := 29) (e := 57) (by kernel_rfl) (by kernel_rfl) (by decide) hR hsm hsn hne hfs hes hlt hv hu];rfl
set_option maxHeartbeats 4000000 in
theorem U7 (es : List (List PV)) (cs : List PV) (i : Nat) (hi : i ≤ es.length) (hb : es.length ≤ 1000) (hes : ∀ c ∈ es, c.length = 15) (hcs : cs.length = 15) {h d} (h1 : h 900 = some (.row 15 es)) (h2 : h 901 = some (.row 15 [cs])) : FunOk Tryz.prog 105 [.os 900, .pv (.i .i64 i), .os 901] h d (.os d) [.del 900, .del 901, .new d (.row 15 (es.take i ++ cs :: es.drop i))] := by
 refine Aad Ae fn105 (by simp) rfl fun F => ?_;simp only [Cp];by_cases he : i = es.length
 · subst he;have e1 : es.take es.length ++ cs :: es.drop es.length = es ++ [cs] := by simp
   rw [e1];simp (disch := omega) only [ir105, h1, h2, go_sem]
 · have hne : es ≠ [] := by intro e; subst e; simp at hi; exact he (by simpa using hi)
   simp (disch := omega) only [ir105, h1, h2, go_sem];intro c hc;by_cases hcap : c < es.length + 1
   · have hp : ((c : Int) < (es.length : Int) + ((1 : Nat) : Int)) = True := eq_true (by omega);have ek : ((es.length : Int) + ((1 : Nat) : Int) - (i : Int)).toNat = es.length + 1 - i := by omega
     (try simp only [De, Dd, Dc, Db, Da, C9, C8, C7]); simp (disch := omega) only [hp, ek, go_sem]
     generalize hT : List.take i es ++ List.replicate (es.length + 1 - i) _ = T;have hTl : T.length = es.length + 1 := by rw [← hT]; simp; omega
     have t1 : T.take i = es.take i := by
      rw [← hT, List.take_append_of_le_length (by simp; omega), List.take_take, Nat.min_self]
     have hi' : (es.take i).length = i := by simp; omega
     have m1 : min 1 (es.length + 1 - i) = 1 := by omega
     have m2 : [cs].take (es.length + 1 - i) = [cs] := List.take_of_length_le (by simp; omega);have hU : (es.take i ++ [cs] ++ T.drop (i + 1)).length = es.length + 1 := by simp [hTl]; omega
     have e1 : ((i : Int) + ((1 : Nat) : Int)).toNat = i + 1 := by omega
     have u1 : (es.take i ++ [cs] ++ T.drop (i + 1)).take (i + 1) = es.take i ++ [cs] := by
      rw [List.take_append_of_le_length (by simp; omega)];exact List.take_of_length_le (by simp; omega)
     have u2 : (es.take es.length).drop i = es.drop i := by rw [List.take_length]
     have u3 : min (es.drop i).length (es.length + 1 - (i + 1)) = es.length - i := by simp
     have u4 : (es.drop i).take (es.length + 1 - (i + 1)) = es.drop i := List.take_of_length_le (by simp);have u5 : (es.take i ++ [cs] ++ T.drop (i + 1)).drop (i + 1 + (es.length - i)) = [] := List.drop_of_length_le (by rw [hU]; omega);have u6 : es.take i ++ cs :: es.drop i = es.take i ++ [cs] ++ es.drop i := by simp
     simp only [hTl, t1, m1, m2, e1, List.length_singleton];simp only [hU, u1, u2, u3, u4, u5, u6, List.append_nil];exact ⟨by omega, by omega, trivial⟩
   · have hp : ((c : Int) < (es.length : Int) + ((1 : Nat) : Int)) = False := eq_false (by omega)
     (try simp only [De, Dd, Dc, Db, Da, C9, C8, C7]); simp (disch := omega) only [hp, go_sem]
     intro g hg hgs;have hg1 : g.length = 1 := by omega
     have e1 : ((i : Int) + ((1 : Nat) : Int)).toNat = i + 1 := by omega
     have hE : (es ++ g).length = es.length + 1 := by simp [hg1]
     refine ⟨by omega, ?_⟩;rw [e1];refine Qs (Aym (es := es ++ g) (fs := [cs]) rfl rfl (by decide) (by simp) (by simp [hne]) (by omega)) ?_;have v1 : ((es ++ g).take (es ++ g).length).drop i = (es ++ g).drop i := by rw [List.take_length]
     have v2 : min ((es ++ g).drop i).length ((es ++ g).length - (i + 1)) = es.length - i := by simp [hg1]; omega
     have v3 : ((es ++ g).drop i).take ((es ++ g).length - (i + 1)) = es.drop i := by
      rw [hE, List.drop_append_of_le_length hi, show es.length + 1 - (i + 1) = (es.drop i).length from by simp];exact List.take_left
     have v4 : (es ++ g).drop (i + 1 + (es.length - i)) = [] := List.drop_of_length_le (by omega);have v5 : ((es ++ g).take (i + 1) ++ es.drop i).length = es.length + 1 := by simp [hg1]; omega
     have v6 : ((es ++ g).take (i + 1) ++ es.drop i).take i = es.take i := by
      rw [List.take_append_of_le_length (by simp; omega), List.take_take, Nat.min_eq_left (by omega), List.take_append_of_le_length hi]
     have v7 : ((es ++ g).take (i + 1) ++ es.drop i).drop (i + 1) = es.drop i := by
      rw [List.drop_append_of_le_length (by simp; omega), List.drop_of_length_le (by simp; omega), List.nil_append]
     have m1 : min 1 (es.length + 1 - i) = 1 := by omega
     have m2 : [cs].take (es.length + 1 - i) = [cs] := List.take_of_length_le (by simp; omega);have u6 : es.take i ++ cs :: es.drop i = es.take i ++ [cs] ++ es.drop i := by simp
     simp (disch := omega) only [e1, v1, v2, v3, v4, v5, v6, v7, m1, m2, u6, go_sem]
theorem Ayq {m n : Nat} (es : List (List PV)) (cs : List PV) (i : Nat) (hi : i ≤ es.length) (hb : es.length ≤ 1000) (hes : ∀ c ∈ es, c.length = 15) (hcs : cs.length = 15) (hmn : m ≠ n) (hm : m < 900) (hn : n < 900) {h d} (hd : d ≠ m ∧ d ≠ n ∧ d < 900) (h1 : h m = some (.row 15 es)) (h2 : h n = some (.row 15 [cs])) : FunOk Tryz.prog 105 [.os m, .pv (.i .i64 i), .os n] h d (.os d) [.del m, .del n, .new d (.row 15 (es.take i ++ cs :: es.drop i))] := by
 have hπ := Agk (a := 900) (m := m) (b := 901) (n := n) (by omega) (by omega) (by omega) hmn;have e1 : Yy 900 m 901 n 900 = m := by unfold Yy; simp
 have e2 : Yy 900 m 901 n 901 = n := by unfold Yy; repeat' split <;> (try omega)
 have e3 : Yy 900 m 901 n d = d := by unfold Yy; repeat' split <;> (try omega)
 have := (U7 es cs i hi hb hes hcs (h := fun k => (h (Yy 900 m 901 n k))) (d := d) (by rw [← h1, e1]) (by rw [← h2, e2])).rn (π := Yy 900 m 901 n) hπ (d' := d);simp only [SV.rnL, SV.rn, HU.rn, Blk.rn, List.map_cons, List.map_nil, e1, e2, e3] at this;refine this.at fun k hk => ?_;simp only [A8, tn, List.append_nil, List.nil_append, List.mem_append, List.mem_singleton] at hk;simp only [hπ];rcases hk with rfl | rfl
 · rw [h1]; rfl
 · rw [h2]; rfl
theorem U9 {x : SV} {f : Bool} {z : Nat} {es : List (List PV)} {h d} (hx : Co h [x] = [.pv (.sl f z es)]) (hl : Bc [x] = true) (hz : es = [] ∨ z = 15) (hb : es.length ≤ 1000) (hs : ∀ c ∈ es, c.all PV.flat = true) :
 FunOk Tryz.prog 42 [x] h d (.os d) [.new d (.row 15 es)] := by
 refine Acz Ae fn42 (by simp) hl (.inr hs) fun F => ?_;rw [hx];simp (disch := omega) only [ir42, go_sem];intro b hb';cases b
 · simp (disch := omega) only [go_sem]
 · have he : es = [] := by
    cases es with
    | nil => rfl
    | cons c l => exact absurd (hb' (by simp)) (by simp)
   subst he
   (try simp only [De, Dd, Dc, Db, Da, C9, C8, C7]); simp (disch := omega) only [go_sem]
   decide
abbrev Hj (a b : Bi) : Bool := Bp a.1 a.2 b.1 b.2
theorem Tn {a b : Bi} : Hj a b = true ↔ a.2 < b.2 ∨ a.2 = b.2 ∧ a.1 < b.1 := by simp [Hj, Bp]
theorem E8 {a b c : Bi} (h : Hj a b = true) (k : Hj b c = true) : Hj a c = true := by rw [Tn] at *; omega
theorem E1 {a : Bi} : ¬ Hj a a = true := by rw [Tn]; omega
theorem O5 {a b : Bi} (h : Hj a b = true) : ¬ Hj b a = true := by rw [Tn] at *; omega
theorem Lm {a b : Bi} (h : ¬ Hj a b = true) (k : a ≠ b) : Hj b a = true := by
 rw [Tn] at *;by_cases e : a.2 = b.2
 · have : a.1 ≠ b.1 := fun e1 => k (Prod.ext e1 e);omega
 · omega
def Dl (l : List Ent) : Prop := l.Pairwise fun a b => Hj a.id b.id = true
def Hc : List Ent → Bi → Option Ent
 | [], _ => none
 | x :: l, i => if x.id = i then some x else Hc l i
theorem Ajp {l : List Ent} {i : Bi} {x : Ent} (h : Hc l i = some x) : x ∈ l ∧ x.id = i := by
 induction l with
 | nil => simp [Hc] at h
 | cons y l ih =>
   simp only [Hc] at h;split at h
   · cases h; exact ⟨List.mem_cons_self, by assumption⟩
   · exact ⟨List.mem_cons_of_mem _ (ih h).1, (ih h).2⟩
theorem Fy {l : List Ent} {i : Bi} : Hc l i = none ↔ ∀ x ∈ l, x.id ≠ i := by
 induction l with
 | nil => simp [Hc]
 | cons y l ih =>
   simp only [Hc];by_cases h : y.id = i
   · rw [if_pos h];exact ⟨fun e => (nomatch e), fun e => absurd h (e y List.mem_cons_self)⟩
   · rw [if_neg h, ih];simp only [List.mem_cons, forall_eq_or_imp];exact ⟨fun e => ⟨h, e⟩, fun e => e.2⟩
theorem Vi {l : List Ent} (hs : Dl l) {x : Ent} (h : x ∈ l) : Hc l x.id = some x := by
 induction l with
 | nil => cases h
 | cons y l ih =>
   obtain ⟨h1, h2⟩ := List.pairwise_cons.1 hs;simp only [Hc];rcases List.mem_cons.1 h with rfl | h
   · rw [if_pos rfl]
   · rw [if_neg fun e => E1 (by have := h1 x h; rwa [e] at this)];exact ih h2 h
def Fx (l : List Ent) (i : Bi) : Nat := l.findIdx fun x => !Hj x.id i
theorem Zl (l : List Ent) (i : Bi) : Fx l i ≤ l.length := List.findIdx_le_length
theorem Rb (x : Ent) (l : List Ent) (i : Bi) : Fx (x :: l) i = if Hj x.id i = true then Fx l i + 1 else 0 := by
 unfold Fx;rw [List.findIdx_cons];cases Hj x.id i <;> simp
theorem Anb {l : List Ent} {i : Bi} {k : Nat} (hk : k < Fx l i) : ∃ x, l[k]? = some x ∧ Hj x.id i = true := by
 have hl : k < l.length := Nat.lt_of_lt_of_le hk (Zl l i);refine ⟨l[k], by simp [hl], ?_⟩;have := List.not_of_lt_findIdx hk;simpa using this
theorem Ayd {l : List Ent} (hs : Dl l) {i : Bi} {k : Nat} (hk : Fx l i ≤ k) {x : Ent} (hx : l[k]? = some x) : ¬ Hj x.id i = true := by
 obtain ⟨hl, rfl⟩ := List.getElem?_eq_some_iff.1 hx;have hp : Fx l i < l.length := by omega
 have h0 : ¬ Hj l[Fx l i].id i = true := by
  have : (!Hj (l[Fx l i]'hp).id i) = true := List.findIdx_getElem (p := fun x : Ent => !Hj x.id i) (w := hp);simpa using this
 by_cases e : Fx l i = k
 · subst e; exact h0
 · have := List.pairwise_iff_getElem.1 hs (Fx l i) k hp hl (by omega);exact fun h => h0 (E8 this h)
theorem Agy {l : List Ent} {i : Bi} {k : Nat} (hk : k ≤ l.length) (h1 : ∀ j x, j < k → l[j]? = some x → Hj x.id i = true) (h2 : ∀ x, l[k]? = some x → ¬ Hj x.id i = true) : Fx l i = k := by
 rcases Nat.lt_trichotomy (Fx l i) k with h | h | h
 · have hl : Fx l i < l.length := by omega
   have h0 : (!Hj (l[Fx l i]'hl).id i) = true := List.findIdx_getElem (p := fun x : Ent => !Hj x.id i) (w := hl);have := h1 _ _ h (List.getElem?_eq_getElem hl);rw [this] at h0; simp at h0
 · exact h
 · obtain ⟨x, e1, e2⟩ := Anb h;exact absurd e2 (h2 x e1)
def Qc (l : List Ent) (i : Bi) : Bool := (Hc l i).isSome
theorem P6 {l : List Ent} (hs : Dl l) (i : Bi) : Hc l i = match l[Fx l i]? with | some x => if x.id = i then some x else none | none => none := by
 induction l with
 | nil => simp [Hc]
 | cons y l ih =>
   obtain ⟨h1, h2⟩ := List.pairwise_cons.1 hs;rw [Rb];simp only [Hc];by_cases e : y.id = i
   · have : ¬ Hj y.id i = true := by rw [e]; exact E1
     rw [if_neg this, if_pos e];simp [e]
   · rw [if_neg e];by_cases hl : Hj y.id i = true
     · rw [if_pos hl, List.getElem?_cons_succ]; exact ih h2
     · rw [if_neg hl, List.getElem?_cons_zero];simp only [e, if_false];exact Fy.2 fun z hz ez => E1 (by have := E8 (Lm hl e) (h1 z hz); rwa [ez] at this)
theorem Uq {l : List Ent} (hs : Dl l) {j m : Nat} {x v : Ent} (hj : l[j]? = some x) (hm : l[m]? = some v) (h : j < m) : Hj x.id v.id = true := by
 obtain ⟨h1, rfl⟩ := List.getElem?_eq_some_iff.1 hj;obtain ⟨h2, rfl⟩ := List.getElem?_eq_some_iff.1 hm;exact List.pairwise_iff_getElem.1 hs j m h1 h2 h
def N4 (l : List Ent) (x : Ent) : List Ent := l.take (Fx l x.id) ++ x :: l.drop (Fx l x.id)
theorem Rr (y : Ent) (l : List Ent) (x : Ent) : N4 (y :: l) x = if Hj y.id x.id = true then y :: N4 l x else x :: y :: l := by
 unfold N4;rw [Rb];split <;> simp
theorem Zz {l : List Ent} {x z : Ent} : z ∈ N4 l x ↔ z = x ∨ z ∈ l := by
 unfold N4;have := List.take_append_drop (Fx l x.id) l;constructor
 · intro h;rcases List.mem_append.1 h with h | h
   · exact .inr (List.mem_of_mem_take h)
   · rcases List.mem_cons.1 h with h | h
     · exact .inl h
     · exact .inr (List.mem_of_mem_drop h)
 · intro h;rcases h with rfl | h
   · simp
   · rw [← this] at h;rcases List.mem_append.1 h with h | h
     · exact List.mem_append_left _ h
     · exact List.mem_append_right _ (List.mem_cons_of_mem _ h)
theorem Up {l : List Ent} (hs : Dl l) {x : Ent} (hn : Hc l x.id = none) : Dl (N4 l x) := by
 induction l with
 | nil => simp [N4, Fx, Dl]
 | cons y l ih =>
   obtain ⟨h1, h2⟩ := List.pairwise_cons.1 hs;have hy : y.id ≠ x.id := Fy.1 hn y List.mem_cons_self;have hn' : Hc l x.id = none := Fy.2 fun z hz => Fy.1 hn z (List.mem_cons_of_mem _ hz);rw [Rr];split
   · rename_i hl;refine List.Pairwise.cons (fun z hz => ?_) (ih h2 hn');rcases Zz.1 hz with rfl | hz
     · exact hl
     · exact h1 z hz
   · rename_i hl;have hxy : Hj x.id y.id = true := Lm hl hy;refine List.Pairwise.cons (fun z hz => ?_) hs;rcases List.mem_cons.1 hz with rfl | hz
     · exact hxy
     · exact E8 hxy (h1 z hz)
theorem Amm {l : List Ent} {f : Ent → Ent} (hf : ∀ x, (f x).id = x.id) (hs : Dl l) : Dl (l.map f) := by
 unfold Dl;rw [List.pairwise_map];exact hs.imp fun h => by simpa only [hf] using h
def S4 (l : List Ent) (i : Bi) (f : Ent → Ent) : List Ent := l.map fun x => if x.id = i then f x else x
theorem Atz {i : Bi} {f : Ent → Ent} (hf : ∀ x, (f x).id = x.id) (x : Ent) : (if x.id = i then f x else x).id = x.id := by split <;> simp [hf]
theorem Aml {l : List Ent} {f : Ent → Ent} (hf : ∀ x, (f x).id = x.id) (hs : Dl l) (i : Bi) : Dl (S4 l i f) := Amm (Atz hf) hs
theorem As1 {l : List Ent} (hs : Dl l) {i : Bi} {f : Ent → Ent} {x : Ent} (h : Hc l i = some x) : l.set (Fx l i) (f x) = S4 l i f := by
 induction l with
 | nil => simp [Hc] at h
 | cons y l ih =>
   obtain ⟨h1, h2⟩ := List.pairwise_cons.1 hs;rw [Rb];simp only [Hc] at h;by_cases e : y.id = i
   · rw [if_pos e] at h;cases h;rw [if_neg (by rw [e]; exact E1)];simp only [List.set_cons_zero, S4, List.map_cons, if_pos e];congr 1;have e1 : ∀ z ∈ l, (if z.id = i then f z else z) = id z := fun z hz => by
      rw [if_neg fun ez => E1 (by have := h1 z hz; rwa [e, ez] at this)]; rfl
     rw [List.map_congr_left e1, List.map_id]
   · rw [if_neg e] at h;have hx := Ajp h;have : Hj y.id i = true := by rw [← hx.2]; exact h1 x hx.1
     rw [if_pos this, List.set_cons_succ, ih h2 h];simp [S4, e]
def Qu (l : List Ent) (x : Ent) : List Ent := if Qc l x.id = true then l else N4 l x
def Ij (a b : Bi) : Int := if Hj a b = true then -1 else if Hj b a = true then 1 else 0
theorem Ays (a b : Bi) {h d} : FunOk Tryz.prog 128 [.vec 2 [.i .i64 a.1, .i .u32 a.2], .vec 2 [.i .i64 b.1, .i .u32 b.2]] h d (.pv (.i .i64 (Ij a b))) [] := by
 refine Au Ae fn128 (by simp) rfl rfl fun F => ?_;simp (disch := omega) only [ir128, go_sem];refine Aa (Mo _ _ _ _) ?_;by_cases h1 : Bp a.1 a.2 b.1 b.2 = true
 · have e : Ij a b = -1 := if_pos h1;simp (disch := omega) only [h1, e, go_sem]
 · have h1' : Bp a.1 a.2 b.1 b.2 = false := by simpa using h1
   simp (disch := omega) only [h1', go_sem];refine Aa (Mo _ _ _ _) ?_;by_cases h2 : Bp b.1 b.2 a.1 a.2 = true
   · have e : Ij a b = 1 := by unfold Ij; rw [if_neg h1, if_pos h2]
     simp (disch := omega) only [h2, e, go_sem]
   · have h2' : Bp b.1 b.2 a.1 a.2 = false := by simpa using h2
     have e : Ij a b = 0 := by unfold Ij; rw [if_neg h1, if_neg h2]
     simp (disch := omega) only [h2', e, go_sem]
theorem Awl (x : Ent) (b : Bi) {h d} : FunOk Tryz.prog 127 [.vec 15 (Bh x), .vec 2 [.i .i64 b.1, .i .u32 b.2]] h d (.pv (.i .i64 (Ij x.id b))) [] := by
 refine Au Ae fn127 (by simp) rfl rfl fun F => ?_;simp (disch := omega) only [ir127, C5, go_sem];refine Aa (Ays _ _) ?_;simp (disch := omega) only [go_sem]
theorem Tu {a b : Bi} : (Ij a b < 0) = (Hj a b = true) := by
 unfold Ij;by_cases h : Hj a b = true
 · rw [if_pos h]; simp [h]
 · rw [if_neg h]; split <;> simp [h]
theorem Tv {a b : Bi} : (Ij a b = 0) = (a = b) := by
 unfold Ij;by_cases h : Hj a b = true
 · rw [if_pos h];refine propext ⟨fun e => by omega, fun e => ?_⟩;subst e; exact absurd h E1
 · rw [if_neg h];by_cases k : Hj b a = true
   · rw [if_pos k];refine propext ⟨fun e => by omega, fun e => ?_⟩;subst e; exact absurd k E1
   · rw [if_neg k];refine propext ⟨fun _ => ?_, fun _ => rfl⟩;exact Classical.byContradiction fun e => k (Lm h e)
def Agq (f : Bool) (l : List Ent) (i : Bi) (p : Nat × Nat) : FS := mk [(9, .pv (.i .i64 p.1)), (10, .pv (.i .i64 p.2)), (8, .pv (.i .i64 l.length)), (0, .pv (.sl f 15 (l.map Bh))), (2, .fn (.func 127) []), (4, .p 4 0)] [(4, some (.var (.vec 2 [.i .i64 i.1, .i .u32 i.2])))]
set_option maxHeartbeats 1000000 in
theorem A2v {x : SV} {f : Bool} {l : List Ent} (i : Bi) {h d} (hx : Co h [x, .vec 2 [.i .i64 i.1, .i .u32 i.2], .fn (.func 127) []] = [.pv (.sl f 15 (l.map Bh)), .vec 2 [.i .i64 i.1, .i .u32 i.2], .fn (.func 127) []]) (hl : Bc [x, .vec 2 [.i .i64 i.1, .i .u32 i.2], .fn (.func 127) []] = true) (hs : Dl l) (hn : l.length ≤ 1000) :
 FunOk Tryz.prog 126 [x, .vec 2 [.i .i64 i.1, .i .u32 i.2], .fn (.func 127) []] h d (.tup [.pv (.i .i64 (Fx l i)), .pv (.b (Qc l i))]) [] := by
 refine Cn Ae fn126 (by simp) hl rfl fun F => ?_;rw [hx];simp (disch := omega) only [ir126, List.length_map, go_sem];refine A1 Ae (Agq f l i) (fun p => p.1 ≤ p.2 ∧ p.2 ≤ l.length ∧ (∀ j x, j < p.1 → l[j]? = some x → Hj x.id i = true) ∧ ∀ j x, p.2 ≤ j → l[j]? = some x → ¬ Hj x.id i = true) (fun p => p.2 - p.1) (0, l.length) ⟨by simp, by simp, by simp, fun j x hj hx => by simp only at hj; rw [List.getElem?_eq_none hj] at hx; cases hx⟩ (Am ?_ ?_) fun p hp => ?_
 · (try simp only [De, Dd, Dc, Db, Da, C9, C8, C7]); simp (disch := omega) only [go_sem]
 · simp (disch := omega) only [go_sem]
 obtain ⟨a, b⟩ := p;obtain ⟨p1, p2, p3, p4⟩ := hp;simp only at p1 p2 p3 p4;by_cases hlt : a < b
 · have hm : (a + b) / 2 < l.length := by omega
   have hx : l[(a + b) / 2]? = some l[(a + b) / 2] := List.getElem?_eq_getElem hm;have he : (l.map Bh)[(a + b) / 2]? = some (Bh l[(a + b) / 2]) := by rw [List.getElem?_map, hx]; rfl
   have e1 : ((a : Int) + (b : Int)).fdiv (2 ^ min (Int.toNat 1) 64) = (((a + b) / 2 : Nat) : Int) := by
    rw [show (2 : Int) ^ min (Int.toNat 1) 64 = 2 from rfl, Int.fdiv_eq_ediv_of_nonneg _ (by omega)]; omega
   have hm1 : a ≤ (a + b) / 2 := by omega
   have hm2 : (a + b) / 2 < b := by omega
   generalize l[(a + b) / 2] = v at *;generalize (a + b) / 2 = m at *;simp (disch := omega) only [Agq, List.length_map, e1, he, E0, go_sem];refine Aa (Awl v i) ?_;by_cases hc : Hj v.id i = true
   · have e2 : (Ij v.id i < 0) = True := by rw [Tu]; exact eq_true hc
     simp (disch := omega) only [e2, go_sem];refine Ad (x := (a, b)) (m + 1, b) _ _ rfl ⟨by show m + 1 ≤ b; omega, p2, fun j x hj hx' => ?_, p4⟩ (by show b - (m + 1) < b - a; omega) ?_ ?_
     · by_cases e : j = m
       · subst e; rw [hx] at hx'; cases hx'; exact hc
       · exact E8 (Uq hs hx' hx (by simp only at hj; omega)) hc
     · (try simp only [De, Dd, Dc, Db, Da, C9, C8, C7]); simp (disch := omega) only [go_sem]
     · simp (disch := omega) only [go_sem]
   · have e2 : (Ij v.id i < 0) = False := by rw [Tu]; exact eq_false hc
     simp (disch := omega) only [e2, go_sem];refine Ad (x := (a, b)) (a, m) _ _ rfl ⟨by show a ≤ m; omega, by show m ≤ _; omega, p3, fun j x hj hx' => ?_⟩ (by show m - a < b - a; omega) ?_ ?_
     · by_cases e : j = m
       · subst e; rw [hx] at hx'; cases hx'; exact hc
       · exact fun q => hc (E8 (Uq hs hx hx' (by simp only at hj; omega)) q)
     · (try simp only [De, Dd, Dc, Db, Da, C9, C8, C7]); simp (disch := omega) only [go_sem]
     · simp (disch := omega) only [go_sem]
 · obtain rfl : a = b := by omega
   have hpos : Fx l i = a := Agy p2 p3 fun x hx' => p4 a x (Nat.le_refl a) hx';by_cases hal : a < l.length
   · have hx' : l[a]? = some l[a] := List.getElem?_eq_getElem hal;have he : (l.map Bh)[a]? = some (Bh l[a]) := by rw [List.getElem?_map, hx']; rfl
     have hk := P6 hs i;rw [hpos, hx'] at hk;generalize l[a] = v at *;simp (disch := omega) only [Agq, hal, he, E0, List.length_map, go_sem];refine Aa (Awl v i) ?_;by_cases hv : v.id = i
     · have e2 : (Ij v.id i = 0) = True := by rw [Tv]; exact eq_true hv
       have e3 : Qc l i = true := by unfold Qc; rw [hk]; simp [hv]
       simp (disch := omega) only [e2, e3, hpos, go_sem]
     · have e2 : (Ij v.id i = 0) = False := by rw [Tv]; exact eq_false hv
       have e3 : Qc l i = false := by unfold Qc; rw [hk]; simp [hv]
       simp (disch := omega) only [e2, e3, hpos, go_sem]
   · have hk := P6 hs i;rw [hpos, List.getElem?_eq_none (by omega)] at hk;have e3 : Qc l i = false := by unfold Qc; rw [hk]; rfl
     simp (disch := omega) only [Agq, hal, hpos, e3, go_sem]
theorem Awm {x : SV} {f : Bool} {l : List Ent} (i : Bi) {h d} (hx : Co h [x, .vec 2 [.i .i64 i.1, .i .u32 i.2]] = [.pv (.sl f 15 (l.map Bh)), .vec 2 [.i .i64 i.1, .i .u32 i.2]]) (hl : Bc [x, .vec 2 [.i .i64 i.1, .i .u32 i.2]] = true) (hs : Dl l) (hn : l.length ≤ 1000) :
 FunOk Tryz.prog 104 [x, .vec 2 [.i .i64 i.1, .i .u32 i.2]] h d (.tup [.pv (.i .i64 (Fx l i)), .pv (.b (Qc l i))]) [] := by
 refine Cn Ae fn104 (by simp) hl rfl fun F => ?_;rw [hx];simp (disch := omega) only [ir104, go_sem];refine Aa (A2v (l := l) i rfl rfl hs hn) ?_;simp (disch := omega) only [go_sem]
theorem Ayx {a : SV} {f : Bool} {l : List Ent} (x : Ent) {h d} (hx : Co h [a, .vec 15 (Bh x)] = [.pv (.sl f 15 (l.map Bh)), .vec 15 (Bh x)]) (hl : Bc [a, .vec 15 (Bh x)] = true) (hs : Dl l) (hn : l.length ≤ 1000) :
 FunOk Tryz.prog 77 [a, .vec 15 (Bh x)] h d (.os d) [.new d (.row 15 ((Qu l x).map Bh))] := by
 refine Aac Ae fn77 (by simp) hl (.inr (I1 _)) fun F => ?_;rw [hx];simp (disch := omega) only [ir77, C5, go_sem];refine Aa (Awm (l := l) x.id rfl rfl hs hn) ?_;have hfl := I1 l;by_cases hi : Qc l x.id = true
 · have e : Qu l x = l := by unfold Qu; rw [if_pos hi]
   simp (disch := omega) only [hi, e, go_sem];refine Aa (U9 (es := l.map Bh) rfl rfl (.inr rfl) (by simp; omega) hfl) ?_;simp (disch := omega) only [go_sem]
 · have hi' : Qc l x.id = false := by simpa using hi
   have e : Qu l x = N4 l x := by unfold Qu; rw [if_neg hi]
   have hc := Dk x;simp (disch := omega) only [hi', e, go_sem];refine Aa (U9 (es := l.map Bh) rfl rfl (.inr rfl) (by simp; omega) hfl) ?_;simp (disch := omega) only [hc, E0, go_sem];have hp := Zl l x.id;refine Aa (Ayq (l.map Bh) (Bh x) (Fx l x.id) (by simp; omega) (by simp; omega) (fun c hc => by obtain ⟨y, _, rfl⟩ := List.mem_map.1 hc; exact Dk y) hc (by decide) (by decide) (by decide) (by decide) rfl rfl) ?_;simp (disch := omega) only [go_sem];simp [N4, List.map_take, List.map_drop]
def A3 (v : Vc) (r : Int) (q : Nat) : Vc := if 1 ≤ r ∧ r ≤ 8 then Ds v (r - 1).toNat (max (v (r - 1).toNat) q) else v
set_option maxHeartbeats 1000000 in
theorem Zo (v : Vc) (r : Int) (q : Nat) {h d} : FunOk Tryz.prog 36 [.vec 8 (vE v), .vec 2 [.i .i64 r, .i .u32 q]] h d (.vec 8 (vE (A3 v r q))) [] := by
 refine Au Ae fn36 (by simp) rfl rfl fun F => ?_;by_cases h1 : 1 ≤ r
 · by_cases h2 : r ≤ 8
   · have e : A3 v r q = Ds v (r - 1).toNat (max (v (r - 1).toNat) q) := by unfold A3; rw [if_pos ⟨h1, h2⟩]
     obtain ⟨k, rfl⟩ : ∃ k : Nat, r = (k : Int) + 1 := ⟨(r - 1).toNat, by omega⟩
     have ek : ((k : Int) + 1 - 1) = (k : Int) := by omega
     rw [ek, Int.toNat_natCast] at e;rw [e];simp (disch := omega) only [ir36, ek, go_sem]
   · have e : A3 v r q = v := by unfold A3; rw [if_neg (by omega)]
     rw [e];simp (disch := omega) only [ir36, go_sem]
 · have e : A3 v r q = v := by unfold A3; rw [if_neg (by omega)]
   rw [e];simp (disch := omega) only [ir36, go_sem]
def Ta (a b : Vc) (k : Nat) : FS := mk [(6, .pv (.i .i64 k)), (5, .p 5 0), (4, .p 4 0), (3, .p 3 0), (2, .p 2 0)] [(2, some (.var (.vec 8 (vE a)))), (3, some (.var (.vec 8 (vE b)))), (5, some (.var (.vec 8 (vE fun i => if i < k then Ck a b i else 0)))), (4, some (.var (.vec 8 (vE fun _ => 0))))]
theorem Zs (a b : Vc) {h d} : FunOk Tryz.prog 47 [.vec 8 (vE a), .vec 8 (vE b)] h d (.vec 8 (vE (Ck a b))) [] := by
 refine Au Ae fn47 (by simp) rfl rfl fun F => ?_;simp (disch := omega) only [ir47, go_sem];refine A1 Ae (Ta a b) (fun k => k ≤ 8) (fun k => 8 - k) 0 (by simp) (Am ?_ ?_) fun k hk => ?_
 · simp (disch := omega) only [go_sem]
 · simp (disch := omega) only [Yv, go_sem]
 by_cases hlt : k < 8
 · by_cases hc : a k < b k
   · simp (disch := omega) only [Ta, go_sem];refine Ad (k + 1) _ _ rfl (by omega) (by omega) ?_ ?_
     · simp (disch := omega) only [go_sem]
     · simp (disch := omega) only [go_sem];exact Qe (K3 fun i hi => by simp only [Ds, Ck]; grind)
   · simp (disch := omega) only [Ta, go_sem];refine Ad (k + 1) _ _ rfl (by omega) (by omega) ?_ ?_
     · simp (disch := omega) only [go_sem]
     · simp (disch := omega) only [go_sem];exact Qe (K3 fun i hi => by simp only [Ds, Ck]; grind)
 · simp (disch := omega) only [Ta, Ad1, go_sem]
def P3 (r : Int) (q : Nat) : Vc := fun i => if (i : Int) + 1 = r then q else 0
def Y3 (r : Int) (q k : Nat) : FS := mk [(4, .pv (.i .i64 k)), (3, .p 3 0), (2, .p 2 0), (1, .p 1 0)] [(1, some (.var (.vec 2 [.i .i64 r, .i .u32 q]))), (3, some (.var (.vec 8 (vE fun i => if i < k then P3 r q i else 0)))), (2, some (.var (.vec 8 (vE fun _ => 0))))]
theorem Ayn (r : Int) (q : Nat) {h d} : FunOk Tryz.prog 48 [.vec 2 [.i .i64 r, .i .u32 q]] h d (.vec 8 (vE (P3 r q))) [] := by
 refine Au Ae fn48 (by simp) rfl rfl fun F => ?_;simp (disch := omega) only [ir48, go_sem];refine A1 Ae (Y3 r q) (fun k => k ≤ 8) (fun k => 8 - k) 0 (by simp) (Am ?_ ?_) fun k hk => ?_
 · simp (disch := omega) only [go_sem]
 · simp (disch := omega) only [Yv, go_sem]
 by_cases hlt : k < 8
 · by_cases hc : (k : Int) + 1 = r
   · simp (disch := omega) only [Y3, hc, go_sem];refine Ad (k + 1) _ _ rfl (by omega) (by omega) ?_ ?_
     · simp (disch := omega) only [go_sem]
     · simp (disch := omega) only [go_sem];exact Qe (K3 fun i hi => by simp only [Ds, P3]; grind)
   · simp (disch := omega) only [Y3, hc, go_sem];refine Ad (k + 1) _ _ rfl (by omega) (by omega) ?_ ?_
     · simp (disch := omega) only [go_sem]
     · simp (disch := omega) only [go_sem];exact Qe (K3 fun i hi => by simp only [Ds, P3]; grind)
 · simp (disch := omega) only [Y3, Ad1, go_sem]
theorem Tf (v : Vc) (r : Int) (q : Nat) {h d} : FunOk Tryz.prog 20 [.vec 8 (vE v), .vec 2 [.i .i64 r, .i .u32 q]] h d (.vec 8 (vE (Ck v (P3 r q)))) [] := by
 refine Au Ae fn20 (by simp) rfl rfl fun F => ?_;simp (disch := omega) only [ir20, go_sem];refine Aa (Ayn _ _) ?_;simp (disch := omega) only [go_sem];refine Aa (Zs _ _) ?_;simp (disch := omega) only [go_sem]
theorem Aa4 (v : Vc) (r : Int) (q : Nat) : ∀ i, i < 8 → A3 v r q i = Ck v (P3 r q) i := by
 intro i hi;unfold A3;split
 · simp only [Ds, Ck, P3]; grind
 · simp only [Ck, P3]; grind
theorem Ub (a b : Vc) : Ck a b = Ck b a := funext fun i => Nat.max_comm _ _
theorem Hv (a b c : Vc) : Ck (Ck a b) c = Ck a (Ck b c) := funext fun i => Nat.max_assoc _ _ _
theorem Adz (a : Vc) : Ck a a = a := funext fun i => Nat.max_self _
def Ate (b : Bi) : Vc := fun i => if 1 ≤ b.1 ∧ b.1 ≤ 8 ∧ (i : Int) + 1 = b.1 then b.2 else 0
theorem Kg (v : Vc) (b : Bi) : A3 v b.1 b.2 = Ck v (Ate b) := by
 funext i;unfold A3 Ck Ate;by_cases h : 1 ≤ b.1 ∧ b.1 ≤ 8
 · rw [if_pos h];unfold Ds;by_cases e : i = (b.1 - 1).toNat
   · rw [if_pos e, if_pos (by omega), e]
   · rw [if_neg e, if_neg (by omega)]; simp
 · rw [if_neg h, if_neg (by omega)]; simp
def Ae1 (x y : Ent) : Ent := { x with gone := Ck x.gone y.gone }
theorem Xq {l : List Ent} {i : Bi} {f : Ent → Ent} (h : ∀ y ∈ l, y.id ≠ i) : S4 l i f = l := by
 unfold S4;have e1 : ∀ z ∈ l, (if z.id = i then f z else z) = id z := fun z hz => by rw [if_neg (h z hz)]; rfl
 rw [List.map_congr_left e1, List.map_id]
def Aeo (l : List Ent) (x : Ent) : List Ent := if Qc l x.id = true then S4 l x.id (fun y => Ae1 y x) else N4 l x
def Fd : List Ent → Ent → Bool → List Ent
 | [], x, put => if put = true then [] else [x]
 | y :: l, x, put => if y.id = x.id then Ae1 y x :: Fd l x true else if put = false ∧ Hj x.id y.id = true then x :: y :: Fd l x true else y :: Fd l x put
theorem Ov : ∀ {l : List Ent} {x : Ent}, (∀ y ∈ l, y.id ≠ x.id) → Fd l x true = l
 | [], x, _ => by simp [Fd]
 | y :: l, x, h => by
   simp only [Fd];rw [if_neg (h y List.mem_cons_self), if_neg (by simp), Ov fun z hz => h z (List.mem_cons_of_mem _ hz)]
theorem Ao5 (y : Ent) (l : List Ent) (i : Bi) (h : y.id ≠ i) : Qc (y :: l) i = Qc l i := by unfold Qc; simp only [Hc]; rw [if_neg h]
theorem Ahn {l : List Ent} {i : Bi} : Qc l i = false ↔ Hc l i = none := by unfold Qc; cases Hc l i <;> simp
theorem A38 {l : List Ent} {i : Bi} : Qc l i = true ↔ ∃ x, Hc l i = some x := by unfold Qc; cases Hc l i <;> simp
theorem Xf : ∀ {l : List Ent} {x : Ent}, Dl l → Fd l x false = Aeo l x
 | [], x, _ => by simp [Fd, Aeo, Qc, Hc, N4, Fx]
 | y :: l, x, hs => by
   obtain ⟨h1, h2⟩ := List.pairwise_cons.1 hs;simp only [Fd];by_cases e : y.id = x.id
   · have hne : ∀ z ∈ l, z.id ≠ x.id := fun z hz ez => E1 (by have := h1 z hz; rwa [e, ez] at this);rw [if_pos e, Ov hne];have : Qc (y :: l) x.id = true := by unfold Qc; simp [Hc, e]
     unfold Aeo;rw [if_pos this];show _ = List.map _ (y :: l);rw [List.map_cons, if_pos e];congr 1;exact (Xq hne).symm
   · rw [if_neg e];by_cases hl : Hj x.id y.id = true
     · have hne : ∀ z ∈ l, z.id ≠ x.id := fun z hz ez => E1 (by have := E8 hl (h1 z hz); rwa [ez] at this);rw [if_pos (by simp [hl]), Ov hne];have : Qc (y :: l) x.id = false := Ahn.2 (Fy.2 fun z hz => by
        rcases List.mem_cons.1 hz with rfl | hz
        · exact e
        · exact hne z hz)
       unfold Aeo;rw [if_neg (by rw [this]; simp), Rr, if_neg (O5 hl)]
     · rw [if_neg fun h => hl h.2, Xf h2];unfold Aeo;rw [Ao5 y l _ e];split
       · simp [S4, e]
       · rw [Rr, if_pos (Lm hl fun q => e q.symm)]
def Mv (b : Bi) (y : Ent) : Ent := { y with gone := Ck y.gone (Ate b) }
theorem Ao1 (b : Bi) (y : Ent) : (Mv b y).id = y.id := rfl
def killL (l : List Ent) (i b : Bi) : List Ent := S4 l i (Mv b)
theorem Ain {l : List Ent} (hs : Dl l) (i b : Bi) : Dl (killL l i b) := Aml (Ao1 b) hs i
theorem At7 (l : List Ent) (i : Bi) (f : Ent → Ent) : (S4 l i f).length = l.length := by simp [S4]
theorem A37 {l : List Ent} (hs : Dl l) {i : Bi} (h : Qc l i = true) : ∃ y, l[Fx l i]? = some y ∧ Hc l i = some y := by
 obtain ⟨x, hx⟩ := A38.1 h;refine ⟨x, ?_, hx⟩;have := P6 hs i;rw [hx] at this;cases h1 : l[Fx l i]? with
 | none => rw [h1] at this; cases this
 | some y =>
   rw [h1] at this;simp only at this;split at this
   · cases this; rfl
   · cases this
set_option maxHeartbeats 1000000 in
theorem Ag6 {a : SV} {f : Bool} {l : List Ent} (i b : Bi) {h d} (hx : Co h [a, .vec 2 [.i .i64 i.1, .i .u32 i.2], .vec 2 [.i .i64 b.1, .i .u32 b.2]] = [.pv (.sl f 15 (l.map Bh)), .vec 2 [.i .i64 i.1, .i .u32 i.2], .vec 2 [.i .i64 b.1, .i .u32 b.2]]) (hl : Bc [a, .vec 2 [.i .i64 i.1, .i .u32 i.2], .vec 2 [.i .i64 b.1, .i .u32 b.2]] = true) (hs : Dl l) (hn : l.length ≤ 1000) :
 FunOk Tryz.prog 107 [a, .vec 2 [.i .i64 i.1, .i .u32 i.2], .vec 2 [.i .i64 b.1, .i .u32 b.2]] h d (.os d) [.new d (.row 15 ((killL l i b).map Bh))] := by
 refine Aac Ae fn107 (by simp) hl (.inr (I1 _)) fun F => ?_;rw [hx];have hfl := I1 l;simp (disch := omega) only [ir107, go_sem];refine Aa (U9 (es := l.map Bh) rfl rfl (.inr rfl) (by simp; omega) hfl) ?_;simp (disch := omega) only [go_sem];refine Aa (Awm (l := l) i rfl rfl hs hn) ?_;by_cases hi : Qc l i = true
 · obtain ⟨y, h1, h2⟩ := A37 hs hi;have hp : Fx l i < l.length := (List.getElem?_eq_some_iff.1 h1).1;have he : (l.map Bh)[Fx l i]? = some (Bh y) := by rw [List.getElem?_map, h1]; rfl
   have hg : (l.map Bh).getD (Fx l i) [] = Bh y := by rw [List.getD_eq_getElem?_getD, he]; rfl
   have hw := Gw y (A3 y.gone b.1 b.2);have e : (l.map Bh).set (Fx l i) (Bh { y with gone := A3 y.gone b.1 b.2 }) = (killL l i b).map Bh := by
    rw [Kg, ← List.map_set];congr 1;exact As1 hs (f := Mv b) h2
   have hv := Bl (A3 y.gone b.1 b.2);simp (disch := omega) only [hi, List.length_map, he, H3, go_sem];refine Aa (Zo _ _ _) ?_;simp (disch := omega) only [hg, hw, e, List.length_map, go_sem]
 · have hi' : Qc l i = false := by simpa using hi
   have e : killL l i b = l := Xq (Fy.1 (Ahn.1 hi'));simp (disch := omega) only [hi', e, go_sem]
theorem Bt (a : Bi) : Ed [K1.int .i64, K1.int .u32] [.i .i64 a.1, .i .u32 a.2] = True := eq_true rfl
theorem F8 {a b : Bi} (h : a = b) : Xg [.i .i64 a.1, .i .u32 a.2] [.i .i64 b.1, .i .u32 b.2] = true := by subst h; simp [Xg]
theorem F9 {a b : Bi} (h : a ≠ b) : Xg [.i .i64 a.1, .i .u32 a.2] [.i .i64 b.1, .i .u32 b.2] = false := Ht fun e => h (Prod.ext e.1 e.2)
def Q6 (f : Bool) (l : List Ent) (x : Ent) (p : Nat × List Ent × Bool) : FS := mk [(7, .pv (.i .i64 p.1)), (6, .pv (.b p.2.2)), (5, .os 40), (3, .p 3 0), (0, .pv (.sl f 15 (l.map Bh)))] [(40, some (.row 15 (p.2.1.map Bh))), (3, some (.var (.vec 15 (Bh x))))]
set_option maxHeartbeats 2000000 in
theorem Zp {a : SV} {f : Bool} {l : List Ent} (x : Ent) {h d} (hx : Co h [a, .vec 15 (Bh x)] = [.pv (.sl f 15 (l.map Bh)), .vec 15 (Bh x)]) (hl : Bc [a, .vec 15 (Bh x)] = true) (hn : l.length ≤ 1000) :
 FunOk Tryz.prog 67 [a, .vec 15 (Bh x)] h d (.os d) [.new d (.row 15 ((Fd l x false).map Bh))] := by
 refine Aac Ae fn67 (by simp) hl (.inr (I1 _)) fun F => ?_;rw [hx];have hcx := Dk x;simp (disch := omega) only [ir67, List.length_map, go_sem];refine A1 Ae (Q6 f l x) (fun p => p.1 ≤ l.length ∧ p.2.1.length ≤ 2 * p.1 ∧ Fd l x false = p.2.1 ++ Fd (l.drop p.1) x p.2.2) (fun p => l.length - p.1) (0, [], false) ⟨Nat.zero_le _, Nat.le_refl _, rfl⟩ (T5 5 40 15 rfl (by omega) (Am ?_ ?_)) fun p hp => ?_
 · (try simp only [De, Dd, Dc, Db, Da, C9, C8, C7]); simp (disch := omega) only [go_sem]
 · (try simp only [De, Dd, Dc, Db, Da, C9, C8, C7]); simp (disch := omega) only [go_sem]
   rfl
 obtain ⟨k, out, put⟩ := p;obtain ⟨p1, p2, p3⟩ := hp;simp only at p1 p2 p3;by_cases hlt : k < l.length
 · have hd : l.drop k = l[k] :: l.drop (k + 1) := List.drop_eq_getElem_cons hlt;have he : (l.map Bh)[k]? = some (Bh l[k]) := by simp [hlt]
   rw [hd] at p3;generalize l[k] = y at *;have hcy := Dk y;simp only [Fd] at p3;by_cases hid : y.id = x.id
   · rw [if_pos hid] at p3;have hp := F8 hid;have hw := Gw y (Ck y.gone x.gone);have hv := Bl (Ck y.gone x.gone);have hm : ({ y with gone := Ck y.gone x.gone } : Ent) = Ae1 y x := rfl;have hcm := Dk (Ae1 y x);simp (disch := omega) only [Q6, List.length_map, he, C5, Bt, hp, E0, H3, hcy, go_sem];refine Aa (Zs _ _) ?_;simp (disch := omega) only [hw, hm, E0, hcy, hcm, hv, List.length_map, go_sem];refine ⟨(k + 1, out ++ [Ae1 y x], true), ⟨by show k + 1 ≤ _; omega, by show List.length (out ++ [Ae1 y x]) ≤ 2 * (k + 1); simp; omega, by rw [p3]; show _ = (out ++ [Ae1 y x]) ++ _; simp⟩, by show l.length - (k + 1) < l.length - k; omega, Ew 36 40 (by decide) rfl (Am ?_ ?_)⟩
     · (try simp only [De, Dd, Dc, Db, Da, C9, C8, C7]); simp (disch := omega) only [go_sem]
     · (try simp only [De, Dd, Dc, Db, Da, C9, C8, C7]); simp (disch := omega) only [go_sem]
       simp
   · rw [if_neg hid] at p3;have hp := F9 hid;by_cases hput : put = true
     · subst hput;rw [if_neg (by simp)] at p3;simp (disch := omega) only [Q6, List.length_map, he, C5, Bt, hp, E0, hcy, go_sem];refine ⟨(k + 1, out ++ [y], true), ⟨by show k + 1 ≤ _; omega, by show List.length (out ++ [y]) ≤ 2 * (k + 1); simp; omega, by rw [p3]; show _ = (out ++ [y]) ++ _; simp⟩, by show l.length - (k + 1) < l.length - k; omega, Ew 59 40 (by decide) rfl (Am ?_ ?_)⟩
       · (try simp only [De, Dd, Dc, Db, Da, C9, C8, C7]); simp (disch := omega) only [go_sem]
       · (try simp only [De, Dd, Dc, Db, Da, C9, C8, C7]); simp (disch := omega) only [go_sem]
         simp
     · obtain rfl : put = false := by simpa using hput
       simp (disch := omega) only [Q6, List.length_map, he, C5, Bt, hp, E0, hcy, go_sem];refine Aa (Ir _ _ _ _) ?_;by_cases hl : Hj x.id y.id = true
       · rw [if_pos ⟨rfl, hl⟩] at p3;have hl' : Bp x.id.1 x.id.2 y.id.1 y.id.2 = true := hl;simp (disch := omega) only [hl', List.length_map, he, E0, hcy, hcx, go_sem];refine ⟨by simp; omega, (k + 1, out ++ [x, y], true), ⟨by show k + 1 ≤ _; omega, by show List.length (out ++ [x, y]) ≤ 2 * (k + 1); simp; omega, by rw [p3]; show _ = (out ++ [x, y]) ++ _; simp⟩, by show l.length - (k + 1) < l.length - k; omega, Ew 59 40 (by decide) rfl (Am ?_ ?_)⟩
         · (try simp only [De, Dd, Dc, Db, Da, C9, C8, C7]); simp (disch := omega) only [go_sem]
         · (try simp only [De, Dd, Dc, Db, Da, C9, C8, C7]); simp (disch := omega) only [go_sem]
           simp
       · rw [if_neg fun q => hl q.2] at p3;have hl' : Bp x.id.1 x.id.2 y.id.1 y.id.2 = false := by simpa using hl
         simp (disch := omega) only [hl', List.length_map, he, E0, hcy, go_sem];refine ⟨(k + 1, out ++ [y], false), ⟨by show k + 1 ≤ _; omega, by show List.length (out ++ [y]) ≤ 2 * (k + 1); simp; omega, by rw [p3]; show _ = (out ++ [y]) ++ _; simp⟩, by show l.length - (k + 1) < l.length - k; omega, Ew 59 40 (by decide) rfl (Am ?_ ?_)⟩
         · (try simp only [De, Dd, Dc, Db, Da, C9, C8, C7]); simp (disch := omega) only [go_sem]
         · (try simp only [De, Dd, Dc, Db, Da, C9, C8, C7]); simp (disch := omega) only [go_sem]
           simp
 · obtain rfl : k = l.length := by omega
   rw [List.drop_length] at p3;simp only [Fd] at p3;by_cases hput : put = true
   · subst hput;simp only [if_true, List.append_nil] at p3;simp (disch := omega) only [Q6, List.length_map, p3, go_sem]
   · obtain rfl : put = false := by simpa using hput
     simp only [Bool.false_eq_true, if_false] at p3;simp (disch := omega) only [Q6, List.length_map, E0, hcx, go_sem];rw [p3]; simp
structure SlI where
 f : Bool
 z : Nat
 l : List Bi
def SlI.pv (g : SlI) : PV := .sl g.f g.z (g.l.map Ek)
def SlI.ok (g : SlI) : Prop := g.l = [] ∨ g.z = 2
def SlI.nil : SlI := ⟨true, 0, []⟩
structure Evt where
 rep : Int
 seq : Nat
 dep : Vc
 kind : Int
 orep : Int
 oseq : Nat
 drep : Int
 dseq : Nat
 name : List UInt8
 gone : SlI
 base : SlI
 off : Int
 data : List UInt8
 ward : Int
def Bo (e : Evt) : List PV := [.i .i64 e.rep, .i .u32 e.seq] ++ vE e.dep ++ [.i .i64 e.kind, .i .i64 e.orep, .i .u32 e.oseq, .i .i64 e.drep, .i .u32 e.dseq, .s e.name, e.gone.pv, e.base.pv, .i .i64 e.off, .s e.data, .i .i64 e.ward]
theorem Ac (e : Evt) : (Bo e).length = 21 := by simp [Bo, vE, Cy]
theorem D4 (e : Evt) (K : KK) : LoadK (some (Bo e)) 0 1 false K = K (.pv (.i .i64 e.rep)) [] := by
 simp only [LoadK, Ik, eq_iff_iff];exact ⟨fun h => h.2.2, fun h => ⟨by simp [Bo, vE, Cy], .inr trivial, h⟩⟩
theorem Gq (e : Evt) (K : KK) : LoadK (some (Bo e)) 1 1 false K = K (.pv (.i .u32 e.seq)) [] := by
 simp only [LoadK, Ik, eq_iff_iff];exact ⟨fun h => h.2.2, fun h => ⟨by simp [Bo, vE, Cy], .inr trivial, h⟩⟩
theorem Af (e : Evt) (K : KK) : LoadK (some (Bo e)) 10 1 false K = K (.pv (.i .i64 e.kind)) [] := by
 simp only [LoadK, Ik, eq_iff_iff];exact ⟨fun h => h.2.2, fun h => ⟨by simp [Bo, vE, Cy], .inr trivial, h⟩⟩
theorem Ea (e : Evt) (K : KK) : LoadK (some (Bo e)) 15 1 false K = K (.pv (.s e.name)) [] := by
 simp only [LoadK, Ik, eq_iff_iff];exact ⟨fun h => h.2.2, fun h => ⟨by simp [Bo, vE, Cy], .inr trivial, h⟩⟩
theorem Gk (e : Evt) (K : KK) : LoadK (some (Bo e)) 16 1 false K = K (.pv (e.gone.pv)) [] := by
 simp only [LoadK, Ik, eq_iff_iff];exact ⟨fun h => h.2.2, fun h => ⟨by simp [Bo, vE, Cy], .inr trivial, h⟩⟩
theorem Gj (e : Evt) (K : KK) : LoadK (some (Bo e)) 17 1 false K = K (.pv (e.base.pv)) [] := by
 simp only [LoadK, Ik, eq_iff_iff];exact ⟨fun h => h.2.2, fun h => ⟨by simp [Bo, vE, Cy], .inr trivial, h⟩⟩
theorem It (e : Evt) (K : KK) : LoadK (some (Bo e)) 18 1 false K = K (.pv (.i .i64 e.off)) [] := by
 simp only [LoadK, Ik, eq_iff_iff];exact ⟨fun h => h.2.2, fun h => ⟨by simp [Bo, vE, Cy], .inr trivial, h⟩⟩
theorem G2 (e : Evt) (K : KK) : LoadK (some (Bo e)) 19 1 false K = K (.pv (.s e.data)) [] := by
 simp only [LoadK, Ik, eq_iff_iff];exact ⟨fun h => h.2.2, fun h => ⟨by simp [Bo, vE, Cy], .inr trivial, h⟩⟩
theorem Z2 (e : Evt) (K : KK) : LoadK (some (Bo e)) 20 1 false K = K (.pv (.i .i64 e.ward)) [] := by
 simp only [LoadK, Ik, eq_iff_iff];exact ⟨fun h => h.2.2, fun h => ⟨by simp [Bo, vE, Cy], .inr trivial, h⟩⟩
theorem Bf (e : Evt) (K : KK) : LoadK (some (Bo e)) 0 2 true K = K (.vec 2 ([.i .i64 e.rep, .i .u32 e.seq])) [] := by
 simp only [LoadK, Ik, eq_iff_iff];exact ⟨fun h => h.2.2, fun h => ⟨by simp [Bo, vE, Cy], .inl trivial, h⟩⟩
theorem Fp (e : Evt) (K : KK) : LoadK (some (Bo e)) 2 8 true K = K (.vec 8 (vE e.dep)) [] := by
 simp only [LoadK, Ik, eq_iff_iff];exact ⟨fun h => h.2.2, fun h => ⟨by simp [Bo, vE, Cy], .inl trivial, h⟩⟩
theorem Ba (e : Evt) (K : KK) : LoadK (some (Bo e)) 11 2 true K = K (.vec 2 ([.i .i64 e.orep, .i .u32 e.oseq])) [] := by
 simp only [LoadK, Ik, eq_iff_iff];exact ⟨fun h => h.2.2, fun h => ⟨by simp [Bo, vE, Cy], .inl trivial, h⟩⟩
theorem C4 (e : Evt) (K : KK) : LoadK (some (Bo e)) 13 2 true K = K (.vec 2 ([.i .i64 e.drep, .i .u32 e.dseq])) [] := by
 simp only [LoadK, Ik, eq_iff_iff];exact ⟨fun h => h.2.2, fun h => ⟨by simp [Bo, vE, Cy], .inl trivial, h⟩⟩
theorem B0 (e : Evt) (K : KK) : LoadK (some (Bo e)) 0 21 true K = K (.vec 21 (Bo e)) [] := Vj (Ac e) K
theorem Hi (e : Evt) {j : Nat} (h : j < 8) (K : KK) : LoadK (some (Bo e)) (2 + j) 1 false K = K (.pv (.i .u32 (e.dep j))) [] := by
 have : j = 0 ∨ j = 1 ∨ j = 2 ∨ j = 3 ∨ j = 4 ∨ j = 5 ∨ j = 6 ∨ j = 7 := by omega
 simp only [LoadK, Ik, eq_iff_iff];rcases this with rfl | rfl | rfl | rfl | rfl | rfl | rfl | rfl <;> exact ⟨fun h => h.2.2, fun h => ⟨by simp [Bo, vE, Cy], .inr trivial, h⟩⟩
theorem Axg (e : Evt) (r : Int) (q : Nat) : splice (Bo e) 11 [.i .i64 r, .i .u32 q] = Bo { e with orep := r, oseq := q } := rfl
theorem Axh (e : Evt) (r : Int) (q : Nat) : splice (Bo e) 13 [.i .i64 r, .i .u32 q] = Bo { e with drep := r, dseq := q } := rfl
theorem Jp (e : Evt) (s : List UInt8) : splice (Bo e) 15 [.s s] = Bo { e with name := s } := rfl
theorem Ast (e : Evt) (f : Bool) (z : Nat) (l : List Bi) : splice (Bo e) 16 [.sl f z (l.map Ek)] = Bo { e with gone := ⟨f, z, l⟩ } := rfl
theorem Asu (e : Evt) (f : Bool) (z : Nat) (l : List Bi) : splice (Bo e) 17 [.sl f z (l.map Ek)] = Bo { e with base := ⟨f, z, l⟩ } := rfl
theorem Mh (e : Evt) (n : Int) : splice (Bo e) 18 [.i .i64 n] = Bo { e with off := n } := rfl
theorem Jr (e : Evt) (s : List UInt8) : splice (Bo e) 19 [.s s] = Bo { e with data := s } := rfl
theorem Jn (e : Evt) (n : Int) : splice (Bo e) 20 [.i .i64 n] = Bo { e with ward := n } := rfl
theorem Jo (e : Evt) : splice (Bo e) 11 [.i .i64 0, .i .u32 0] = Bo { e with orep := 0, oseq := 0 } := Axg e 0 0
theorem Jq (e : Evt) : splice (Bo e) 13 [.i .i64 0, .i .u32 0] = Bo { e with drep := 0, dseq := 0 } := Axh e 0 0
theorem Hw (e : Evt) : splice (Bo e) 16 [.sl true 0 []] = Bo { e with gone := .nil } := Ast e true 0 []
theorem Hx (e : Evt) : splice (Bo e) 17 [.sl true 0 []] = Bo { e with base := .nil } := Asu e true 0 []
theorem Ey (e e' : Evt) : splice (Bo e) 0 (Bo e') = Bo e' := rfl
attribute [go_sem] D4 Gq Af Ea Gk Gj It G2 Z2 Bf Fp Ba C4 B0 Ac SlI.pv E7 List.length_map
def Ce (e : Evt) : Evt :=
 if e.kind = 1 ∨ e.kind = 2 then { e with drep := 0, dseq := 0, name := [] }
 else if e.kind = 3 then { e with orep := 0, oseq := 0, base := .nil, off := 0, data := [] }
 else if e.kind = 4 then { e with orep := 0, oseq := 0, base := .nil, off := 0 }
 else if e.kind = 5 then { e with orep := 0, oseq := 0, base := .nil, data := [] }
 else if e.kind = 6 then { e with orep := 0, oseq := 0, gone := .nil }
 else if e.kind = 7 then { e with orep := 0, oseq := 0, gone := .nil, drep := 0, dseq := 0, name := [] }
 else if e.kind = 8 then { e with ward := 0 }
 else e
set_option maxHeartbeats 4000000 in
theorem Ayu (e : Evt) {h d} : FunOk Tryz.prog 69 [.vec 21 (Bo e)] h d (.vec 21 (Bo (Ce e))) [] := by
 refine Au Ae fn69 (by simp) rfl rfl fun F => ?_;have hl := Ac e;by_cases h1 : e.kind = 1
 · have eb : Ce e = { e with drep := 0, dseq := 0, name := [] } := by simp [Ce, h1]
   simp (disch := omega) only [ir69, Af, h1, Jq, Jp, Jo, Hx, Hw, Mh, Jr, Jn, B0, Ac, eb, go_sem]
 by_cases h2 : e.kind = 2
 · have eb : Ce e = { e with drep := 0, dseq := 0, name := [] } := by simp [Ce, h2]
   simp (disch := omega) only [ir69, Af, h2, Jq, Jp, Jo, Hx, Hw, Mh, Jr, Jn, B0, Ac, eb, go_sem]
 by_cases h3 : e.kind = 3
 · have eb : Ce e = { e with orep := 0, oseq := 0, base := .nil, off := 0, data := [] } := by simp [Ce, h3]
   simp (disch := omega) only [ir69, Af, h3, Jq, Jp, Jo, Hx, Hw, Mh, Jr, Jn, B0, Ac, eb, go_sem]
 by_cases h4 : e.kind = 4
 · have eb : Ce e = { e with orep := 0, oseq := 0, base := .nil, off := 0 } := by simp [Ce, h4]
   simp (disch := omega) only [ir69, Af, h4, Jq, Jp, Jo, Hx, Hw, Mh, Jr, Jn, B0, Ac, eb, go_sem]
 by_cases h5 : e.kind = 5
 · have eb : Ce e = { e with orep := 0, oseq := 0, base := .nil, data := [] } := by simp [Ce, h5]
   simp (disch := omega) only [ir69, Af, h5, Jq, Jp, Jo, Hx, Hw, Mh, Jr, Jn, B0, Ac, eb, go_sem]
 by_cases h6 : e.kind = 6
 · have eb : Ce e = { e with orep := 0, oseq := 0, gone := .nil } := by simp [Ce, h6]
   simp (disch := omega) only [ir69, Af, h6, Jq, Jp, Jo, Hx, Hw, Mh, Jr, Jn, B0, Ac, eb, go_sem]
 by_cases h7 : e.kind = 7
 · have eb : Ce e = { e with orep := 0, oseq := 0, gone := .nil, drep := 0, dseq := 0, name := [] } := by simp [Ce, h7]
   simp (disch := omega) only [ir69, Af, h7, Jq, Jp, Jo, Hx, Hw, Mh, Jr, Jn, B0, Ac, eb, go_sem]
 by_cases h8 : e.kind = 8
 · have eb : Ce e = { e with ward := 0 } := by simp [Ce, h8]
   simp (disch := omega) only [ir69, Af, h8, Jq, Jp, Jo, Hx, Hw, Mh, Jr, Jn, B0, Ac, eb, go_sem]
 have eb : Ce e = e := by simp [Ce, h1, h2, h3, h4, h5, h6, h7, h8]
 simp (disch := omega) only [ir69, Af, h1, h2, h3, h4, h5, h6, h7, h8, B0, Ac, eb, go_sem]
end Go.Proofs.YthhomcfimdkfhaaGreat.Fw
namespace Go.Proofs.YthhomcfimdkfhaaGreat.Fw
open Go.RowKit Go.Proofs
def Bx (r : Int) (q : Nat) : Bool := decide (r = 0 ∧ q = 0)
theorem Rl (r : Int) (q : Nat) (K : KK) : LoadK (some [PV.i .i64 r, PV.i .u32 q]) 0 1 false K = K (.pv (.i .i64 r)) [] := Z1 ..
theorem Rk (r : Int) (q : Nat) (K : KK) : LoadK (some [PV.i .i64 r, PV.i .u32 q]) 1 1 false K = K (.pv (.i .u32 q)) [] := by
 rw [Ahf]; exact Z1 ..
theorem Az (r : Int) (q : Nat) {h d} : FunOk Tryz.prog 61 [.vec 2 [.i .i64 r, .i .u32 q]] h d (.pv (.b (Bx r q))) [] := by
 refine Au Ae fn61 (by simp) rfl rfl fun F => ?_;by_cases h1 : r = 0
 · by_cases h2 : q = 0
   · have e : Bx r q = true := decide_eq_true ⟨h1, h2⟩;simp (disch := omega) only [ir61, Rl, Rk, h1, h2, e, Int.natCast_zero, go_sem];rw [← h1, ← h2, e]
   · have e : Bx r q = false := decide_eq_false (by omega);have h3 : ¬ (q : Int) = 0 := by omega
     simp (disch := omega) only [ir61, Rl, Rk, h3, e, h1, go_sem];rw [← h1, e]
 · have e : Bx r q = false := decide_eq_false (by omega);simp (disch := omega) only [ir61, Rl, Rk, h1, e, go_sem]
theorem Ai (r : Int) (q : Nat) : Ed [K1.int .i64, K1.int .u32] [.i .i64 r, .i .u32 q] = True := eq_true rfl
theorem Ap : Ed [K1.int .i64, K1.int .u32] [.i .i64 0, .i .u32 0] = True := eq_true rfl
theorem Ao (r : Int) (q : Nat) : Xg [.i .i64 r, .i .u32 q] [.i .i64 0, .i .u32 0] = Bx r q := by
 by_cases h : r = 0 ∧ q = 0
 · rw [show Bx r q = true from decide_eq_true h];exact Jw (q' := 0) h
 · rw [show Bx r q = false from decide_eq_false h];exact Ht (q' := 0) h
def Ct (e : Evt) : Bool := Bx e.drep e.dseq || Bj e.dep e.drep e.dseq
theorem Zq (e : Evt) {h d} : FunOk Tryz.prog 71 [.vec 21 (Bo e)] h d (.pv (.b (Ct e))) [] := by
 refine Au Ae fn71 (by simp) rfl rfl fun F => ?_;have hl := Ac e;cases hz : Bx e.drep e.dseq with
 | true =>
   have eb : Ct e = true := by simp [Ct, hz]
   simp (disch := omega) only [ir71, C4, Ac, Ai, Ap, Ao, hz, eb, go_sem]
 | false =>
   have eb : Ct e = Bj e.dep e.drep e.dseq := by simp [Ct, hz]
   simp (disch := omega) only [ir71, C4, Fp, Ac, Ai, Ap, Ao, hz, eb, go_sem];refine Aa (Jc _ _ _) ?_;simp (disch := omega) only [go_sem]
def Cl (n : Int) : Bool := decide (0 ≤ n ∧ n ≤ 200)
theorem U5 (n : Int) {h d} : FunOk Tryz.prog 70 [.pv (.i .i64 n)] h d (.pv (.b (Cl n))) [] := by
 refine Au Ae fn70 (by simp) rfl rfl fun F => ?_;by_cases h1 : 0 ≤ n
 · have e : Cl n = decide (n ≤ 200) := decide_eq_decide.2 (by omega);simp (disch := omega) only [ir70, h1, e, go_sem]
 · have e : Cl n = false := decide_eq_false (by omega);simp (disch := omega) only [ir70, h1, e, go_sem]
def Art (a : Vc) (l : List Bi) : Prop := ∀ i, (h : i < l.length) → Bj a l[i].1 l[i].2 = true ∧ (0 < i → Bp l[i - 1].1 l[i - 1].2 l[i].1 l[i].2 = true)
open Classical in
noncomputable def Gy (a : Vc) (l : List Bi) : Bool := decide (Art a l)
theorem Agv {a : Vc} {l : List Bi} (h : Art a l) : Gy a l = true := by simp [Gy, h]
theorem Tc {a : Vc} {l : List Bi} (h : ¬ Art a l) : Gy a l = false := by simp [Gy, h]
theorem Ez (x : Bi) (K : KK) : LoadK (some (Ek x)) 0 2 true K = K (.vec 2 [.i .i64 x.1, .i .u32 x.2]) [] := Vj (by rfl) K
def Pq (f : Bool) (z : Nat) (l : List Bi) (a : Vc) (k : Nat) : FS := mk [(15, .pv (.i .i64 k)), (14, .pv (.i .i64 l.length)), (13, .pv (.sl f z (l.map Ek))), (0, .pv (.sl f z (l.map Ek))), (5, .p 5 0)] [(5, some (.var (.vec 8 (vE a))))]
noncomputable def Eb (l : List Bi) (most : Int) (a : Vc) : Bool := decide ((l.length : Int) ≤ most) && Gy a l
theorem Xe {a : Vc} {l : List Bi} {k : Nat} (hk : ∀ i, (h : i < l.length) → i < k → Bj a l[i].1 l[i].2 = true ∧ (0 < i → Bp l[i - 1].1 l[i - 1].2 l[i].1 l[i].2 = true)) (hlt : k < l.length)
 (h1 : Bj a l[k].1 l[k].2 = true) (h2 : 0 < k → Bp l[k - 1].1 l[k - 1].2 l[k].1 l[k].2 = true) : ∀ i, (h : i < l.length) → i < k + 1 → Bj a l[i].1 l[i].2 = true ∧ (0 < i → Bp l[i - 1].1 l[i - 1].2 l[i].1 l[i].2 = true) := fun i h hi => by
 by_cases e : i = k
 · subst e; exact ⟨h1, h2⟩
 · exact hk i h (by omega)
set_option maxHeartbeats 2000000 in
theorem Ab6 {f : Bool} {z : Nat} {l : List Bi} {most : Int} {a : Vc} {h d} (hz : l = [] ∨ z = 2) (hn : l.length ≤ 1000) :
 FunOk Tryz.prog 73 [.pv (.sl f z (l.map Ek)), .pv (.i .i64 most), .vec 8 (vE a)] h d (.pv (.b (Eb l most a))) [] := by
 refine Au Ae fn73 (by simp) rfl rfl fun F => ?_;by_cases hm : most < (l.length : Int)
 · have eb : Eb l most a = false := by
    have : ¬ (l.length : Int) ≤ most := by omega
    simp [Eb, this]
   simp (disch := omega) only [ir73, List.length_map, hm, eb, go_sem]
 have eb : Eb l most a = Gy a l := by
  have : (l.length : Int) ≤ most := by omega
  simp [Eb, this]
 rw [eb];simp (disch := omega) only [ir73, List.length_map, hm, go_sem];refine A1 Ae (Pq f z l a) (fun k => k ≤ l.length ∧ ∀ i, (h : i < l.length) → i < k → Bj a l[i].1 l[i].2 = true ∧ (0 < i → Bp l[i - 1].1 l[i - 1].2 l[i].1 l[i].2 = true)) (fun k => l.length - k) 0 (by simp) (Am ?_ ?_) fun k hk => ?_
 · simp (disch := omega) only [List.length_map, go_sem]
 · simp (disch := omega) only [go_sem]
 obtain ⟨hk1, hk2⟩ := hk;by_cases hlt : k < l.length
 · have hz2 : z = 2 := hz.resolve_left fun e => by subst e; simp at hlt
   subst hz2;have he : (l.map Ek)[k]? = some (Ek l[k]) := by simp [hlt]
   have hst := Xe hk2 hlt;by_cases hh : Bj a l[k].1 l[k].2 = true
   · by_cases h0 : k = 0
     · subst h0;have e0 : (l.map Ek)[0]? = some (Ek l[0]) := he;simp (disch := omega) only [Pq, List.length_map, he, e0, Ez, E7, Int.natCast_zero, go_sem];refine Aa (Jc _ _ _) ?_;simp (disch := omega) only [hh, Int.natCast_zero, go_sem];refine Ad (x := (0 : Nat)) (1 : Nat) _ _ rfl ⟨by omega, hst hh (by omega)⟩ (by omega) ?_ ?_
       · simp (disch := omega) only [go_sem]
       · simp (disch := omega) only [go_sem]
     · have hk' : k - 1 < l.length := by omega
       have he' : (l.map Ek)[k - 1]? = some (Ek l[k - 1]) := by simp [hk']
       have ek : ((k : Int) - 1).toNat = k - 1 := by omega
       have hpos : (0 : Int) < k := by omega
       by_cases hlt2 : Bp l[k - 1].1 l[k - 1].2 l[k].1 l[k].2 = true
       · simp (disch := omega) only [Pq, List.length_map, he, he', ek, hpos, Ez, E7, go_sem];refine Aa (Jc _ _ _) ?_;simp (disch := omega) only [hh, he, he', ek, hpos, Ez, List.length_map, go_sem];refine Aa (Mo _ _ _ _) ?_;simp (disch := omega) only [hlt2, go_sem];refine Ad (k + 1) _ _ rfl ⟨by omega, hst hh fun _ => hlt2⟩ (by omega) ?_ ?_
         · simp (disch := omega) only [go_sem]
         · simp (disch := omega) only [go_sem]
       · have hlt3 : Bp l[k - 1].1 l[k - 1].2 l[k].1 l[k].2 = false := by simpa using hlt2
         have er := Tc (a := a) (l := l) fun h => hlt2 ((h k hlt).2 (by omega));simp (disch := omega) only [Pq, List.length_map, he, he', ek, hpos, Ez, E7, go_sem];refine Aa (Jc _ _ _) ?_;simp (disch := omega) only [hh, he, he', ek, hpos, Ez, List.length_map, go_sem];refine Aa (Mo _ _ _ _) ?_;simp (disch := omega) only [hlt3, er, Pq, go_sem]
   · have hh' : Bj a l[k].1 l[k].2 = false := by simpa using hh
     have er := Tc (a := a) (l := l) fun h => hh (h k hlt).1;simp (disch := omega) only [Pq, List.length_map, he, Ez, E7, go_sem];refine Aa (Jc _ _ _) ?_;simp (disch := omega) only [hh', er, Pq, go_sem]
 · obtain rfl : k = l.length := by omega
   have er := Agv (a := a) (l := l) fun i h => hk2 i h h;simp (disch := omega) only [Pq, List.length_map, er, Pq, go_sem]
def K6 (f : Bool) (z : Nat) (l : List Bi) (a : Vc) (k : Nat) : FS := mk [(5, .pv (.i .i64 k)), (0, .pv (.sl f z (l.map Ek))), (3, .p 3 0)] [(3, some (.var (.vec 8 (vE a))))]
set_option maxHeartbeats 2000000 in
theorem Anm {f : Bool} {z : Nat} {l : List Bi} {a : Vc} {h d} (hz : l = [] ∨ z = 2) (hn : l.length ≤ 1000) :
 FunOk Tryz.prog 62 [.pv (.sl f z (l.map Ek)), .vec 8 (vE a)] h d (.pv (.b (Gy a l))) [] := by
 refine Au Ae fn62 (by simp) rfl rfl fun F => ?_;simp (disch := omega) only [ir62, List.length_map, go_sem];refine A1 Ae (K6 f z l a) (fun k => k ≤ l.length ∧ ∀ i, (h : i < l.length) → i < k → Bj a l[i].1 l[i].2 = true ∧ (0 < i → Bp l[i - 1].1 l[i - 1].2 l[i].1 l[i].2 = true)) (fun k => l.length - k) 0 (by simp) (Am ?_ ?_) fun k hk => ?_
 · simp (disch := omega) only [go_sem]
 · simp (disch := omega) only [go_sem]
 obtain ⟨hk1, hk2⟩ := hk;by_cases hlt : k < l.length
 · have hz2 : z = 2 := hz.resolve_left fun e => by subst e; simp at hlt
   subst hz2;have he : (l.map Ek)[k]? = some (Ek l[k]) := by simp [hlt]
   have hst := Xe hk2 hlt;by_cases hh : Bj a l[k].1 l[k].2 = true
   · by_cases h0 : k = 0
     · subst h0;have e0 : (l.map Ek)[0]? = some (Ek l[0]) := he;simp (disch := omega) only [K6, List.length_map, he, e0, Ez, E7, Int.natCast_zero, go_sem];refine Aa (Oz _ _ _) ?_;simp (disch := omega) only [hh, Int.natCast_zero, go_sem];refine Ad (x := (0 : Nat)) (1 : Nat) _ _ rfl ⟨by omega, hst hh (by omega)⟩ (by omega) ?_ ?_
       · simp (disch := omega) only [go_sem]
       · simp (disch := omega) only [go_sem]
     · have hk' : k - 1 < l.length := by omega
       have he' : (l.map Ek)[k - 1]? = some (Ek l[k - 1]) := by simp [hk']
       have ek : ((k : Int) - 1).toNat = k - 1 := by omega
       have hpos : (0 : Int) < k := by omega
       by_cases hlt2 : Bp l[k - 1].1 l[k - 1].2 l[k].1 l[k].2 = true
       · simp (disch := omega) only [K6, List.length_map, he, he', ek, hpos, Ez, E7, go_sem];refine Aa (Oz _ _ _) ?_;simp (disch := omega) only [hh, he, he', ek, hpos, Ez, List.length_map, go_sem];refine Aa (Ir _ _ _ _) ?_;simp (disch := omega) only [hlt2, go_sem];refine Ad (k + 1) _ _ rfl ⟨by omega, hst hh fun _ => hlt2⟩ (by omega) ?_ ?_
         · simp (disch := omega) only [go_sem]
         · simp (disch := omega) only [go_sem]
       · have hlt3 : Bp l[k - 1].1 l[k - 1].2 l[k].1 l[k].2 = false := by simpa using hlt2
         have er := Tc (a := a) (l := l) fun h => hlt2 ((h k hlt).2 (by omega));simp (disch := omega) only [K6, List.length_map, he, he', ek, hpos, Ez, E7, go_sem];refine Aa (Oz _ _ _) ?_;simp (disch := omega) only [hh, he, he', ek, hpos, Ez, List.length_map, go_sem];refine Aa (Ir _ _ _ _) ?_;simp (disch := omega) only [hlt3, er, K6, go_sem]
   · have hh' : Bj a l[k].1 l[k].2 = false := by simpa using hh
     have er := Tc (a := a) (l := l) fun h => hh (h k hlt).1;simp (disch := omega) only [K6, List.length_map, he, Ez, E7, go_sem];refine Aa (Oz _ _ _) ?_;simp (disch := omega) only [hh', er, K6, go_sem]
 · obtain rfl : k = l.length := by omega
   have er := Agv (a := a) (l := l) fun i h => hk2 i h h;simp (disch := omega) only [K6, List.length_map, er, K6, go_sem]
def Ak (e : Evt) (o d g b f t w : Bool) : Bool := (o || Bx e.orep e.oseq) && ((d || (Bx e.drep e.dseq && decide (e.name = []))) && ((g || decide ((e.gone.l.length : Int) = 0)) && ((b || decide ((e.base.l.length : Int) = 0)) && ((f || decide (e.off = 0)) && ((t || decide (e.data = [])) && (w || decide (e.ward = 0)))))))
set_option maxHeartbeats 4000000 in
theorem Ag5 (e : Evt) {h d} : FunOk Tryz.prog 64 [.vec 21 (Bo e), .pv (.b false), .pv (.b true), .pv (.b false), .pv (.b false), .pv (.b false), .pv (.b false), .pv (.b false)] h d (.pv (.b (Ak e false true false false false false false))) [] := by
 refine Au Ae fn64 (by simp) rfl rfl fun F => ?_;have hl := Ac e;by_cases hz1' : Bx e.orep e.oseq = false
 · have hz1 := hz1';have eb : Ak e false true false false false false false = false := by simp only [Ak, hz1, go_sem, Bool.true_or]
   simp (disch := omega) only [ir64, Ac, hz1, eb, go_sem];refine Aa (Az _ _) ?_;simp (disch := omega) only [Ac, hz1, eb, go_sem]
 have hz1 : Bx e.orep e.oseq = true := by simpa using hz1'
 by_cases hgo : (e.gone.l.length : Int) = 0;rotate_left
 · have eb : Ak e false true false false false false false = false := by simp only [Ak, hz1, hgo, go_sem, Bool.true_or]
   simp (disch := omega) only [ir64, Ac, hz1, hgo, eb, go_sem];refine Aa (Az _ _) ?_;simp (disch := omega) only [Ac, hz1, hgo, eb, go_sem]
 by_cases hba : (e.base.l.length : Int) = 0;rotate_left
 · have eb : Ak e false true false false false false false = false := by simp only [Ak, hz1, hgo, hba, go_sem, Bool.true_or]
   simp (disch := omega) only [ir64, Ac, hz1, hgo, hba, eb, go_sem];refine Aa (Az _ _) ?_;simp (disch := omega) only [Ac, hz1, hgo, hba, eb, go_sem]
 by_cases hof : e.off = 0;rotate_left
 · have eb : Ak e false true false false false false false = false := by simp only [Ak, hz1, hgo, hba, hof, go_sem, Bool.true_or]
   simp (disch := omega) only [ir64, Ac, hz1, hgo, hba, hof, eb, go_sem];refine Aa (Az _ _) ?_;simp (disch := omega) only [Ac, hz1, hgo, hba, hof, eb, go_sem]
 by_cases hda : e.data = [];rotate_left
 · have eb : Ak e false true false false false false false = false := by simp only [Ak, hz1, hgo, hba, hof, hda, go_sem, Bool.true_or]
   simp (disch := omega) only [ir64, Ac, hz1, hgo, hba, hof, hda, eb, go_sem];refine Aa (Az _ _) ?_;simp (disch := omega) only [Ac, hz1, hgo, hba, hof, hda, eb, go_sem]
 by_cases hwa : e.ward = 0;rotate_left
 · have eb : Ak e false true false false false false false = false := by simp only [Ak, hz1, hgo, hba, hof, hda, hwa, go_sem, Bool.true_or]
   simp (disch := omega) only [ir64, Ac, hz1, hgo, hba, hof, hda, hwa, eb, go_sem];refine Aa (Az _ _) ?_;simp (disch := omega) only [Ac, hz1, hgo, hba, hof, hda, hwa, eb, go_sem]
 have eb : Ak e false true false false false false false = true := by simp only [Ak, hz1, hgo, hba, hof, hda, hwa, go_sem, Bool.true_or]
 simp (disch := omega) only [ir64, Ac, hz1, hgo, hba, hof, hda, hwa, eb, go_sem];refine Aa (Az _ _) ?_;simp (disch := omega) only [Ac, hz1, hgo, hba, hof, hda, hwa, eb, go_sem]
set_option maxHeartbeats 4000000 in
theorem Aev (e : Evt) {h d} : FunOk Tryz.prog 64 [.vec 21 (Bo e), .pv (.b true), .pv (.b false), .pv (.b false), .pv (.b true), .pv (.b true), .pv (.b true), .pv (.b false)] h d (.pv (.b (Ak e true false false true true true false))) [] := by
 refine Au Ae fn64 (by simp) rfl rfl fun F => ?_;have hl := Ac e;by_cases hz2' : Bx e.drep e.dseq = false
 · have hz2 := hz2';have eb : Ak e true false false true true true false = false := by simp only [Ak, hz2, go_sem, Bool.true_or]
   simp (disch := omega) only [ir64, Ac, hz2, eb, go_sem];refine Aa (Az _ _) ?_;simp (disch := omega) only [Ac, hz2, eb, go_sem]
 have hz2 : Bx e.drep e.dseq = true := by simpa using hz2'
 by_cases hnm : e.name = [];rotate_left
 · have eb : Ak e true false false true true true false = false := by simp only [Ak, hz2, hnm, go_sem, Bool.true_or]
   simp (disch := omega) only [ir64, Ac, hz2, hnm, eb, go_sem];refine Aa (Az _ _) ?_;simp (disch := omega) only [Ac, hz2, hnm, eb, go_sem]
 by_cases hgo : (e.gone.l.length : Int) = 0;rotate_left
 · have eb : Ak e true false false true true true false = false := by simp only [Ak, hz2, hnm, hgo, go_sem, Bool.true_or]
   simp (disch := omega) only [ir64, Ac, hz2, hnm, hgo, eb, go_sem];refine Aa (Az _ _) ?_;simp (disch := omega) only [Ac, hz2, hnm, hgo, eb, go_sem]
 by_cases hwa : e.ward = 0;rotate_left
 · have eb : Ak e true false false true true true false = false := by simp only [Ak, hz2, hnm, hgo, hwa, go_sem, Bool.true_or]
   simp (disch := omega) only [ir64, Ac, hz2, hnm, hgo, hwa, eb, go_sem];refine Aa (Az _ _) ?_;simp (disch := omega) only [Ac, hz2, hnm, hgo, hwa, eb, go_sem]
 have eb : Ak e true false false true true true false = true := by simp only [Ak, hz2, hnm, hgo, hwa, go_sem, Bool.true_or]
 simp (disch := omega) only [ir64, Ac, hz2, hnm, hgo, hwa, eb, go_sem];refine Aa (Az _ _) ?_;simp (disch := omega) only [Ac, hz2, hnm, hgo, hwa, eb, go_sem]
set_option maxHeartbeats 4000000 in
theorem Ai4 (e : Evt) {h d} : FunOk Tryz.prog 64 [.vec 21 (Bo e), .pv (.b true), .pv (.b false), .pv (.b false), .pv (.b true), .pv (.b true), .pv (.b false), .pv (.b false)] h d (.pv (.b (Ak e true false false true true false false))) [] := by
 refine Au Ae fn64 (by simp) rfl rfl fun F => ?_;have hl := Ac e;by_cases hz2' : Bx e.drep e.dseq = false
 · have hz2 := hz2';have eb : Ak e true false false true true false false = false := by simp only [Ak, hz2, go_sem, Bool.true_or]
   simp (disch := omega) only [ir64, Ac, hz2, eb, go_sem];refine Aa (Az _ _) ?_;simp (disch := omega) only [Ac, hz2, eb, go_sem]
 have hz2 : Bx e.drep e.dseq = true := by simpa using hz2'
 by_cases hnm : e.name = [];rotate_left
 · have eb : Ak e true false false true true false false = false := by simp only [Ak, hz2, hnm, go_sem, Bool.true_or]
   simp (disch := omega) only [ir64, Ac, hz2, hnm, eb, go_sem];refine Aa (Az _ _) ?_;simp (disch := omega) only [Ac, hz2, hnm, eb, go_sem]
 by_cases hgo : (e.gone.l.length : Int) = 0;rotate_left
 · have eb : Ak e true false false true true false false = false := by simp only [Ak, hz2, hnm, hgo, go_sem, Bool.true_or]
   simp (disch := omega) only [ir64, Ac, hz2, hnm, hgo, eb, go_sem];refine Aa (Az _ _) ?_;simp (disch := omega) only [Ac, hz2, hnm, hgo, eb, go_sem]
 by_cases hda : e.data = [];rotate_left
 · have eb : Ak e true false false true true false false = false := by simp only [Ak, hz2, hnm, hgo, hda, go_sem, Bool.true_or]
   simp (disch := omega) only [ir64, Ac, hz2, hnm, hgo, hda, eb, go_sem];refine Aa (Az _ _) ?_;simp (disch := omega) only [Ac, hz2, hnm, hgo, hda, eb, go_sem]
 by_cases hwa : e.ward = 0;rotate_left
 · have eb : Ak e true false false true true false false = false := by simp only [Ak, hz2, hnm, hgo, hda, hwa, go_sem, Bool.true_or]
   simp (disch := omega) only [ir64, Ac, hz2, hnm, hgo, hda, hwa, eb, go_sem];refine Aa (Az _ _) ?_;simp (disch := omega) only [Ac, hz2, hnm, hgo, hda, hwa, eb, go_sem]
 have eb : Ak e true false false true true false false = true := by simp only [Ak, hz2, hnm, hgo, hda, hwa, go_sem, Bool.true_or]
 simp (disch := omega) only [ir64, Ac, hz2, hnm, hgo, hda, hwa, eb, go_sem];refine Aa (Az _ _) ?_;simp (disch := omega) only [Ac, hz2, hnm, hgo, hda, hwa, eb, go_sem]
set_option maxHeartbeats 4000000 in
theorem Ai5 (e : Evt) {h d} : FunOk Tryz.prog 64 [.vec 21 (Bo e), .pv (.b true), .pv (.b false), .pv (.b false), .pv (.b true), .pv (.b false), .pv (.b true), .pv (.b false)] h d (.pv (.b (Ak e true false false true false true false))) [] := by
 refine Au Ae fn64 (by simp) rfl rfl fun F => ?_;have hl := Ac e;by_cases hz2' : Bx e.drep e.dseq = false
 · have hz2 := hz2';have eb : Ak e true false false true false true false = false := by simp only [Ak, hz2, go_sem, Bool.true_or]
   simp (disch := omega) only [ir64, Ac, hz2, eb, go_sem];refine Aa (Az _ _) ?_;simp (disch := omega) only [Ac, hz2, eb, go_sem]
 have hz2 : Bx e.drep e.dseq = true := by simpa using hz2'
 by_cases hnm : e.name = [];rotate_left
 · have eb : Ak e true false false true false true false = false := by simp only [Ak, hz2, hnm, go_sem, Bool.true_or]
   simp (disch := omega) only [ir64, Ac, hz2, hnm, eb, go_sem];refine Aa (Az _ _) ?_;simp (disch := omega) only [Ac, hz2, hnm, eb, go_sem]
 by_cases hgo : (e.gone.l.length : Int) = 0;rotate_left
 · have eb : Ak e true false false true false true false = false := by simp only [Ak, hz2, hnm, hgo, go_sem, Bool.true_or]
   simp (disch := omega) only [ir64, Ac, hz2, hnm, hgo, eb, go_sem];refine Aa (Az _ _) ?_;simp (disch := omega) only [Ac, hz2, hnm, hgo, eb, go_sem]
 by_cases hof : e.off = 0;rotate_left
 · have eb : Ak e true false false true false true false = false := by simp only [Ak, hz2, hnm, hgo, hof, go_sem, Bool.true_or]
   simp (disch := omega) only [ir64, Ac, hz2, hnm, hgo, hof, eb, go_sem];refine Aa (Az _ _) ?_;simp (disch := omega) only [Ac, hz2, hnm, hgo, hof, eb, go_sem]
 by_cases hwa : e.ward = 0;rotate_left
 · have eb : Ak e true false false true false true false = false := by simp only [Ak, hz2, hnm, hgo, hof, hwa, go_sem, Bool.true_or]
   simp (disch := omega) only [ir64, Ac, hz2, hnm, hgo, hof, hwa, eb, go_sem];refine Aa (Az _ _) ?_;simp (disch := omega) only [Ac, hz2, hnm, hgo, hof, hwa, eb, go_sem]
 have eb : Ak e true false false true false true false = true := by simp only [Ak, hz2, hnm, hgo, hof, hwa, go_sem, Bool.true_or]
 simp (disch := omega) only [ir64, Ac, hz2, hnm, hgo, hof, hwa, eb, go_sem];refine Aa (Az _ _) ?_;simp (disch := omega) only [Ac, hz2, hnm, hgo, hof, hwa, eb, go_sem]
set_option maxHeartbeats 4000000 in
theorem Ano (e : Evt) {h d} : FunOk Tryz.prog 64 [.vec 21 (Bo e), .pv (.b true), .pv (.b false), .pv (.b true), .pv (.b false), .pv (.b false), .pv (.b false), .pv (.b false)] h d (.pv (.b (Ak e true false true false false false false))) [] := by
 refine Au Ae fn64 (by simp) rfl rfl fun F => ?_;have hl := Ac e;by_cases hz2' : Bx e.drep e.dseq = false
 · have hz2 := hz2';have eb : Ak e true false true false false false false = false := by simp only [Ak, hz2, go_sem, Bool.true_or]
   simp (disch := omega) only [ir64, Ac, hz2, eb, go_sem];refine Aa (Az _ _) ?_;simp (disch := omega) only [Ac, hz2, eb, go_sem]
 have hz2 : Bx e.drep e.dseq = true := by simpa using hz2'
 by_cases hnm : e.name = [];rotate_left
 · have eb : Ak e true false true false false false false = false := by simp only [Ak, hz2, hnm, go_sem, Bool.true_or]
   simp (disch := omega) only [ir64, Ac, hz2, hnm, eb, go_sem];refine Aa (Az _ _) ?_;simp (disch := omega) only [Ac, hz2, hnm, eb, go_sem]
 by_cases hba : (e.base.l.length : Int) = 0;rotate_left
 · have eb : Ak e true false true false false false false = false := by simp only [Ak, hz2, hnm, hba, go_sem, Bool.true_or]
   simp (disch := omega) only [ir64, Ac, hz2, hnm, hba, eb, go_sem];refine Aa (Az _ _) ?_;simp (disch := omega) only [Ac, hz2, hnm, hba, eb, go_sem]
 by_cases hof : e.off = 0;rotate_left
 · have eb : Ak e true false true false false false false = false := by simp only [Ak, hz2, hnm, hba, hof, go_sem, Bool.true_or]
   simp (disch := omega) only [ir64, Ac, hz2, hnm, hba, hof, eb, go_sem];refine Aa (Az _ _) ?_;simp (disch := omega) only [Ac, hz2, hnm, hba, hof, eb, go_sem]
 by_cases hda : e.data = [];rotate_left
 · have eb : Ak e true false true false false false false = false := by simp only [Ak, hz2, hnm, hba, hof, hda, go_sem, Bool.true_or]
   simp (disch := omega) only [ir64, Ac, hz2, hnm, hba, hof, hda, eb, go_sem];refine Aa (Az _ _) ?_;simp (disch := omega) only [Ac, hz2, hnm, hba, hof, hda, eb, go_sem]
 by_cases hwa : e.ward = 0;rotate_left
 · have eb : Ak e true false true false false false false = false := by simp only [Ak, hz2, hnm, hba, hof, hda, hwa, go_sem, Bool.true_or]
   simp (disch := omega) only [ir64, Ac, hz2, hnm, hba, hof, hda, hwa, eb, go_sem];refine Aa (Az _ _) ?_;simp (disch := omega) only [Ac, hz2, hnm, hba, hof, hda, hwa, eb, go_sem]
 have eb : Ak e true false true false false false false = true := by simp only [Ak, hz2, hnm, hba, hof, hda, hwa, go_sem, Bool.true_or]
 simp (disch := omega) only [ir64, Ac, hz2, hnm, hba, hof, hda, hwa, eb, go_sem];refine Aa (Az _ _) ?_;simp (disch := omega) only [Ac, hz2, hnm, hba, hof, hda, hwa, eb, go_sem]
set_option maxHeartbeats 4000000 in
theorem Ai3 (e : Evt) {h d} : FunOk Tryz.prog 64 [.vec 21 (Bo e), .pv (.b true), .pv (.b true), .pv (.b true), .pv (.b false), .pv (.b false), .pv (.b false), .pv (.b false)] h d (.pv (.b (Ak e true true true false false false false))) [] := by
 refine Au Ae fn64 (by simp) rfl rfl fun F => ?_;have hl := Ac e;by_cases hba : (e.base.l.length : Int) = 0;rotate_left
 · have eb : Ak e true true true false false false false = false := by simp only [Ak, hba, go_sem, Bool.true_or]
   simp (disch := omega) only [ir64, Ac, hba, eb, go_sem]
 by_cases hof : e.off = 0;rotate_left
 · have eb : Ak e true true true false false false false = false := by simp only [Ak, hba, hof, go_sem, Bool.true_or]
   simp (disch := omega) only [ir64, Ac, hba, hof, eb, go_sem]
 by_cases hda : e.data = [];rotate_left
 · have eb : Ak e true true true false false false false = false := by simp only [Ak, hba, hof, hda, go_sem, Bool.true_or]
   simp (disch := omega) only [ir64, Ac, hba, hof, hda, eb, go_sem]
 by_cases hwa : e.ward = 0;rotate_left
 · have eb : Ak e true true true false false false false = false := by simp only [Ak, hba, hof, hda, hwa, go_sem, Bool.true_or]
   simp (disch := omega) only [ir64, Ac, hba, hof, hda, hwa, eb, go_sem]
 have eb : Ak e true true true false false false false = true := by simp only [Ak, hba, hof, hda, hwa, go_sem, Bool.true_or]
 simp (disch := omega) only [ir64, Ac, hba, hof, hda, hwa, eb, go_sem]
set_option maxHeartbeats 4000000 in
theorem Ath (e : Evt) {h d} : FunOk Tryz.prog 64 [.vec 21 (Bo e), .pv (.b false), .pv (.b false), .pv (.b false), .pv (.b false), .pv (.b false), .pv (.b false), .pv (.b true)] h d (.pv (.b (Ak e false false false false false false true))) [] := by
 refine Au Ae fn64 (by simp) rfl rfl fun F => ?_;have hl := Ac e;by_cases hz1' : Bx e.orep e.oseq = false
 · have hz1 := hz1';have eb : Ak e false false false false false false true = false := by simp only [Ak, hz1, go_sem, Bool.true_or]
   simp (disch := omega) only [ir64, Ac, hz1, eb, go_sem];refine Aa (Az _ _) ?_;simp (disch := omega) only [Ac, hz1, eb, go_sem]
 have hz1 : Bx e.orep e.oseq = true := by simpa using hz1'
 by_cases hz2' : Bx e.drep e.dseq = false
 · have hz2 := hz2';have eb : Ak e false false false false false false true = false := by simp only [Ak, hz1, hz2, go_sem, Bool.true_or]
   simp (disch := omega) only [ir64, Ac, hz1, hz2, eb, go_sem];refine Aa (Az _ _) ?_;simp (disch := omega) only [Ac, hz1, hz2, eb, go_sem];refine Aa (Az _ _) ?_;simp (disch := omega) only [Ac, hz1, hz2, eb, go_sem]
 have hz2 : Bx e.drep e.dseq = true := by simpa using hz2'
 by_cases hnm : e.name = [];rotate_left
 · have eb : Ak e false false false false false false true = false := by simp only [Ak, hz1, hz2, hnm, go_sem, Bool.true_or]
   simp (disch := omega) only [ir64, Ac, hz1, hz2, hnm, eb, go_sem];refine Aa (Az _ _) ?_;simp (disch := omega) only [Ac, hz1, hz2, hnm, eb, go_sem];refine Aa (Az _ _) ?_;simp (disch := omega) only [Ac, hz1, hz2, hnm, eb, go_sem]
 by_cases hgo : (e.gone.l.length : Int) = 0;rotate_left
 · have eb : Ak e false false false false false false true = false := by simp only [Ak, hz1, hz2, hnm, hgo, go_sem, Bool.true_or]
   simp (disch := omega) only [ir64, Ac, hz1, hz2, hnm, hgo, eb, go_sem];refine Aa (Az _ _) ?_;simp (disch := omega) only [Ac, hz1, hz2, hnm, hgo, eb, go_sem];refine Aa (Az _ _) ?_;simp (disch := omega) only [Ac, hz1, hz2, hnm, hgo, eb, go_sem]
 by_cases hba : (e.base.l.length : Int) = 0;rotate_left
 · have eb : Ak e false false false false false false true = false := by simp only [Ak, hz1, hz2, hnm, hgo, hba, go_sem, Bool.true_or]
   simp (disch := omega) only [ir64, Ac, hz1, hz2, hnm, hgo, hba, eb, go_sem];refine Aa (Az _ _) ?_;simp (disch := omega) only [Ac, hz1, hz2, hnm, hgo, hba, eb, go_sem];refine Aa (Az _ _) ?_;simp (disch := omega) only [Ac, hz1, hz2, hnm, hgo, hba, eb, go_sem]
 by_cases hof : e.off = 0;rotate_left
 · have eb : Ak e false false false false false false true = false := by simp only [Ak, hz1, hz2, hnm, hgo, hba, hof, go_sem, Bool.true_or]
   simp (disch := omega) only [ir64, Ac, hz1, hz2, hnm, hgo, hba, hof, eb, go_sem];refine Aa (Az _ _) ?_;simp (disch := omega) only [Ac, hz1, hz2, hnm, hgo, hba, hof, eb, go_sem];refine Aa (Az _ _) ?_;simp (disch := omega) only [Ac, hz1, hz2, hnm, hgo, hba, hof, eb, go_sem]
 by_cases hda : e.data = [];rotate_left
 · have eb : Ak e false false false false false false true = false := by simp only [Ak, hz1, hz2, hnm, hgo, hba, hof, hda, go_sem, Bool.true_or]
   simp (disch := omega) only [ir64, Ac, hz1, hz2, hnm, hgo, hba, hof, hda, eb, go_sem];refine Aa (Az _ _) ?_;simp (disch := omega) only [Ac, hz1, hz2, hnm, hgo, hba, hof, hda, eb, go_sem];refine Aa (Az _ _) ?_;simp (disch := omega) only [Ac, hz1, hz2, hnm, hgo, hba, hof, hda, eb, go_sem]
 have eb : Ak e false false false false false false true = true := by simp only [Ak, hz1, hz2, hnm, hgo, hba, hof, hda, go_sem, Bool.true_or]
 simp (disch := omega) only [ir64, Ac, hz1, hz2, hnm, hgo, hba, hof, hda, eb, go_sem];refine Aa (Az _ _) ?_;simp (disch := omega) only [Ac, hz1, hz2, hnm, hgo, hba, hof, hda, eb, go_sem];refine Aa (Az _ _) ?_;simp (disch := omega) only [Ac, hz1, hz2, hnm, hgo, hba, hof, hda, eb, go_sem]
set_option maxHeartbeats 4000000 in
theorem Ati (e : Evt) {h d} : FunOk Tryz.prog 64 [.vec 21 (Bo e), .pv (.b false), .pv (.b false), .pv (.b false), .pv (.b false), .pv (.b false), .pv (.b false), .pv (.b false)] h d (.pv (.b (Ak e false false false false false false false))) [] := by
 refine Au Ae fn64 (by simp) rfl rfl fun F => ?_;have hl := Ac e;by_cases hz1' : Bx e.orep e.oseq = false
 · have hz1 := hz1';have eb : Ak e false false false false false false false = false := by simp only [Ak, hz1, go_sem, Bool.true_or]
   simp (disch := omega) only [ir64, Ac, hz1, eb, go_sem];refine Aa (Az _ _) ?_;simp (disch := omega) only [Ac, hz1, eb, go_sem]
 have hz1 : Bx e.orep e.oseq = true := by simpa using hz1'
 by_cases hz2' : Bx e.drep e.dseq = false
 · have hz2 := hz2';have eb : Ak e false false false false false false false = false := by simp only [Ak, hz1, hz2, go_sem, Bool.true_or]
   simp (disch := omega) only [ir64, Ac, hz1, hz2, eb, go_sem];refine Aa (Az _ _) ?_;simp (disch := omega) only [Ac, hz1, hz2, eb, go_sem];refine Aa (Az _ _) ?_;simp (disch := omega) only [Ac, hz1, hz2, eb, go_sem]
 have hz2 : Bx e.drep e.dseq = true := by simpa using hz2'
 by_cases hnm : e.name = [];rotate_left
 · have eb : Ak e false false false false false false false = false := by simp only [Ak, hz1, hz2, hnm, go_sem, Bool.true_or]
   simp (disch := omega) only [ir64, Ac, hz1, hz2, hnm, eb, go_sem];refine Aa (Az _ _) ?_;simp (disch := omega) only [Ac, hz1, hz2, hnm, eb, go_sem];refine Aa (Az _ _) ?_;simp (disch := omega) only [Ac, hz1, hz2, hnm, eb, go_sem]
 by_cases hgo : (e.gone.l.length : Int) = 0;rotate_left
 · have eb : Ak e false false false false false false false = false := by simp only [Ak, hz1, hz2, hnm, hgo, go_sem, Bool.true_or]
   simp (disch := omega) only [ir64, Ac, hz1, hz2, hnm, hgo, eb, go_sem];refine Aa (Az _ _) ?_;simp (disch := omega) only [Ac, hz1, hz2, hnm, hgo, eb, go_sem];refine Aa (Az _ _) ?_;simp (disch := omega) only [Ac, hz1, hz2, hnm, hgo, eb, go_sem]
 by_cases hba : (e.base.l.length : Int) = 0;rotate_left
 · have eb : Ak e false false false false false false false = false := by simp only [Ak, hz1, hz2, hnm, hgo, hba, go_sem, Bool.true_or]
   simp (disch := omega) only [ir64, Ac, hz1, hz2, hnm, hgo, hba, eb, go_sem];refine Aa (Az _ _) ?_;simp (disch := omega) only [Ac, hz1, hz2, hnm, hgo, hba, eb, go_sem];refine Aa (Az _ _) ?_;simp (disch := omega) only [Ac, hz1, hz2, hnm, hgo, hba, eb, go_sem]
 by_cases hof : e.off = 0;rotate_left
 · have eb : Ak e false false false false false false false = false := by simp only [Ak, hz1, hz2, hnm, hgo, hba, hof, go_sem, Bool.true_or]
   simp (disch := omega) only [ir64, Ac, hz1, hz2, hnm, hgo, hba, hof, eb, go_sem];refine Aa (Az _ _) ?_;simp (disch := omega) only [Ac, hz1, hz2, hnm, hgo, hba, hof, eb, go_sem];refine Aa (Az _ _) ?_;simp (disch := omega) only [Ac, hz1, hz2, hnm, hgo, hba, hof, eb, go_sem]
 by_cases hda : e.data = [];rotate_left
 · have eb : Ak e false false false false false false false = false := by simp only [Ak, hz1, hz2, hnm, hgo, hba, hof, hda, go_sem, Bool.true_or]
   simp (disch := omega) only [ir64, Ac, hz1, hz2, hnm, hgo, hba, hof, hda, eb, go_sem];refine Aa (Az _ _) ?_;simp (disch := omega) only [Ac, hz1, hz2, hnm, hgo, hba, hof, hda, eb, go_sem];refine Aa (Az _ _) ?_;simp (disch := omega) only [Ac, hz1, hz2, hnm, hgo, hba, hof, hda, eb, go_sem]
 by_cases hwa : e.ward = 0;rotate_left
 · have eb : Ak e false false false false false false false = false := by simp only [Ak, hz1, hz2, hnm, hgo, hba, hof, hda, hwa, go_sem, Bool.true_or]
   simp (disch := omega) only [ir64, Ac, hz1, hz2, hnm, hgo, hba, hof, hda, hwa, eb, go_sem];refine Aa (Az _ _) ?_;simp (disch := omega) only [Ac, hz1, hz2, hnm, hgo, hba, hof, hda, hwa, eb, go_sem];refine Aa (Az _ _) ?_;simp (disch := omega) only [Ac, hz1, hz2, hnm, hgo, hba, hof, hda, hwa, eb, go_sem]
 have eb : Ak e false false false false false false false = true := by simp only [Ak, hz1, hz2, hnm, hgo, hba, hof, hda, hwa, go_sem, Bool.true_or]
 simp (disch := omega) only [ir64, Ac, hz1, hz2, hnm, hgo, hba, hof, hda, hwa, eb, go_sem];refine Aa (Az _ _) ?_;simp (disch := omega) only [Ac, hz1, hz2, hnm, hgo, hba, hof, hda, hwa, eb, go_sem];refine Aa (Az _ _) ?_;simp (disch := omega) only [Ac, hz1, hz2, hnm, hgo, hba, hof, hda, hwa, eb, go_sem]
inductive RdR where
 | skip
 | err (e : Int)
 | val (x : Int) (rest : List UInt8)
theorem Aa2 (n : Nat) : IntKind.u8.wrap (n : Int) = ((UInt8.ofNat n).toNat : Int) := by
 rw [UInt8.toNat_ofNat'];simp [IntKind.wrap, IntKind.signed, IntKind.bits]
theorem Awa (l p l' p') : Als (.it l p) (.it l' p') = (l = l' ∧ p = p') := (rfl)
attribute [go_sem] Awa
def L6 (b : UInt8) : Bool := decide ((97 ≤ b.toNat ∧ b.toNat ≤ 122) ∨ (65 ≤ b.toNat ∧ b.toNat ≤ 90) ∨ (48 ≤ b.toNat ∧ b.toNat ≤ 57) ∨ b.toNat = 46 ∨ b.toNat = 95 ∨ b.toNat = 45)
def C2 (s : List UInt8) : Bool := decide (1 ≤ s.length ∧ s.length ≤ 12 ∧ s ≠ [46] ∧ s ≠ [46, 46]) && s.all L6
theorem Akz {s : List UInt8} {pos : Nat} (h : pos < s.length) (ha : (s.getD pos 0).toNat < 128) : Qn s pos = ((s.getD pos 0).toNat, 1) := by
 have hs : pos < (⟨s.toArray⟩ : ByteArray).size := by simpa [ByteArray.size] using h
 have e : (⟨s.toArray⟩ : ByteArray)[pos]'hs = s.getD pos 0 := by
  rw [List.getD_eq_getElem?_getD, List.getElem?_eq_getElem h]; rfl
 have := decode_ascii ⟨s.toArray⟩ pos hs (by rw [e]; exact ha);unfold Qn;rw [this, e]
theorem Ava {s : List UInt8} {pos : Nat} (h : pos < s.length) (ha : ¬ (s.getD pos 0).toNat < 128) : 128 ≤ (Qn s pos).1 ∧ (Qn s pos).1 < 2147483648 := by
 have hs : pos < (⟨s.toArray⟩ : ByteArray).size := by simpa [ByteArray.size] using h
 have e : (⟨s.toArray⟩ : ByteArray).get! (pos + 0) = s.getD pos 0 := by
  show (⟨s.toArray⟩ : ByteArray).get! pos = _;have : (⟨s.toArray⟩ : ByteArray)[pos]'hs = s.getD pos 0 := by
   rw [List.getD_eq_getElem?_getD, List.getElem?_eq_getElem h]; rfl
  rw [← this];show (s.toArray)[pos]! = (s.toArray)[pos];rw [getElem!_pos]
 unfold Qn Utf8.decode;simp only [e, ha, if_false];unfold Utf8.runeError;split
 · split
   · simp only; omega
   · simp
 · split
   · split
     · rename_i hc; simp only [Bool.and_eq_true, decide_eq_true_eq] at hc ⊢; omega
     · simp
   · split
     · split
       · rename_i hc; simp only [Bool.and_eq_true, decide_eq_true_eq] at hc ⊢; omega
       · simp
     · simp
theorem Aqa (n : Nat) (h : 128 ≤ n) : (Vx n).length ≤ 4 ∧ 2 ≤ (Vx n).length ∧ 128 ≤ ((Vx n).getD ((Vx n).length - 1) 0).toNat := by
 have key : ∀ c : Nat, 128 ≤ c → ∀ l : List UInt8, l = (if c < 0x80 then [UInt8.ofNat c] else if c < 0x800 then [UInt8.ofNat (0xC0 + c / 64), UInt8.ofNat (0x80 + c % 64)] else if c < 0x10000 then [UInt8.ofNat (0xE0 + c / 4096), UInt8.ofNat (0x80 + c / 64 % 64), UInt8.ofNat (0x80 + c % 64)] else [UInt8.ofNat (0xF0 + c / 262144), UInt8.ofNat (0x80 + c / 4096 % 64), UInt8.ofNat (0x80 + c / 64 % 64), UInt8.ofNat (0x80 + c % 64)]) → l.length ≤ 4 ∧ 2 ≤ l.length ∧ 128 ≤ (l.getD (l.length - 1) 0).toNat := by
  intro c hc l hl;have hb : 128 ≤ (UInt8.ofNat (0x80 + c % 64)).toNat := by rw [UInt8.toNat_ofNat']; omega
  rw [if_neg (by omega)] at hl;split at hl
  · subst hl; exact ⟨by simp, by simp, hb⟩
  · split at hl
    · subst hl; exact ⟨by simp, by simp, hb⟩
    · subst hl; exact ⟨by simp, by simp, hb⟩
 refine key (if Utf8.valid (n : Int) then n else 0xFFFD) (by split <;> omega) _ ?_;unfold Vx Utf8.encode Utf8.runeError;simp only [Int.toNat_natCast];generalize (if Utf8.valid (n : Int) = true then n else 0xFFFD) = c;split
 · rfl
 · split
   · rfl
   · split <;> rfl
theorem A2q (s : List UInt8) (c : UInt8) {h} : Yo Tryz.prog 149 [.pv (.s s), .pv (.i .u8 c.toNat)] h (.pv (.i .i64 (Lib.indexByte s c))) := by
 intro F N ρ st a w hR hh vs hc;simp only [ConcL] at hc;obtain ⟨v, us, rfl, hv, u, us', rfl, hu, rfl⟩ := hc;have hv := Mw hv;have hu := Fe hu;subst hv; subst hu;refine ⟨_, ?_, Dj⟩;rw [run_callFunc_extern (fn := (Tryz.prog.funcs[149]?).getD default) (by kernel_rfl) (by kernel_rfl) (by kernel_rfl) (by kernel_rfl) (e := Extern.BytealgIndexByte.indexByte) (by kernel_rfl)];rw [Lib.run_indexByteString];simp
theorem A2r (s : List UInt8) (c : UInt8) {h d} : FunOk Tryz.prog 146 [.pv (.s s), .pv (.i .u8 c.toNat)] h d (.pv (.i .i64 (Lib.indexByte s c))) [] := by
 refine Au Ae fn146 (by simp) rfl rfl fun F => ?_;simp (disch := omega) only [ir146, go_sem];refine Qs (A2q s c) ?_;simp (disch := omega) only [go_sem]
theorem Ayr (s : List UInt8) (c : UInt8) {h d} : FunOk Tryz.prog 139 [.pv (.s s), .pv (.i .u8 c.toNat)] h d (.pv (.i .i64 (Lib.indexByte s c))) [] := by
 refine Au Ae fn139 (by simp) rfl rfl fun F => ?_;simp (disch := omega) only [ir139, go_sem];refine Aa (A2r s c) ?_;simp (disch := omega) only [go_sem]
def Q3 (n : Nat) : Bool := decide (n < 55296 ∨ 57343 < n ∧ n ≤ 1114111)
theorem Atf (n : Nat) {h d} : FunOk Tryz.prog 140 [.pv (.i .i32 n)] h d (.pv (.b (Q3 n))) [] := by
 refine Au Ae fn140 (by simp) rfl rfl fun F => ?_;have h0 : (0 : Int) ≤ n := by omega
 by_cases h1 : (n : Int) < 55296
 · have e : Q3 n = true := decide_eq_true (by omega);simp (disch := omega) only [ir140, h0, h1, e, go_sem]
 by_cases h2 : (57343 : Int) < n
 · by_cases h3 : (n : Int) ≤ 1114111
   · have e : Q3 n = true := decide_eq_true (by omega);simp (disch := omega) only [ir140, h0, h1, h2, h3, e, go_sem]
   · have e : Q3 n = false := decide_eq_false (by omega);simp (disch := omega) only [ir140, h0, h1, h2, h3, e, go_sem]
 · have e : Q3 n = false := decide_eq_false (by omega);simp (disch := omega) only [ir140, h0, h1, h2, e, go_sem]
def ixD (n : Nat) : Int := if n < 128 then Lib.indexByte [46, 95, 45] (UInt8.ofNat n) else -1
def Aea (k : Nat) : FS := mk [(175, .p 175 0), (0, .pv (.s [46, 95, 45]))] [(175, some (.it [46, 95, 45] k))]
def W7 (rs : List UInt8) (i : Int) (_ : Unit) : FS := mk [(9, .pv (.i .i64 i)), (8, .pv (.i .i64 i)), (7, .pv (.s rs)), (10, .pv (.i .i64 0)), (0, .pv (.s [46, 95, 45]))] []
theorem Akt (n : Nat) (h : 128 ≤ n) : (∃ a b, Vx n = [a, b] ∧ 128 ≤ b.toNat) ∨ (∃ a b c, Vx n = [a, b, c] ∧ 128 ≤ c.toNat) ∨ (∃ a b c d, Vx n = [a, b, c, d] ∧ 128 ≤ d.toNat) := by
 obtain ⟨h1, h2, h3⟩ := Aqa n h;generalize Vx n = l at *
 match l, h1, h2, h3 with
 | [a, b], _, _, h3 => exact .inl ⟨a, b, rfl, h3⟩
 | [a, b, c], _, _, h3 => exact .inr (.inl ⟨a, b, c, rfl, h3⟩)
 | [a, b, c, d], _, _, h3 => exact .inr (.inr ⟨a, b, c, d, rfl, h3⟩)
 | [], _, h2, _ => simp at h2
 | [a], _, h2, _ => simp at h2
 | a :: b :: c :: d :: e :: r, h1, _, _ => simp at h1
theorem Ahp {s : List UInt8} {b : UInt8} (h : s = [95, 45] ∨ s = [45] ∨ s = []) (hb : 128 ≤ b.toNat) : Lib.indexByte s b = -1 := by
 have ne : ∀ c : UInt8, c.toNat < 128 → (c == b) = false := fun c hc => by
  rw [beq_eq_false_iff_ne]; intro e; subst e; omega
 rcases h with rfl | rfl | rfl <;> simp [Lib.indexByte, ne 95 (by decide), ne 45 (by decide)]
set_option maxHeartbeats 4000000 in
theorem Ab5 (n : Nat) (hn : n < 2147483648) {h d} : FunOk Tryz.prog 124 [.pv (.s [46, 95, 45]), .pv (.i .i32 n)] h d (.pv (.i .i64 (ixD n))) [] := by
 refine Au Ae fn124 (by simp) rfl rfl fun F => ?_;have h0 : (0 : Int) ≤ n := by omega
 by_cases h1 : (n : Int) < 128
 · have e : ixD n = Lib.indexByte [46, 95, 45] (UInt8.ofNat n) := by unfold ixD; rw [if_pos (by omega)]
   have ew : IntKind.u8.wrap (n : Int) = ((UInt8.ofNat n).toNat : Int) := Aa2 _;simp (disch := omega) only [ir124, h0, h1, ew, go_sem];refine Aa (Ayr _ _) ?_;simp (disch := omega) only [e, go_sem]
 have e : ixD n = -1 := by unfold ixD; rw [if_neg (by omega)]
 by_cases h2 : (n : Int) = 65533
 · simp (disch := omega) only [ir124, h0, h1, h2, go_sem];have hl3 : (([46, 95, 45] : List UInt8).length) = 3 := rfl;have d0 : Qn [46, 95, 45] 0 = (46, 1) := by decide
   have d1 : Qn [46, 95, 45] 1 = (95, 1) := by decide
   have d2 : Qn [46, 95, 45] 2 = (45, 1) := by decide
   refine A1 Ae Aea (fun k => k ≤ 3) (fun k => 3 - k) 0 (by omega) (Am ?_ ?_) fun k hk => ?_
   · simp (disch := omega) only [go_sem]
   · simp (disch := omega) only [go_sem]
   by_cases hlt : k < 3
   · have : k = 0 ∨ k = 1 ∨ k = 2 := by omega
     rcases this with rfl | rfl | rfl
     all_goals simp (disch := omega) only [Aea, hl3, d0, d1, d2, go_sem]
     · refine Ad (x := (0 : Nat)) (1 : Nat) _ _ rfl (by omega) (by omega) ?_ ?_
       · simp (disch := omega) only [go_sem]
       · simp (disch := omega) only [go_sem]
     · refine Ad (x := (1 : Nat)) (2 : Nat) _ _ rfl (by omega) (by omega) ?_ ?_
       · simp (disch := omega) only [go_sem]
       · simp (disch := omega) only [go_sem]
     · refine Ad (x := (2 : Nat)) (3 : Nat) _ _ rfl (by omega) (by omega) ?_ ?_
       · simp (disch := omega) only [go_sem]
       · simp (disch := omega) only [go_sem]
   · obtain rfl : k = 3 := by omega
     simp (disch := omega) only [Aea, hl3, e, go_sem]
 · simp (disch := omega) only [ir124, h0, h1, h2, go_sem];refine Aa (Atf n) ?_;cases hv : Q3 n with
   | false => simp (disch := omega) only [hv, e, go_sem]
   | true =>
     have hl3 : (([46, 95, 45] : List UInt8).length : Int) = 3 := rfl;rcases Akt n (by omega) with ⟨a, b, he, hb⟩ | ⟨a, b, c, he, hb⟩ | ⟨a, b, c, d, he, hb⟩
     ·
      have hlen : (([a, b] : List UInt8).length : Int) = 2 := rfl;have hg : ((([46, 95, 45] : List UInt8).getD (Int.toNat 1) 0).toNat : Int) = 95 := rfl;have hg' : ([a, b] : List UInt8).getD (Int.toNat 1) 0 = b := rfl;have hne : ¬ (95 : Int) = (b.toNat : Int) := by omega
      have hdr : List.drop ((1 : Int) + 1).toNat (List.take 3 ([46, 95, 45] : List UInt8)) = [45] := rfl;have hib : Lib.indexByte [45] b = -1 := Ahp (by simp) hb;simp (disch := omega) only [hv, he, hlen, go_sem];refine A1 Ae (W7 [a, b] 1) (fun _ => True) (fun _ => 0) () trivial (Am ?_ ?_) fun _ _ => ?_
      · simp (disch := omega) only [go_sem]
      · simp (disch := omega) only [go_sem]
      simp (disch := omega) only [W7, hl3, hlen, hg, hg', hne, hdr, go_sem];refine Aa (Ayr [45] b) ?_;simp (disch := omega) only [hib, e, go_sem]
     ·
      have hlen : (([a, b, c] : List UInt8).length : Int) = 3 := rfl;have hg : ((([46, 95, 45] : List UInt8).getD (Int.toNat 2) 0).toNat : Int) = 45 := rfl;have hg' : ([a, b, c] : List UInt8).getD (Int.toNat 2) 0 = c := rfl;have hne : ¬ (45 : Int) = (c.toNat : Int) := by omega
      have hdr : List.drop ((2 : Int) + 1).toNat (List.take 3 ([46, 95, 45] : List UInt8)) = [] := rfl;have hib : Lib.indexByte [] c = -1 := Ahp (by simp) hb;simp (disch := omega) only [hv, he, hlen, go_sem];refine A1 Ae (W7 [a, b, c] 2) (fun _ => True) (fun _ => 0) () trivial (Am ?_ ?_) fun _ _ => ?_
      · simp (disch := omega) only [go_sem]
      · simp (disch := omega) only [go_sem]
      simp (disch := omega) only [W7, hl3, hlen, hg, hg', hne, hdr, go_sem];refine Aa (Ayr [] c) ?_;simp (disch := omega) only [hib, e, go_sem]
     · have hlen : (([a, b, c, d] : List UInt8).length : Int) = 4 := rfl;simp (disch := omega) only [hv, he, hlen, go_sem];refine A1 Ae (W7 [a, b, c, d] 3) (fun _ => True) (fun _ => 0) () trivial (Am ?_ ?_) fun _ _ => ?_
       · simp (disch := omega) only [go_sem]
       · simp (disch := omega) only [go_sem]
       simp (disch := omega) only [W7, hl3, hlen, e, go_sem]
def Akx (n : Nat) : Bool := decide (n = 46 ∨ n = 95 ∨ n = 45)
theorem Aue (n : Nat) : decide (0 ≤ ixD n) = Akx n := by
 by_cases h : n < 128
 · have : ∀ m, m < 128 → decide (0 ≤ ixD m) = Akx m := by decide
   exact this n h
 · have e : ixD n = -1 := by unfold ixD; rw [if_neg h]
   rw [e];have : ¬ (n = 46 ∨ n = 95 ∨ n = 45) := by omega
   simp [Akx]; omega
theorem Jd (n : Nat) (hn : n < 2147483648) {h d} : FunOk Tryz.prog 101 [.pv (.s [46, 95, 45]), .pv (.i .i32 n)] h d (.pv (.b (Akx n))) [] := by
 refine Au Ae fn101 (by simp) rfl rfl fun F => ?_;have e := Aue n;simp (disch := omega) only [ir101, go_sem];refine Aa (Ab5 n hn) ?_;simp (disch := omega) only [e, go_sem]
def Aci (n : Nat) : Bool := decide ((97 ≤ n ∧ n ≤ 122) ∨ (65 ≤ n ∧ n ≤ 90))
theorem Ab3 (n : Nat) {h d} : FunOk Tryz.prog 100 [.pv (.i .i32 n)] h d (.pv (.b (Aci n))) [] := by
 refine Au Ae fn100 (by simp) rfl rfl fun F => ?_;have : n < 65 ∨ (65 ≤ n ∧ n ≤ 90) ∨ (91 ≤ n ∧ n ≤ 96) ∨ (97 ≤ n ∧ n ≤ 122) ∨ 123 ≤ n := by omega
 rcases this with h1 | h1 | h1 | h1 | h1
 · have e : Aci n = false := decide_eq_false (by omega);simp (disch := omega) only [ir100, e, go_sem]
 · have e : Aci n = true := decide_eq_true (by omega);simp (disch := omega) only [ir100, e, go_sem]
 · have e : Aci n = false := decide_eq_false (by omega);simp (disch := omega) only [ir100, e, go_sem]
 · have e : Aci n = true := decide_eq_true (by omega);simp (disch := omega) only [ir100, e, go_sem]
 · have e : Aci n = false := decide_eq_false (by omega);simp (disch := omega) only [ir100, e, go_sem]
theorem Vf {s : List UInt8} {k : Nat} (hk : k < s.length) (h : L6 (s.getD k 0) = false) : C2 s = false := by
 have hm : s.getD k 0 ∈ s := by rw [List.getD_eq_getElem?_getD, List.getElem?_eq_getElem hk]; exact List.getElem_mem hk
 unfold C2;rw [show s.all L6 = false from by rw [List.all_eq_false]; exact ⟨_, hm, by rw [h]; decide⟩, Bool.and_false]
theorem Xp {s : List UInt8} (h1 : 1 ≤ s.length) (h2 : s.length ≤ 12) (h3 : s ≠ [46]) (h4 : s ≠ [46, 46]) (h : ∀ k, k < s.length → L6 (s.getD k 0) = true) : C2 s = true := by
 unfold C2;rw [decide_eq_true ⟨h1, h2, h3, h4⟩, Bool.true_and, List.all_eq_true];intro b hb;obtain ⟨k, hk, rfl⟩ := List.getElem_of_mem hb;have := h k hk
 rwa [List.getD_eq_getElem?_getD, List.getElem?_eq_getElem hk] at this
theorem Ms {s : List UInt8} (h : ¬ (1 ≤ s.length ∧ s.length ≤ 12 ∧ s ≠ [46] ∧ s ≠ [46, 46])) : C2 s = false := by
 unfold C2; rw [decide_eq_false h, Bool.false_and]
def Y5 (s : List UInt8) (k : Nat) : FS := mk [(22, .p 22 0), (0, .pv (.s s))] [(22, some (.it s k))]
set_option maxHeartbeats 4000000 in
theorem Aer (s : List UInt8) {h d} : FunOk Tryz.prog 72 [.pv (.s s)] h d (.pv (.b (C2 s))) [] := by
 refine Au Ae fn72 (by simp) rfl rfl fun F => ?_;by_cases h1 : s = []
 · subst h1;have e : C2 [] = false := Ms (by simp);have hl0 : (([] : List UInt8).length : Int) = 0 := rfl;simp (disch := omega) only [ir72, hl0, e, go_sem]
 have h1' : 1 ≤ s.length := List.length_pos_iff.2 h1;by_cases h2 : 12 < (s.length : Int)
 · have e : C2 s = false := Ms (by omega);simp (disch := omega) only [ir72, h1, h2, e, go_sem]
 by_cases h3 : s = [46]
 · subst h3;have e : C2 [46] = false := Ms (fun h => h.2.2.1 rfl);have hl0 : (([46] : List UInt8).length : Int) = 1 := rfl;simp (disch := omega) only [ir72, h1, hl0, e, go_sem]
 by_cases h4 : s = [46, 46]
 · subst h4;have e : C2 [46, 46] = false := Ms (fun h => h.2.2.2 rfl);have hl0 : (([46, 46] : List UInt8).length : Int) = 2 := rfl;simp (disch := omega) only [ir72, h1, h3, hl0, e, go_sem]
 simp (disch := omega) only [ir72, h1, h2, h3, h4, go_sem];refine A1 Ae (Y5 s) (fun k => k ≤ s.length ∧ ∀ j, j < k → L6 (s.getD j 0) = true) (fun k => s.length - k) 0 (by simp) (Am ?_ ?_) fun k hk => ?_
 · simp (disch := omega) only [go_sem]
 · simp (disch := omega) only [go_sem]
 obtain ⟨hk1, hk2⟩ := hk;by_cases hlt : k < s.length
 · by_cases ha : (s.getD k 0).toNat < 128
   · have hd := Akz hlt ha;have hgo : L6 (s.getD k 0) = true → (k + 1 ≤ s.length ∧ ∀ j, j < k + 1 → L6 (s.getD j 0) = true) := fun h => ⟨hlt, fun j hj => by
      by_cases e : j = k
      · subst e; exact h
      · exact hk2 j (by omega)⟩
     have hbad := fun h => Vf (s := s) hlt h;generalize hb : s.getD k 0 = b at *;simp (disch := omega) only [Y5, hd, go_sem];refine Aa (Ab3 _) ?_;cases hL : Aci b.toNat with
     | true =>
       have hL' : (97 ≤ b.toNat ∧ b.toNat ≤ 122) ∨ (65 ≤ b.toNat ∧ b.toNat ≤ 90) := of_decide_eq_true hL;simp (disch := omega) only [hL, go_sem];refine Ad (k + 1) _ _ rfl (hgo (decide_eq_true (by omega))) (by omega) ?_ ?_
       · simp (disch := omega) only [go_sem]
       · simp (disch := omega) only [go_sem]
     | false =>
       have hL' : ¬ ((97 ≤ b.toNat ∧ b.toNat ≤ 122) ∨ (65 ≤ b.toNat ∧ b.toNat ≤ 90)) := of_decide_eq_false hL;by_cases hdg : 48 ≤ b.toNat ∧ b.toNat ≤ 57
       · simp (disch := omega) only [hL, go_sem];refine Ad (k + 1) _ _ rfl (hgo (decide_eq_true (by omega))) (by omega) ?_ ?_
         · simp (disch := omega) only [go_sem]
         · simp (disch := omega) only [go_sem]
       · have ht : b.toNat < 48 ∨ (48 ≤ b.toNat ∧ 57 < b.toNat) := by omega
         cases hdt : Akx b.toNat with
         | true =>
           have hdt' : b.toNat = 46 ∨ b.toNat = 95 ∨ b.toNat = 45 := of_decide_eq_true hdt;have hg := hgo (decide_eq_true (by omega));rcases ht with ht | ht
           all_goals simp (disch := omega) only [hL, go_sem]
           all_goals refine Aa (Jd b.toNat (by omega)) ?_
           all_goals simp (disch := omega) only [hdt, go_sem]
           all_goals refine Ad (k + 1) _ _ rfl hg (by omega) ?_ ?_
           all_goals simp (disch := omega) only [go_sem]
         | false =>
           have hdt' : ¬ (b.toNat = 46 ∨ b.toNat = 95 ∨ b.toNat = 45) := of_decide_eq_false hdt;have hg := hbad (decide_eq_false (by omega));rcases ht with ht | ht
           all_goals simp (disch := omega) only [hL, go_sem]
           all_goals refine Aa (Jd b.toNat (by omega)) ?_
           all_goals simp (disch := omega) only [hdt, hg, go_sem]
   · obtain ⟨hd1, hd2⟩ := Ava hlt ha;have hg := Vf (s := s) hlt (decide_eq_false (by omega));generalize hc : (Qn s k).1 = c at *;have hL : Aci c = false := decide_eq_false (by omega);have hdt : Akx c = false := decide_eq_false (by omega);simp (disch := omega) only [Y5, hc, go_sem];refine Aa (Ab3 _) ?_;simp (disch := omega) only [hL, go_sem];refine Aa (Jd c hd2) ?_;simp (disch := omega) only [hdt, hg, go_sem]
 · obtain rfl : k = s.length := by omega
   have e := Xp h1' (by omega) h3 h4 hk2;simp (disch := omega) only [Y5, e, go_sem]
def S9 (s : List UInt8) (k : Nat) : FS := mk [(3, .pv (.i .i64 k)), (0, .pv (.s s))] []
set_option maxHeartbeats 4000000 in
theorem Zr (s : List UInt8) {h d} : FunOk Tryz.prog 63 [.pv (.s s)] h d (.pv (.b (C2 s))) [] := by
 refine Au Ae fn63 (by simp) rfl rfl fun F => ?_;by_cases h1 : s = []
 · subst h1;have e : C2 [] = false := Ms (by simp);have hl0 : (([] : List UInt8).length : Int) = 0 := rfl;simp (disch := omega) only [ir63, hl0, e, go_sem]
 have h1' : 1 ≤ s.length := List.length_pos_iff.2 h1;by_cases h2 : 12 < (s.length : Int)
 · have e : C2 s = false := Ms (by omega);simp (disch := omega) only [ir63, h1, h2, e, go_sem]
 by_cases h3 : s = [46]
 · subst h3;have e : C2 [46] = false := Ms (fun h => h.2.2.1 rfl);have hl0 : (([46] : List UInt8).length : Int) = 1 := rfl;simp (disch := omega) only [ir63, h1, hl0, e, go_sem]
 by_cases h4 : s = [46, 46]
 · subst h4;have e : C2 [46, 46] = false := Ms (fun h => h.2.2.2 rfl);have hl0 : (([46, 46] : List UInt8).length : Int) = 2 := rfl;simp (disch := omega) only [ir63, h1, h3, hl0, e, go_sem]
 simp (disch := omega) only [ir63, h1, h2, h3, h4, go_sem];refine A1 Ae (S9 s) (fun k => k ≤ s.length ∧ ∀ j, j < k → L6 (s.getD j 0) = true) (fun k => s.length - k) 0 (by simp) (Am ?_ ?_) fun k hk => ?_
 · simp (disch := omega) only [go_sem]
 · simp (disch := omega) only [go_sem]
 obtain ⟨hk1, hk2⟩ := hk;by_cases hlt : k < s.length
 · have hgo : L6 (s.getD k 0) = true → (k + 1 ≤ s.length ∧ ∀ j, j < k + 1 → L6 (s.getD j 0) = true) := fun h => ⟨hlt, fun j hj => by
    by_cases e : j = k
    · subst e; exact h
    · exact hk2 j (by omega)⟩
   have hbad := fun h => Vf (s := s) hlt h;generalize hb : s.getD k 0 = b at *;by_cases hok : L6 b = true
   · have hok' := of_decide_eq_true hok;have hg := hgo hok;have : (97 ≤ b.toNat ∧ b.toNat ≤ 122) ∨ (65 ≤ b.toNat ∧ b.toNat ≤ 90) ∨ (48 ≤ b.toNat ∧ b.toNat ≤ 57) ∨ b.toNat = 46 ∨ b.toNat = 95 ∨ b.toNat = 45 := by omega
     rcases this with hc | hc | hc | hc | hc | hc
     all_goals simp (disch := omega) only [S9, hb, hc, go_sem]
     all_goals refine Ad (k + 1) _ _ rfl hg (by omega) ?_ ?_
     all_goals simp (disch := omega) only [go_sem]
   · have hok0 : L6 b = false := by simpa using hok
     have hok' := of_decide_eq_false hok0;have hg := hbad hok0;have : b.toNat < 45 ∨ b.toNat = 47 ∨ (58 ≤ b.toNat ∧ b.toNat ≤ 64) ∨ (91 ≤ b.toNat ∧ b.toNat ≤ 94) ∨ b.toNat = 96 ∨ 123 ≤ b.toNat := by omega
     rcases this with hc | hc | hc | hc | hc | hc
     all_goals simp (disch := omega) only [S9, hb, hc, hg, go_sem]
 · obtain rfl : k = s.length := by omega
   have e := Xp h1' (by omega) h3 h4 hk2;simp (disch := omega) only [S9, e, go_sem]
end Go.Proofs.YthhomcfimdkfhaaGreat.Fw
namespace Go.Proofs.YthhomcfimdkfhaaGreat.Fw
open Go.RowKit Go.Proofs
def He (e : Evt) : Prop := 1 ≤ e.rep ∧ e.rep ≤ 8 ∧ 1 ≤ e.seq ∧ e.seq ≤ 1048576 ∧ e.dep (e.rep - 1).toNat + 1 = e.seq ∧ 1 ≤ e.kind ∧ e.kind ≤ 9
def Nd (e : Evt) : Prop := ∀ i, i < 8 → e.dep i ≤ 1048576
def Cf (b : Evt) : Bool := Bx b.orep b.oseq && (Bx b.drep b.dseq && (decide (b.name = []) && (decide ((b.gone.l.length : Int) = 0) && (decide ((b.base.l.length : Int) = 0) && (decide (b.off = 0) && (decide (b.data = []) && decide (b.ward = 0)))))))
noncomputable def F6 (e : Evt) : Bool :=
 if e.kind = 1 ∨ e.kind = 2 then (Ct e && (C2 e.name))
 else if e.kind = 3 then (Bj e.dep e.orep e.oseq && (Eb e.base.l 1 e.dep && (Cl (e.off) && (decide ((1 : Int) ≤ (e.data.length : Int)) && (Cl ((e.data.length : Int)) && (Cl (e.off + (e.data.length : Int))))))))
 else if e.kind = 4 then (Bj e.dep e.orep e.oseq && (Eb e.base.l 1 e.dep && (Cl (e.off))))
 else if e.kind = 5 then (Bj e.dep e.orep e.oseq && (Eb e.base.l 8 e.dep && (decide ((2 : Int) ≤ (e.base.l.length : Int)) && (Cl ((e.data.length : Int))))))
 else if e.kind = 6 then (Bj e.dep e.orep e.oseq && (Eb e.gone.l 8 e.dep))
 else if e.kind = 7 then (Bj e.dep e.orep e.oseq && (Eb e.gone.l 8 e.dep && (Ct e && (C2 e.name))))
 else if e.kind = 8 then (decide (1 ≤ e.ward) && (decide (e.ward ≤ 4)))
 else true
open Classical in
noncomputable def Bg (e : Evt) : Bool := decide (He e) && (decide (Nd e) && (Cf (Ce e) && F6 e))
theorem F3 {e : Evt} (h : ¬ He e) : Bg e = false := by simp [Bg, h]
theorem Ah0 {e : Evt} (h : ¬ Nd e) : Bg e = false := by simp [Bg, h]
theorem Avd {e : Evt} (h : Cf (Ce e) = false) : Bg e = false := by simp [Bg, h]
theorem Ave {e : Evt} (h1 : He e) (h2 : Nd e) (h3 : Cf (Ce e) = true) : Bg e = F6 e := by simp [Bg, h1, h2, h3]
def ev (e : Evt) : Prop := e.gone.ok ∧ e.base.ok ∧ e.gone.l.length ≤ 1000 ∧ e.base.l.length ≤ 1000 ∧ e.data.length ≤ 100000
theorem Z4 {e : Evt} (h : e.kind = 1) : F6 e = (Ct e && (C2 e.name)) := by simp [F6, h]
theorem Z3 {e : Evt} (h : e.kind = 2) : F6 e = (Ct e && (C2 e.name)) := by simp [F6, h]
theorem J0 {e : Evt} (h : e.kind = 3) : F6 e = (Bj e.dep e.orep e.oseq && (Eb e.base.l 1 e.dep && (Cl (e.off) && (decide ((1 : Int) ≤ (e.data.length : Int)) && (Cl ((e.data.length : Int)) && (Cl (e.off + (e.data.length : Int)))))))) := by simp [F6, h]
theorem Nv {e : Evt} (h : e.kind = 4) : F6 e = (Bj e.dep e.orep e.oseq && (Eb e.base.l 1 e.dep && (Cl (e.off)))) := by simp [F6, h]
theorem Nu {e : Evt} (h : e.kind = 5) : F6 e = (Bj e.dep e.orep e.oseq && (Eb e.base.l 8 e.dep && (decide ((2 : Int) ≤ (e.base.l.length : Int)) && (Cl ((e.data.length : Int)))))) := by simp [F6, h]
theorem Tk {e : Evt} (h : e.kind = 6) : F6 e = (Bj e.dep e.orep e.oseq && (Eb e.gone.l 8 e.dep)) := by simp [F6, h]
theorem Tj {e : Evt} (h : e.kind = 7) : F6 e = (Bj e.dep e.orep e.oseq && (Eb e.gone.l 8 e.dep && (Ct e && (C2 e.name)))) := by simp [F6, h]
theorem Ahl {e : Evt} (h : e.kind = 8) : F6 e = (decide (1 ≤ e.ward) && (decide (e.ward ≤ 4))) := by simp [F6, h]
theorem Ahk {e : Evt} (h : e.kind = 9) : F6 e = (true) := by simp [F6, h]
def Agp (e : Evt) (k : Nat) : FS := mk [(55, .pv (.i .i64 k)), (54, .vec 8 (vE e.dep)), (1, .p 1 0)] [(1, some (.var (.vec 21 (Bo e))))]
set_option maxHeartbeats 16000000 in
theorem Atn (e : Evt) (he : ev e) {h d} : FunOk Tryz.prog 33 [.vec 21 (Bo e)] h d (.pv (.b (Bg e))) [] := by
 refine Au Ae fn33 (by simp) rfl rfl fun F => ?_;have hl := Ac e;obtain ⟨hg, hb, hgn, hbn, hdl⟩ := he;by_cases r1 : e.rep < 1
 · have eb := F3 (e := e) fun h => by have := h.1; omega
   simp (disch := omega) only [ir33, D4, r1, eb, go_sem]
 by_cases r2 : 8 < e.rep
 · have eb := F3 (e := e) fun h => by have := h.2.1; omega
   simp (disch := omega) only [ir33, D4, r1, r2, eb, go_sem]
 by_cases r3 : (e.seq : Int) < 1
 · have eb := F3 (e := e) fun h => by have := h.2.2.1; omega
   simp (disch := omega) only [ir33, D4, Gq, r1, r2, r3, eb, go_sem]
 by_cases r4 : 1048576 < (e.seq : Int)
 · have eb := F3 (e := e) fun h => by have := h.2.2.2.1; omega
   simp (disch := omega) only [ir33, D4, Gq, r1, r2, r3, r4, eb, go_sem]
 obtain ⟨k, hk⟩ : ∃ k : Nat, e.rep = (k : Int) + 1 := ⟨(e.rep - 1).toNat, by omega⟩
 have hk8 : k < 8 := by omega
 have ek : ((k : Int) + 1 - 1) = (k : Int) := by omega
 have ekn : (e.rep - 1).toNat = k := by omega
 by_cases r5 : (e.dep k : Int) = (e.seq : Int) - 1;rotate_left
 · have eb := F3 (e := e) fun h => by have := h.2.2.2.2.1; rw [ekn] at this; omega
   simp (disch := omega) only [ir33, D4, Gq, Hi, hk, ek, r3, r4, r5, eb, go_sem]
 by_cases r6 : e.kind < 1
 · have eb := F3 (e := e) fun h => by have := h.2.2.2.2.2.1; omega
   simp (disch := omega) only [ir33, D4, Gq, Af, Hi, hk, ek, r3, r4, r5, r6, eb, go_sem]
 by_cases r7 : 9 < e.kind
 · have eb := F3 (e := e) fun h => by have := h.2.2.2.2.2.2; omega
   simp (disch := omega) only [ir33, D4, Gq, Af, Hi, hk, ek, r3, r4, r5, r6, r7, eb, go_sem]
 have hB : He e := ⟨by omega, by omega, by omega, by omega, by rw [ekn]; omega, by omega, by omega⟩
 simp (disch := omega) only [ir33, D4, Gq, Af, Fp, Hi, hk, ek, r3, r4, r5, r6, r7, go_sem];refine A1 Ae (Agp e) (fun k => k ≤ 8 ∧ ∀ i, i < k → e.dep i ≤ 1048576) (fun k => 8 - k) 0 (by simp) (Am ?_ ?_) fun j hj => ?_
 · simp (disch := omega) only [go_sem]
 · simp (disch := omega) only [go_sem]
 obtain ⟨hj1, hj2⟩ := hj;by_cases hlt : j < 8
 · by_cases hd : 1048576 < (e.dep j : Int)
   · have eb := Ah0 (e := e) fun h => by have := h j hlt; omega
     simp (disch := omega) only [Agp, hd, eb, go_sem]
   · simp (disch := omega) only [Agp, hd, go_sem];refine Ad (j + 1) _ _ rfl ⟨by omega, fun i hi => ?_⟩ (by omega) ?_ ?_
     · by_cases e : i = j
       · subst e; omega
       · exact hj2 i (by omega)
     · simp (disch := omega) only [go_sem]
     · simp (disch := omega) only [go_sem]
 obtain rfl : j = 8 := by omega
 have hD : Nd e := hj2;simp (disch := omega) only [Agp, B0, go_sem];refine Aa (Ayu e) ?_;have cz := Avd (e := e);have ck := fun h3 => Ave (e := e) hB hD h3;have hbl := Ac (Ce e);generalize Ce e = b at *

 by_cases z1' : Bx b.orep b.oseq = false
 · have eb := cz (by simp only [Cf, z1', decide_true, decide_false, Bool.true_and, Bool.false_and, Bool.and_true, Bool.and_false, Bool.and_self]);simp (disch := omega) only [Ai, Ap, Ao, Ey, hl, hbl, z1', eb, go_sem]
 have z1 : Bx b.orep b.oseq = true := by simpa using z1'
 by_cases z2' : Bx b.drep b.dseq = false
 · have eb := cz (by simp only [Cf, z1, z2', decide_true, decide_false, Bool.true_and, Bool.false_and, Bool.and_true, Bool.and_false, Bool.and_self]);simp (disch := omega) only [Ai, Ap, Ao, Ey, hl, hbl, z1, z2', eb, go_sem]
 have z2 : Bx b.drep b.dseq = true := by simpa using z2'
 by_cases z3 : b.name = [];rotate_left
 · have eb := cz (by simp only [Cf, z1, z2, z3, decide_true, decide_false, Bool.true_and, Bool.false_and, Bool.and_true, Bool.and_false, Bool.and_self]);simp (disch := omega) only [Ai, Ap, Ao, Ey, hl, hbl, z1, z2, z3, eb, go_sem]
 by_cases z4 : (b.gone.l.length : Int) = 0;rotate_left
 · have eb := cz (by simp only [Cf, z1, z2, z3, z4, decide_true, decide_false, Bool.true_and, Bool.false_and, Bool.and_true, Bool.and_false, Bool.and_self]);simp (disch := omega) only [Ai, Ap, Ao, Ey, hl, hbl, z1, z2, z3, z4, eb, go_sem]
 by_cases z5 : (b.base.l.length : Int) = 0;rotate_left
 · have eb := cz (by simp only [Cf, z1, z2, z3, z4, z5, decide_true, decide_false, Bool.true_and, Bool.false_and, Bool.and_true, Bool.and_false, Bool.and_self]);simp (disch := omega) only [Ai, Ap, Ao, Ey, hl, hbl, z1, z2, z3, z4, z5, eb, go_sem]
 by_cases z6 : b.off = 0;rotate_left
 · have eb := cz (by simp only [Cf, z1, z2, z3, z4, z5, z6, decide_true, decide_false, Bool.true_and, Bool.false_and, Bool.and_true, Bool.and_false, Bool.and_self]);simp (disch := omega) only [Ai, Ap, Ao, Ey, hl, hbl, z1, z2, z3, z4, z5, z6, eb, go_sem]
 by_cases z7 : b.data = [];rotate_left
 · have eb := cz (by simp only [Cf, z1, z2, z3, z4, z5, z6, z7, decide_true, decide_false, Bool.true_and, Bool.false_and, Bool.and_true, Bool.and_false, Bool.and_self]);simp (disch := omega) only [Ai, Ap, Ao, Ey, hl, hbl, z1, z2, z3, z4, z5, z6, z7, eb, go_sem]
 by_cases z8 : b.ward = 0;rotate_left
 · have eb := cz (by simp only [Cf, z1, z2, z3, z4, z5, z6, z7, z8, decide_true, decide_false, Bool.true_and, Bool.false_and, Bool.and_true, Bool.and_false, Bool.and_self]);simp (disch := omega) only [Ai, Ap, Ao, Ey, hl, hbl, z1, z2, z3, z4, z5, z6, z7, z8, eb, go_sem]
 have ez := ck (by simp only [Cf, z1, z2, z3, z4, z5, z6, z7, z8, decide_true, decide_false, Bool.true_and, Bool.false_and, Bool.and_true, Bool.and_false, Bool.and_self]);have hkk : e.kind = 1 ∨ e.kind = 2 ∨ e.kind = 3 ∨ e.kind = 4 ∨ e.kind = 5 ∨ e.kind = 6 ∨ e.kind = 7 ∨ e.kind = 8 ∨ e.kind = 9 := by omega
 rcases hkk with hki | hki | hki | hki | hki | hki | hki | hki | hki
 · rw [Z4 hki] at ez;simp (disch := omega) only [Ai, Ap, Ao, Ey, hl, hbl, z1, z2, z3, z4, z5, z6, z7, z8, hki, go_sem];refine Aa (Zq e) ?_;by_cases s0' : Ct e = false
   · simp only [s0', decide_true, decide_false, Bool.true_and, Bool.false_and, Bool.and_true, Bool.and_false, Bool.and_self] at ez;simp (disch := omega) only [Ai, Ap, Ao, s0', ez, go_sem]
   have s0 : Ct e = true := by simpa using s0'
   simp (disch := omega) only [Ai, Ap, Ao, s0, go_sem];refine Aa (Aer _) ?_;by_cases s1' : C2 e.name = false
   · simp only [s0, s1', decide_true, decide_false, Bool.true_and, Bool.false_and, Bool.and_true, Bool.and_false, Bool.and_self] at ez;simp (disch := omega) only [Ai, Ap, Ao, s0, s1', ez, go_sem]
   have s1 : C2 e.name = true := by simpa using s1'
   simp only [s0, s1, decide_true, decide_false, Bool.true_and, Bool.false_and, Bool.and_true, Bool.and_false, Bool.and_self] at ez;simp (disch := omega) only [Ai, Ap, Ao, s0, s1, ez, go_sem]
 · rw [Z3 hki] at ez;simp (disch := omega) only [Ai, Ap, Ao, Ey, hl, hbl, z1, z2, z3, z4, z5, z6, z7, z8, hki, go_sem];refine Aa (Zq e) ?_;by_cases s0' : Ct e = false
   · simp only [s0', decide_true, decide_false, Bool.true_and, Bool.false_and, Bool.and_true, Bool.and_false, Bool.and_self] at ez;simp (disch := omega) only [Ai, Ap, Ao, s0', ez, go_sem]
   have s0 : Ct e = true := by simpa using s0'
   simp (disch := omega) only [Ai, Ap, Ao, s0, go_sem];refine Aa (Aer _) ?_;by_cases s1' : C2 e.name = false
   · simp only [s0, s1', decide_true, decide_false, Bool.true_and, Bool.false_and, Bool.and_true, Bool.and_false, Bool.and_self] at ez;simp (disch := omega) only [Ai, Ap, Ao, s0, s1', ez, go_sem]
   have s1 : C2 e.name = true := by simpa using s1'
   simp only [s0, s1, decide_true, decide_false, Bool.true_and, Bool.false_and, Bool.and_true, Bool.and_false, Bool.and_self] at ez;simp (disch := omega) only [Ai, Ap, Ao, s0, s1, ez, go_sem]
 · rw [J0 hki] at ez;simp (disch := omega) only [Ai, Ap, Ao, Ey, hl, hbl, z1, z2, z3, z4, z5, z6, z7, z8, hki, go_sem];refine Aa (Jc _ _ _) ?_;by_cases s0' : Bj e.dep e.orep e.oseq = false
   · simp only [s0', decide_true, decide_false, Bool.true_and, Bool.false_and, Bool.and_true, Bool.and_false, Bool.and_self] at ez;simp (disch := omega) only [Ai, Ap, Ao, s0', ez, go_sem]
   have s0 : Bj e.dep e.orep e.oseq = true := by simpa using s0'
   simp (disch := omega) only [Ai, Ap, Ao, s0, go_sem];refine Aa (Ab6 (l := e.base.l) (most := 1) hb hbn) ?_;by_cases s1' : Eb e.base.l 1 e.dep = false
   · simp only [s0, s1', decide_true, decide_false, Bool.true_and, Bool.false_and, Bool.and_true, Bool.and_false, Bool.and_self] at ez;simp (disch := omega) only [Ai, Ap, Ao, s0, s1', ez, go_sem]
   have s1 : Eb e.base.l 1 e.dep = true := by simpa using s1'
   simp (disch := omega) only [Ai, Ap, Ao, s0, s1, go_sem];refine Aa (U5 (e.off)) ?_;by_cases s2' : Cl (e.off) = false
   · simp only [s0, s1, s2', decide_true, decide_false, Bool.true_and, Bool.false_and, Bool.and_true, Bool.and_false, Bool.and_self] at ez;simp (disch := omega) only [Ai, Ap, Ao, s0, s1, s2', ez, go_sem]
   have s2 : Cl (e.off) = true := by simpa using s2'
   have s2b := of_decide_eq_true s2;by_cases s3 : (1 : Int) ≤ (e.data.length : Int);rotate_left
   · simp only [s0, s1, s2, s3, decide_true, decide_false, Bool.true_and, Bool.false_and, Bool.and_true, Bool.and_false, Bool.and_self] at ez;simp (disch := omega) only [Ai, Ap, Ao, s0, s1, s2, s3, ez, go_sem]
   simp (disch := omega) only [Ai, Ap, Ao, s0, s1, s2, s3, go_sem];refine Aa (U5 ((e.data.length : Int))) ?_;by_cases s4' : Cl ((e.data.length : Int)) = false
   · simp only [s0, s1, s2, s3, s4', decide_true, decide_false, Bool.true_and, Bool.false_and, Bool.and_true, Bool.and_false, Bool.and_self] at ez;simp (disch := omega) only [Ai, Ap, Ao, s0, s1, s2, s3, s4', ez, go_sem]
   have s4 : Cl ((e.data.length : Int)) = true := by simpa using s4'
   have s4b := of_decide_eq_true s4;simp (disch := omega) only [Ai, Ap, Ao, s0, s1, s2, s3, s4, go_sem];refine Aa (U5 (e.off + (e.data.length : Int))) ?_;by_cases s5' : Cl (e.off + (e.data.length : Int)) = false
   · simp only [s0, s1, s2, s3, s4, s5', decide_true, decide_false, Bool.true_and, Bool.false_and, Bool.and_true, Bool.and_false, Bool.and_self] at ez;simp (disch := omega) only [Ai, Ap, Ao, s0, s1, s2, s3, s4, s5', ez, go_sem]
   have s5 : Cl (e.off + (e.data.length : Int)) = true := by simpa using s5'
   have s5b := of_decide_eq_true s5;simp only [s0, s1, s2, s3, s4, s5, decide_true, decide_false, Bool.true_and, Bool.false_and, Bool.and_true, Bool.and_false, Bool.and_self] at ez;simp (disch := omega) only [Ai, Ap, Ao, s0, s1, s2, s3, s4, s5, ez, go_sem]
 · rw [Nv hki] at ez;simp (disch := omega) only [Ai, Ap, Ao, Ey, hl, hbl, z1, z2, z3, z4, z5, z6, z7, z8, hki, go_sem];refine Aa (Jc _ _ _) ?_;by_cases s0' : Bj e.dep e.orep e.oseq = false
   · simp only [s0', decide_true, decide_false, Bool.true_and, Bool.false_and, Bool.and_true, Bool.and_false, Bool.and_self] at ez;simp (disch := omega) only [Ai, Ap, Ao, s0', ez, go_sem]
   have s0 : Bj e.dep e.orep e.oseq = true := by simpa using s0'
   simp (disch := omega) only [Ai, Ap, Ao, s0, go_sem];refine Aa (Ab6 (l := e.base.l) (most := 1) hb hbn) ?_;by_cases s1' : Eb e.base.l 1 e.dep = false
   · simp only [s0, s1', decide_true, decide_false, Bool.true_and, Bool.false_and, Bool.and_true, Bool.and_false, Bool.and_self] at ez;simp (disch := omega) only [Ai, Ap, Ao, s0, s1', ez, go_sem]
   have s1 : Eb e.base.l 1 e.dep = true := by simpa using s1'
   simp (disch := omega) only [Ai, Ap, Ao, s0, s1, go_sem];refine Aa (U5 (e.off)) ?_;by_cases s2' : Cl (e.off) = false
   · simp only [s0, s1, s2', decide_true, decide_false, Bool.true_and, Bool.false_and, Bool.and_true, Bool.and_false, Bool.and_self] at ez;simp (disch := omega) only [Ai, Ap, Ao, s0, s1, s2', ez, go_sem]
   have s2 : Cl (e.off) = true := by simpa using s2'
   have s2b := of_decide_eq_true s2;simp only [s0, s1, s2, decide_true, decide_false, Bool.true_and, Bool.false_and, Bool.and_true, Bool.and_false, Bool.and_self] at ez;simp (disch := omega) only [Ai, Ap, Ao, s0, s1, s2, ez, go_sem]
 · rw [Nu hki] at ez;simp (disch := omega) only [Ai, Ap, Ao, Ey, hl, hbl, z1, z2, z3, z4, z5, z6, z7, z8, hki, go_sem];refine Aa (Jc _ _ _) ?_;by_cases s0' : Bj e.dep e.orep e.oseq = false
   · simp only [s0', decide_true, decide_false, Bool.true_and, Bool.false_and, Bool.and_true, Bool.and_false, Bool.and_self] at ez;simp (disch := omega) only [Ai, Ap, Ao, s0', ez, go_sem]
   have s0 : Bj e.dep e.orep e.oseq = true := by simpa using s0'
   simp (disch := omega) only [Ai, Ap, Ao, s0, go_sem];refine Aa (Ab6 (l := e.base.l) (most := 8) hb hbn) ?_;by_cases s1' : Eb e.base.l 8 e.dep = false
   · simp only [s0, s1', decide_true, decide_false, Bool.true_and, Bool.false_and, Bool.and_true, Bool.and_false, Bool.and_self] at ez;simp (disch := omega) only [Ai, Ap, Ao, s0, s1', ez, go_sem]
   have s1 : Eb e.base.l 8 e.dep = true := by simpa using s1'
   by_cases s2 : (2 : Int) ≤ (e.base.l.length : Int);rotate_left
   · simp only [s0, s1, s2, decide_true, decide_false, Bool.true_and, Bool.false_and, Bool.and_true, Bool.and_false, Bool.and_self] at ez;simp (disch := omega) only [Ai, Ap, Ao, s0, s1, s2, ez, go_sem]
   simp (disch := omega) only [Ai, Ap, Ao, s0, s1, s2, go_sem];refine Aa (U5 ((e.data.length : Int))) ?_;by_cases s3' : Cl ((e.data.length : Int)) = false
   · simp only [s0, s1, s2, s3', decide_true, decide_false, Bool.true_and, Bool.false_and, Bool.and_true, Bool.and_false, Bool.and_self] at ez;simp (disch := omega) only [Ai, Ap, Ao, s0, s1, s2, s3', ez, go_sem]
   have s3 : Cl ((e.data.length : Int)) = true := by simpa using s3'
   have s3b := of_decide_eq_true s3;simp only [s0, s1, s2, s3, decide_true, decide_false, Bool.true_and, Bool.false_and, Bool.and_true, Bool.and_false, Bool.and_self] at ez;simp (disch := omega) only [Ai, Ap, Ao, s0, s1, s2, s3, ez, go_sem]
 · rw [Tk hki] at ez;simp (disch := omega) only [Ai, Ap, Ao, Ey, hl, hbl, z1, z2, z3, z4, z5, z6, z7, z8, hki, go_sem];refine Aa (Jc _ _ _) ?_;by_cases s0' : Bj e.dep e.orep e.oseq = false
   · simp only [s0', decide_true, decide_false, Bool.true_and, Bool.false_and, Bool.and_true, Bool.and_false, Bool.and_self] at ez;simp (disch := omega) only [Ai, Ap, Ao, s0', ez, go_sem]
   have s0 : Bj e.dep e.orep e.oseq = true := by simpa using s0'
   simp (disch := omega) only [Ai, Ap, Ao, s0, go_sem];refine Aa (Ab6 (l := e.gone.l) (most := 8) hg hgn) ?_;by_cases s1' : Eb e.gone.l 8 e.dep = false
   · simp only [s0, s1', decide_true, decide_false, Bool.true_and, Bool.false_and, Bool.and_true, Bool.and_false, Bool.and_self] at ez;simp (disch := omega) only [Ai, Ap, Ao, s0, s1', ez, go_sem]
   have s1 : Eb e.gone.l 8 e.dep = true := by simpa using s1'
   simp only [s0, s1, decide_true, decide_false, Bool.true_and, Bool.false_and, Bool.and_true, Bool.and_false, Bool.and_self] at ez;simp (disch := omega) only [Ai, Ap, Ao, s0, s1, ez, go_sem]
 · rw [Tj hki] at ez;simp (disch := omega) only [Ai, Ap, Ao, Ey, hl, hbl, z1, z2, z3, z4, z5, z6, z7, z8, hki, go_sem];refine Aa (Jc _ _ _) ?_;by_cases s0' : Bj e.dep e.orep e.oseq = false
   · simp only [s0', decide_true, decide_false, Bool.true_and, Bool.false_and, Bool.and_true, Bool.and_false, Bool.and_self] at ez;simp (disch := omega) only [Ai, Ap, Ao, s0', ez, go_sem]
   have s0 : Bj e.dep e.orep e.oseq = true := by simpa using s0'
   simp (disch := omega) only [Ai, Ap, Ao, s0, go_sem];refine Aa (Ab6 (l := e.gone.l) (most := 8) hg hgn) ?_;by_cases s1' : Eb e.gone.l 8 e.dep = false
   · simp only [s0, s1', decide_true, decide_false, Bool.true_and, Bool.false_and, Bool.and_true, Bool.and_false, Bool.and_self] at ez;simp (disch := omega) only [Ai, Ap, Ao, s0, s1', ez, go_sem]
   have s1 : Eb e.gone.l 8 e.dep = true := by simpa using s1'
   simp (disch := omega) only [Ai, Ap, Ao, s0, s1, go_sem];refine Aa (Zq e) ?_;by_cases s2' : Ct e = false
   · simp only [s0, s1, s2', decide_true, decide_false, Bool.true_and, Bool.false_and, Bool.and_true, Bool.and_false, Bool.and_self] at ez;simp (disch := omega) only [Ai, Ap, Ao, s0, s1, s2', ez, go_sem]
   have s2 : Ct e = true := by simpa using s2'
   simp (disch := omega) only [Ai, Ap, Ao, s0, s1, s2, go_sem];refine Aa (Aer _) ?_;by_cases s3' : C2 e.name = false
   · simp only [s0, s1, s2, s3', decide_true, decide_false, Bool.true_and, Bool.false_and, Bool.and_true, Bool.and_false, Bool.and_self] at ez;simp (disch := omega) only [Ai, Ap, Ao, s0, s1, s2, s3', ez, go_sem]
   have s3 : C2 e.name = true := by simpa using s3'
   simp only [s0, s1, s2, s3, decide_true, decide_false, Bool.true_and, Bool.false_and, Bool.and_true, Bool.and_false, Bool.and_self] at ez;simp (disch := omega) only [Ai, Ap, Ao, s0, s1, s2, s3, ez, go_sem]
 · rw [Ahl hki] at ez;by_cases s0 : 1 ≤ e.ward;rotate_left
   · simp only [s0, decide_true, decide_false, Bool.true_and, Bool.false_and, Bool.and_true, Bool.and_false, Bool.and_self] at ez;simp (disch := omega) only [Ai, Ap, Ao, Ey, hl, hbl, z1, z2, z3, z4, z5, z6, z7, z8, hki, s0, ez, go_sem]
   by_cases s1 : e.ward ≤ 4;rotate_left
   · simp only [s0, s1, decide_true, decide_false, Bool.true_and, Bool.false_and, Bool.and_true, Bool.and_false, Bool.and_self] at ez;simp (disch := omega) only [Ai, Ap, Ao, Ey, hl, hbl, z1, z2, z3, z4, z5, z6, z7, z8, hki, s0, s1, ez, go_sem]
   simp only [s0, s1, decide_true, decide_false, Bool.true_and, Bool.false_and, Bool.and_true, Bool.and_false, Bool.and_self] at ez;simp (disch := omega) only [Ai, Ap, Ao, Ey, hl, hbl, z1, z2, z3, z4, z5, z6, z7, z8, hki, s0, s1, ez, go_sem]
 · rw [Ahk hki] at ez;simp (disch := omega) only [Ai, Ap, Ao, Ey, hl, hbl, z1, z2, z3, z4, z5, z6, z7, z8, hki, ez, go_sem]
theorem Fs {e : Evt} (h1 : He e) (h2 : Nd e) : Bg e = (Cf (Ce e) && F6 e) := by simp [Bg, h1, h2]
theorem K2 : Bx 0 0 = true := rfl
theorem Apg (l : List Bi) (n : Int) (a : Vc) : Eb l n a = (Gy a l && decide ((l.length : Int) ≤ n)) := by unfold Eb; rw [Bool.and_comm]
theorem Awo (f : Int) (s : List UInt8) : (Cl f && (decide ((1 : Int) ≤ (s.length : Int)) && (Cl (s.length : Int) && Cl (f + (s.length : Int))))) = (Cl f && (!decide (s = []) && decide ((s.length : Int) ≤ 200 - f))) := by
 have e1 : decide ((1 : Int) ≤ (s.length : Int)) = !decide (s = []) := by
  cases s with
  | nil => rfl
  | cons a s => simp; omega
 rw [e1];unfold Cl;by_cases h1 : 0 ≤ f ∧ f ≤ 200
 · rw [decide_eq_true h1, Bool.true_and, Bool.true_and];congr 1;rw [← Bool.decide_and];exact decide_eq_decide.2 (by omega)
 · rw [decide_eq_false h1, Bool.false_and, Bool.false_and]
theorem Amt (s : List UInt8) : Cl (s.length : Int) = decide ((s.length : Int) ≤ 200) := decide_eq_decide.2 (by omega)
theorem Ar2 {e : Evt} (h : e.kind = 1) : Cf (Ce e) = Ak e false true false false false false false := by simp [Cf, Ce, Ak, h, K2, SlI.nil, Bool.and_assoc]
theorem Avn {e : Evt} (h1 : He e) (h2 : Nd e) (h : e.kind = 1) : Bg e = (Ak e false true false false false false false && (Ct e && (C2 e.name))) := by rw [Fs h1 h2, Ar2 h, Z4 h]
theorem Ar1 {e : Evt} (h : e.kind = 2) : Cf (Ce e) = Ak e false true false false false false false := by simp [Cf, Ce, Ak, h, K2, SlI.nil, Bool.and_assoc]
theorem Avm {e : Evt} (h1 : He e) (h2 : Nd e) (h : e.kind = 2) : Bg e = (Ak e false true false false false false false && (Ct e && (C2 e.name))) := by rw [Fs h1 h2, Ar1 h, Z3 h]
theorem A57 {e : Evt} (h : e.kind = 3) : Cf (Ce e) = Ak e true false false true true true false := by simp [Cf, Ce, Ak, h, K2, SlI.nil, Bool.and_assoc]
theorem Avl {e : Evt} (h1 : He e) (h2 : Nd e) (h : e.kind = 3) : Bg e = (Ak e true false false true true true false && (Bj e.dep e.orep e.oseq && (Gy e.dep e.base.l && (decide ((e.base.l.length : Int) ≤ 1) && (Cl e.off && (!decide (e.data = []) && (decide ((e.data.length : Int) ≤ 200 - e.off)))))))) := by rw [Fs h1 h2, A57 h, J0 h]; simp only [Apg, Awo, Bool.and_assoc]
theorem A1r {e : Evt} (h : e.kind = 4) : Cf (Ce e) = Ak e true false false true true false false := by simp [Cf, Ce, Ak, h, K2, SlI.nil, Bool.and_assoc]
theorem Avk {e : Evt} (h1 : He e) (h2 : Nd e) (h : e.kind = 4) : Bg e = (Ak e true false false true true false false && (Bj e.dep e.orep e.oseq && (Gy e.dep e.base.l && (decide ((e.base.l.length : Int) ≤ 1) && (Cl e.off))))) := by rw [Fs h1 h2, A1r h, Nv h]; simp only [Apg, Awo, Bool.and_assoc]
theorem A56 {e : Evt} (h : e.kind = 5) : Cf (Ce e) = Ak e true false false true false true false := by simp [Cf, Ce, Ak, h, K2, SlI.nil, Bool.and_assoc]
theorem Avj {e : Evt} (h1 : He e) (h2 : Nd e) (h : e.kind = 5) : Bg e = (Ak e true false false true false true false && (Bj e.dep e.orep e.oseq && (Gy e.dep e.base.l && (decide ((2 : Int) ≤ (e.base.l.length : Int)) && (decide ((e.base.l.length : Int) ≤ 8) && (decide ((e.data.length : Int) ≤ 200))))))) := by rw [Fs h1 h2, A56 h, Nu h]; simp only [Apg, Amt, Bool.and_assoc]; congr 3; cases decide ((e.base.l.length : Int) ≤ 8) <;> cases decide ((2 : Int) ≤ (e.base.l.length : Int)) <;> rfl
theorem A1q {e : Evt} (h : e.kind = 6) : Cf (Ce e) = Ak e true false true false false false false := by simp [Cf, Ce, Ak, h, K2, SlI.nil, Bool.and_assoc]
theorem Avi {e : Evt} (h1 : He e) (h2 : Nd e) (h : e.kind = 6) : Bg e = (Ak e true false true false false false false && (Bj e.dep e.orep e.oseq && (Eb e.gone.l 8 e.dep))) := by rw [Fs h1 h2, A1q h, Tk h]
theorem A1p {e : Evt} (h : e.kind = 7) : Cf (Ce e) = Ak e true true true false false false false := by simp [Cf, Ce, Ak, h, K2, SlI.nil, Bool.and_assoc]
theorem Avh {e : Evt} (h1 : He e) (h2 : Nd e) (h : e.kind = 7) : Bg e = (Ak e true true true false false false false && (Bj e.dep e.orep e.oseq && (Eb e.gone.l 8 e.dep && (Ct e && (C2 e.name))))) := by rw [Fs h1 h2, A1p h, Tj h]
theorem Awu {e : Evt} (h : e.kind = 8) : Cf (Ce e) = Ak e false false false false false false true := by simp [Cf, Ce, Ak, h, K2, SlI.nil, Bool.and_assoc]
theorem Avg {e : Evt} (h1 : He e) (h2 : Nd e) (h : e.kind = 8) : Bg e = (Ak e false false false false false false true && (decide (1 ≤ e.ward) && (decide (e.ward ≤ 4)))) := by rw [Fs h1 h2, Awu h, Ahl h]
theorem Awt {e : Evt} (h : e.kind = 9) : Cf (Ce e) = Ak e false false false false false false false := by simp [Cf, Ce, Ak, h, K2, SlI.nil, Bool.and_assoc]
theorem Avf {e : Evt} (h1 : He e) (h2 : Nd e) (h : e.kind = 9) : Bg e = (Ak e false false false false false false false && (true)) := by rw [Fs h1 h2, Awt h, Ahk h]
def Za (e : Evt) (k : Nat) : FS := mk [(3, .pv (.i .i64 k)), (1, .p 1 0)] [(1, some (.var (.vec 21 (Bo e))))]
theorem Aw0 {a b : Nat} (ha : a < 4294967296) (hb : 1 ≤ b ∧ b ≤ 1048576) (h : ¬ a + 1 = b) : ¬ IntKind.u32.wrap ((a : Int) + 1) = (b : Int) := by
 by_cases h1 : a + 1 < 4294967296
 · rw [Aa3 (by omega)]; omega
 · have : (a : Int) + 1 = 4294967296 := by omega
   rw [this];have : IntKind.u32.wrap 4294967296 = 0 := by decide
   rw [this]; omega
set_option maxHeartbeats 40000000 in
theorem An2 (e : Evt) (he : ev e) (hdep : ∀ i, i < 8 → e.dep i < 4294967296) {h d} : FunOk Tryz.prog 25 [.vec 21 (Bo e)] h d (.pv (.b (Bg e))) [] := by
 refine Au Ae fn25 (by simp) rfl rfl fun F => ?_;have hl := Ac e;obtain ⟨hg, hb, hgn, hbn, hdl⟩ := he;by_cases r1 : e.rep < 1
 · have eb := F3 (e := e) fun h => by have := h.1; omega
   simp (disch := omega) only [ir25, D4, r1, eb, go_sem]
 by_cases r2 : 8 < e.rep
 · have eb := F3 (e := e) fun h => by have := h.2.1; omega
   simp (disch := omega) only [ir25, D4, r1, r2, eb, go_sem]
 by_cases r3 : (e.seq : Int) < 1
 · have eb := F3 (e := e) fun h => by have := h.2.2.1; omega
   simp (disch := omega) only [ir25, D4, Gq, r1, r2, r3, eb, go_sem]
 by_cases r4 : 1048576 < (e.seq : Int)
 · have eb := F3 (e := e) fun h => by have := h.2.2.2.1; omega
   simp (disch := omega) only [ir25, D4, Gq, r1, r2, r3, r4, eb, go_sem]
 obtain ⟨k, hk⟩ : ∃ k : Nat, e.rep = (k : Int) + 1 := ⟨(e.rep - 1).toNat, by omega⟩
 have hk8 : k < 8 := by omega
 have ekn : (e.rep - 1).toNat = k := by omega
 have egv : Ec e.dep ((k : Int) + 1) = e.dep k := by
  have e1 : ((k : Int) + 1 - 1).toNat = k := by omega
  simp [Ec, e1]; omega
 have hdk := hdep k hk8;by_cases r5 : e.dep k + 1 = e.seq;rotate_left
 · have eb := F3 (e := e) fun h => by have := h.2.2.2.2.1; rw [ekn] at this; omega
   have hw := Aw0 hdk (by omega) r5;simp (disch := omega) only [ir25, D4, Gq, Fp, E7, hk, r3, r4, eb, go_sem];refine Aa (U8 _ _) ?_;simp (disch := omega) only [egv, hw, Gq, eb, go_sem]
 have r5' : (e.dep k : Int) + 1 = (e.seq : Int) := by omega
 simp (disch := omega) only [ir25, D4, Gq, Fp, E7, hk, r3, r4, go_sem];refine Aa (U8 _ _) ?_;simp (disch := omega) only [egv, r5', Gq, go_sem];refine A1 Ae (Za e) (fun k => k ≤ 8 ∧ ∀ i, i < k → e.dep i ≤ 1048576) (fun k => 8 - k) 0 (by simp) (Am ?_ ?_) fun j hj => ?_
 · simp (disch := omega) only [go_sem]
 · simp (disch := omega) only [go_sem]
 obtain ⟨hj1, hj2⟩ := hj;by_cases hlt : j < 8
 · by_cases hd : 1048576 < (e.dep j : Int)
   · have eb := Ah0 (e := e) fun h => by have := h j hlt; omega
     simp (disch := omega) only [Za, Hi, hd, eb, go_sem]
   · simp (disch := omega) only [Za, Hi, hd, go_sem];refine Ad (j + 1) _ _ rfl ⟨by omega, fun i hi => ?_⟩ (by omega) ?_ ?_
     · by_cases e : i = j
       · subst e; omega
       · exact hj2 i (by omega)
     · simp (disch := omega) only [go_sem]
     · simp (disch := omega) only [go_sem]
 obtain rfl : j = 8 := by omega
 have hD : Nd e := hj2;simp (disch := omega) only [Za, Ac, go_sem];refine Aa (Oz _ _ _) ?_;simp (disch := omega) only [Ac, go_sem];refine Aa (Az _ _) ?_;by_cases hz' : Bx e.drep e.dseq = false
 all_goals first
  | (have hpl : Ct e = Bj e.dep e.drep e.dseq := by simp only [Ct, hz', Bool.false_or]
     simp (disch := omega) only [hz', go_sem];refine Aa (Oz _ _ _) ?_)
  | (have hz : Bx e.drep e.dseq = true := by simpa using hz'
     have hpl : Ct e = true := by simp only [Ct, hz, Bool.true_or]
     simp (disch := omega) only [hz, go_sem])
 all_goals by_cases hgl0 : (e.gone.l.length : Int) ≤ 8
 all_goals first
  | (have hgl : Eb e.gone.l 8 e.dep = Gy e.dep e.gone.l := by simp only [Eb, hgl0, decide_true, Bool.true_and]
     (try simp only [De, Dd, Dc, Db, Da, C9, C8, C7]); simp (disch := omega) only [hgl0, go_sem]
     refine Aa (Anm (l := e.gone.l) hg hgn) ?_;simp (disch := omega) only [hgl0, go_sem])
  | (have hgl : Eb e.gone.l 8 e.dep = false := by simp only [Eb, hgl0, decide_false, Bool.false_and]
     (try simp only [De, Dd, Dc, Db, Da, C9, C8, C7]); simp (disch := omega) only [hgl0, go_sem])
 all_goals refine Aa (Anm (l := e.base.l) hb hbn) ?_
 all_goals by_cases ho1 : 0 ≤ e.off
 rotate_left
 all_goals by_cases ho2 : e.off ≤ 200
 all_goals try (exfalso; omega)
 all_goals first
  | (have hso : Cl e.off = true := decide_eq_true ⟨ho1, ho2⟩
     simp (disch := omega) only [hgl0, ho1, ho2, go_sem])
  | (have hso : Cl e.off = false := decide_eq_false (by omega)
     simp (disch := omega) only [hgl0, ho1, ho2, go_sem])
 all_goals
  by_cases hkr : 1 ≤ e.kind ∧ e.kind ≤ 9;rotate_left
  · have eb := F3 (e := e) fun h => by have := h.2.2.2.2.2; omega
    have hn1 : ¬ e.kind = 1 := by omega
    have hn2 : ¬ e.kind = 2 := by omega
    have hn3 : ¬ e.kind = 3 := by omega
    have hn4 : ¬ e.kind = 4 := by omega
    have hn5 : ¬ e.kind = 5 := by omega
    have hn6 : ¬ e.kind = 6 := by omega
    have hn7 : ¬ e.kind = 7 := by omega
    have hn8 : ¬ e.kind = 8 := by omega
    have hn9 : ¬ e.kind = 9 := by omega
    (try simp only [De, Dd, Dc, Db, Da, C9, C8, C7]); simp (disch := omega) only [Ac, hn1, hn2, hn3, hn4, hn5, hn6, hn7, hn8, hn9, eb, go_sem]
  have hB : He e := ⟨by omega, by omega, by omega, by omega, by rw [ekn]; omega, by omega, by omega⟩
  have hkk : e.kind = 1 ∨ e.kind = 2 ∨ e.kind = 3 ∨ e.kind = 4 ∨ e.kind = 5 ∨ e.kind = 6 ∨ e.kind = 7 ∨ e.kind = 8 ∨ e.kind = 9 := by omega
  rcases hkk with hki | hki | hki | hki | hki | hki | hki | hki | hki
  · have ez := Avn hB hD hki;by_cases s0' : Ct e = false
    · first
       | exact absurd (hpl.symm.trans s0') (by decide)
       | (have s0b := hpl.symm.trans s0'
          simp only [s0', decide_true, decide_false, Bool.true_and, Bool.false_and, Bool.and_true, Bool.and_false, Bool.and_self, Bool.not_true, Bool.not_false] at ez
          (try simp only [De, Dd, Dc, Db, Da, C9, C8, C7]); simp (disch := omega) only [Ac, hki, s0b, ez, go_sem])
    have s0 : Ct e = true := by simpa using s0'
    have s0b := hpl.symm.trans s0
    first
     | exact absurd s0b (by decide)
     | ((try simp only [De, Dd, Dc, Db, Da, C9, C8, C7]); simp (disch := omega) only [Ac, hki, s0b, go_sem]
        refine Aa (Zr _) ?_;by_cases s1' : C2 e.name = false
        · simp only [s0, s1', decide_true, decide_false, Bool.true_and, Bool.false_and, Bool.and_true, Bool.and_false, Bool.and_self, Bool.not_true, Bool.not_false] at ez;simp (disch := omega) only [Ac, s0b, s1', ez, go_sem]
        have s1 : C2 e.name = true := by simpa using s1'
        simp (disch := omega) only [Ac, s0b, s1, go_sem];refine Aa (Ag5 e) ?_;simp only [s0, s1, decide_true, decide_false, Bool.true_and, Bool.false_and, Bool.and_true, Bool.and_false, Bool.and_self, Bool.not_true, Bool.not_false] at ez;simp (disch := omega) only [s0b, s1, ez, go_sem])
  · have ez := Avm hB hD hki;by_cases s0' : Ct e = false
    · first
       | exact absurd (hpl.symm.trans s0') (by decide)
       | (have s0b := hpl.symm.trans s0'
          simp only [s0', decide_true, decide_false, Bool.true_and, Bool.false_and, Bool.and_true, Bool.and_false, Bool.and_self, Bool.not_true, Bool.not_false] at ez
          (try simp only [De, Dd, Dc, Db, Da, C9, C8, C7]); simp (disch := omega) only [Ac, hki, s0b, ez, go_sem])
    have s0 : Ct e = true := by simpa using s0'
    have s0b := hpl.symm.trans s0
    first
     | exact absurd s0b (by decide)
     | ((try simp only [De, Dd, Dc, Db, Da, C9, C8, C7]); simp (disch := omega) only [Ac, hki, s0b, go_sem]
        refine Aa (Zr _) ?_;by_cases s1' : C2 e.name = false
        · simp only [s0, s1', decide_true, decide_false, Bool.true_and, Bool.false_and, Bool.and_true, Bool.and_false, Bool.and_self, Bool.not_true, Bool.not_false] at ez;simp (disch := omega) only [Ac, s0b, s1', ez, go_sem]
        have s1 : C2 e.name = true := by simpa using s1'
        simp (disch := omega) only [Ac, s0b, s1, go_sem];refine Aa (Ag5 e) ?_;simp only [s0, s1, decide_true, decide_false, Bool.true_and, Bool.false_and, Bool.and_true, Bool.and_false, Bool.and_self, Bool.not_true, Bool.not_false] at ez;simp (disch := omega) only [s0b, s1, ez, go_sem])
  · have ez := Avl hB hD hki;by_cases s0' : Bj e.dep e.orep e.oseq = false
    · simp only [s0', decide_true, decide_false, Bool.true_and, Bool.false_and, Bool.and_true, Bool.and_false, Bool.and_self, Bool.not_true, Bool.not_false] at ez
      (try simp only [De, Dd, Dc, Db, Da, C9, C8, C7]); simp (disch := omega) only [Ac, hki, s0', ez, go_sem]
    have s0 : Bj e.dep e.orep e.oseq = true := by simpa using s0'
    by_cases s1' : Gy e.dep e.base.l = false
    · simp only [s0, s1', decide_true, decide_false, Bool.true_and, Bool.false_and, Bool.and_true, Bool.and_false, Bool.and_self, Bool.not_true, Bool.not_false] at ez
      (try simp only [De, Dd, Dc, Db, Da, C9, C8, C7]); simp (disch := omega) only [Ac, hki, s0, s1', ez, go_sem]
    have s1 : Gy e.dep e.base.l = true := by simpa using s1'
    by_cases s2 : (e.base.l.length : Int) ≤ 1;rotate_left
    · simp only [s0, s1, s2, decide_true, decide_false, Bool.true_and, Bool.false_and, Bool.and_true, Bool.and_false, Bool.and_self, Bool.not_true, Bool.not_false] at ez
      (try simp only [De, Dd, Dc, Db, Da, C9, C8, C7]); simp (disch := omega) only [Ac, hki, s0, s1, s2, ez, go_sem]
    by_cases s3' : Cl e.off = false
    · first
       | exact absurd (hso.symm.trans s3') (by decide)
       | (have s3b := hso.symm.trans s3'
          simp only [s0, s1, s2, s3', decide_true, decide_false, Bool.true_and, Bool.false_and, Bool.and_true, Bool.and_false, Bool.and_self, Bool.not_true, Bool.not_false] at ez
          (try simp only [De, Dd, Dc, Db, Da, C9, C8, C7]); simp (disch := omega) only [Ac, hki, s0, s1, s2, s3b, ez, go_sem])
    have s3 : Cl e.off = true := by simpa using s3'
    have s3b := hso.symm.trans s3
    first
     | exact absurd s3b (by decide)
     | (by_cases s4 : e.data = []
        · simp only [s0, s1, s2, s3, s4, decide_true, decide_false, Bool.true_and, Bool.false_and, Bool.and_true, Bool.and_false, Bool.and_self, Bool.not_true, Bool.not_false] at ez
          (try simp only [De, Dd, Dc, Db, Da, C9, C8, C7]); simp (disch := omega) only [Ac, hki, s0, s1, s2, s4, ez, go_sem]
        by_cases s5 : (e.data.length : Int) ≤ 200 - e.off;rotate_left
        · simp only [s0, s1, s2, s3, s4, s5, decide_true, decide_false, Bool.true_and, Bool.false_and, Bool.and_true, Bool.and_false, Bool.and_self, Bool.not_true, Bool.not_false] at ez
          (try simp only [De, Dd, Dc, Db, Da, C9, C8, C7]); simp (disch := omega) only [Ac, hki, s0, s1, s2, s4, s5, ez, go_sem]
        (try simp only [De, Dd, Dc, Db, Da, C9, C8, C7]); simp (disch := omega) only [Ac, hki, s0, s1, s2, s4, s5, go_sem]
        refine Aa (Aev e) ?_;simp only [s0, s1, s2, s3, s4, s5, decide_true, decide_false, Bool.true_and, Bool.false_and, Bool.and_true, Bool.and_false, Bool.and_self, Bool.not_true, Bool.not_false] at ez;simp (disch := omega) only [s0, s1, s2, s4, s5, ez, go_sem])
  · have ez := Avk hB hD hki;by_cases s0' : Bj e.dep e.orep e.oseq = false
    · simp only [s0', decide_true, decide_false, Bool.true_and, Bool.false_and, Bool.and_true, Bool.and_false, Bool.and_self, Bool.not_true, Bool.not_false] at ez
      (try simp only [De, Dd, Dc, Db, Da, C9, C8, C7]); simp (disch := omega) only [Ac, hki, s0', ez, go_sem]
    have s0 : Bj e.dep e.orep e.oseq = true := by simpa using s0'
    by_cases s1' : Gy e.dep e.base.l = false
    · simp only [s0, s1', decide_true, decide_false, Bool.true_and, Bool.false_and, Bool.and_true, Bool.and_false, Bool.and_self, Bool.not_true, Bool.not_false] at ez
      (try simp only [De, Dd, Dc, Db, Da, C9, C8, C7]); simp (disch := omega) only [Ac, hki, s0, s1', ez, go_sem]
    have s1 : Gy e.dep e.base.l = true := by simpa using s1'
    by_cases s2 : (e.base.l.length : Int) ≤ 1;rotate_left
    · simp only [s0, s1, s2, decide_true, decide_false, Bool.true_and, Bool.false_and, Bool.and_true, Bool.and_false, Bool.and_self, Bool.not_true, Bool.not_false] at ez
      (try simp only [De, Dd, Dc, Db, Da, C9, C8, C7]); simp (disch := omega) only [Ac, hki, s0, s1, s2, ez, go_sem]
    by_cases s3' : Cl e.off = false
    · first
       | exact absurd (hso.symm.trans s3') (by decide)
       | (have s3b := hso.symm.trans s3'
          simp only [s0, s1, s2, s3', decide_true, decide_false, Bool.true_and, Bool.false_and, Bool.and_true, Bool.and_false, Bool.and_self, Bool.not_true, Bool.not_false] at ez
          (try simp only [De, Dd, Dc, Db, Da, C9, C8, C7]); simp (disch := omega) only [Ac, hki, s0, s1, s2, s3b, ez, go_sem])
    have s3 : Cl e.off = true := by simpa using s3'
    have s3b := hso.symm.trans s3
    first
     | exact absurd s3b (by decide)
     | ((try simp only [De, Dd, Dc, Db, Da, C9, C8, C7]); simp (disch := omega) only [Ac, hki, s0, s1, s2, go_sem]
        refine Aa (Ai4 e) ?_;simp only [s0, s1, s2, s3, decide_true, decide_false, Bool.true_and, Bool.false_and, Bool.and_true, Bool.and_false, Bool.and_self, Bool.not_true, Bool.not_false] at ez;simp (disch := omega) only [s0, s1, s2, ez, go_sem])
  · have ez := Avj hB hD hki;by_cases s0' : Bj e.dep e.orep e.oseq = false
    · simp only [s0', decide_true, decide_false, Bool.true_and, Bool.false_and, Bool.and_true, Bool.and_false, Bool.and_self, Bool.not_true, Bool.not_false] at ez
      (try simp only [De, Dd, Dc, Db, Da, C9, C8, C7]); simp (disch := omega) only [Ac, hki, s0', ez, go_sem]
    have s0 : Bj e.dep e.orep e.oseq = true := by simpa using s0'
    by_cases s1' : Gy e.dep e.base.l = false
    · simp only [s0, s1', decide_true, decide_false, Bool.true_and, Bool.false_and, Bool.and_true, Bool.and_false, Bool.and_self, Bool.not_true, Bool.not_false] at ez
      (try simp only [De, Dd, Dc, Db, Da, C9, C8, C7]); simp (disch := omega) only [Ac, hki, s0, s1', ez, go_sem]
    have s1 : Gy e.dep e.base.l = true := by simpa using s1'
    by_cases s2 : (2 : Int) ≤ (e.base.l.length : Int);rotate_left
    · simp only [s0, s1, s2, decide_true, decide_false, Bool.true_and, Bool.false_and, Bool.and_true, Bool.and_false, Bool.and_self, Bool.not_true, Bool.not_false] at ez
      (try simp only [De, Dd, Dc, Db, Da, C9, C8, C7]); simp (disch := omega) only [Ac, hki, s0, s1, s2, ez, go_sem]
    by_cases s3 : (e.base.l.length : Int) ≤ 8;rotate_left
    · simp only [s0, s1, s2, s3, decide_true, decide_false, Bool.true_and, Bool.false_and, Bool.and_true, Bool.and_false, Bool.and_self, Bool.not_true, Bool.not_false] at ez
      (try simp only [De, Dd, Dc, Db, Da, C9, C8, C7]); simp (disch := omega) only [Ac, hki, s0, s1, s2, s3, ez, go_sem]
    by_cases s4 : (e.data.length : Int) ≤ 200;rotate_left
    · simp only [s0, s1, s2, s3, s4, decide_true, decide_false, Bool.true_and, Bool.false_and, Bool.and_true, Bool.and_false, Bool.and_self, Bool.not_true, Bool.not_false] at ez
      (try simp only [De, Dd, Dc, Db, Da, C9, C8, C7]); simp (disch := omega) only [Ac, hki, s0, s1, s2, s3, s4, ez, go_sem]
    (try simp only [De, Dd, Dc, Db, Da, C9, C8, C7]); simp (disch := omega) only [Ac, hki, s0, s1, s2, s3, s4, go_sem]
    refine Aa (Ai5 e) ?_;simp only [s0, s1, s2, s3, s4, decide_true, decide_false, Bool.true_and, Bool.false_and, Bool.and_true, Bool.and_false, Bool.and_self, Bool.not_true, Bool.not_false] at ez;simp (disch := omega) only [s0, s1, s2, s3, s4, ez, go_sem]
  · have ez := Avi hB hD hki;by_cases s0' : Bj e.dep e.orep e.oseq = false
    · simp only [s0', decide_true, decide_false, Bool.true_and, Bool.false_and, Bool.and_true, Bool.and_false, Bool.and_self, Bool.not_true, Bool.not_false] at ez
      (try simp only [De, Dd, Dc, Db, Da, C9, C8, C7]); simp (disch := omega) only [Ac, hki, s0', ez, go_sem]
    have s0 : Bj e.dep e.orep e.oseq = true := by simpa using s0'
    by_cases s1' : Eb e.gone.l 8 e.dep = false
    · first
       | exact absurd (hgl.symm.trans s1') (by decide)
       | (have s1b := hgl.symm.trans s1'
          simp only [s0, s1', decide_true, decide_false, Bool.true_and, Bool.false_and, Bool.and_true, Bool.and_false, Bool.and_self, Bool.not_true, Bool.not_false] at ez
          (try simp only [De, Dd, Dc, Db, Da, C9, C8, C7]); simp (disch := omega) only [Ac, hki, s0, s1b, ez, go_sem])
    have s1 : Eb e.gone.l 8 e.dep = true := by simpa using s1'
    have s1b := hgl.symm.trans s1
    first
     | exact absurd s1b (by decide)
     | ((try simp only [De, Dd, Dc, Db, Da, C9, C8, C7]); simp (disch := omega) only [Ac, hki, s0, s1b, go_sem]
        refine Aa (Ano e) ?_;simp only [s0, s1, decide_true, decide_false, Bool.true_and, Bool.false_and, Bool.and_true, Bool.and_false, Bool.and_self, Bool.not_true, Bool.not_false] at ez;simp (disch := omega) only [s0, s1b, ez, go_sem])
  · have ez := Avh hB hD hki;by_cases s0' : Bj e.dep e.orep e.oseq = false
    · simp only [s0', decide_true, decide_false, Bool.true_and, Bool.false_and, Bool.and_true, Bool.and_false, Bool.and_self, Bool.not_true, Bool.not_false] at ez
      (try simp only [De, Dd, Dc, Db, Da, C9, C8, C7]); simp (disch := omega) only [Ac, hki, s0', ez, go_sem]
    have s0 : Bj e.dep e.orep e.oseq = true := by simpa using s0'
    by_cases s1' : Eb e.gone.l 8 e.dep = false
    · first
       | exact absurd (hgl.symm.trans s1') (by decide)
       | (have s1b := hgl.symm.trans s1'
          simp only [s0, s1', decide_true, decide_false, Bool.true_and, Bool.false_and, Bool.and_true, Bool.and_false, Bool.and_self, Bool.not_true, Bool.not_false] at ez
          (try simp only [De, Dd, Dc, Db, Da, C9, C8, C7]); simp (disch := omega) only [Ac, hki, s0, s1b, ez, go_sem])
    have s1 : Eb e.gone.l 8 e.dep = true := by simpa using s1'
    have s1b := hgl.symm.trans s1
    first
     | exact absurd s1b (by decide)
     | (by_cases s2' : Ct e = false
        · first
           | exact absurd (hpl.symm.trans s2') (by decide)
           | (have s2b := hpl.symm.trans s2'
              simp only [s0, s1, s2', decide_true, decide_false, Bool.true_and, Bool.false_and, Bool.and_true, Bool.and_false, Bool.and_self, Bool.not_true, Bool.not_false] at ez
              (try simp only [De, Dd, Dc, Db, Da, C9, C8, C7]); simp (disch := omega) only [Ac, hki, s0, s1b, s2b, ez, go_sem])
        have s2 : Ct e = true := by simpa using s2'
        have s2b := hpl.symm.trans s2
        first
         | exact absurd s2b (by decide)
         | ((try simp only [De, Dd, Dc, Db, Da, C9, C8, C7]); simp (disch := omega) only [Ac, hki, s0, s1b, s2b, go_sem]
            refine Aa (Zr _) ?_;by_cases s3' : C2 e.name = false
            · simp only [s0, s1, s2, s3', decide_true, decide_false, Bool.true_and, Bool.false_and, Bool.and_true, Bool.and_false, Bool.and_self, Bool.not_true, Bool.not_false] at ez;simp (disch := omega) only [Ac, s0, s1b, s2b, s3', ez, go_sem]
            have s3 : C2 e.name = true := by simpa using s3'
            simp (disch := omega) only [Ac, s0, s1b, s2b, s3, go_sem];refine Aa (Ai3 e) ?_;simp only [s0, s1, s2, s3, decide_true, decide_false, Bool.true_and, Bool.false_and, Bool.and_true, Bool.and_false, Bool.and_self, Bool.not_true, Bool.not_false] at ez;simp (disch := omega) only [s0, s1b, s2b, s3, ez, go_sem]))
  · have ez := Avg hB hD hki;by_cases s0 : 1 ≤ e.ward;rotate_left
    · simp only [s0, decide_true, decide_false, Bool.true_and, Bool.false_and, Bool.and_true, Bool.and_false, Bool.and_self, Bool.not_true, Bool.not_false] at ez
      (try simp only [De, Dd, Dc, Db, Da, C9, C8, C7]); simp (disch := omega) only [Ac, hki, s0, ez, go_sem]
    by_cases s1 : e.ward ≤ 4;rotate_left
    · simp only [s0, s1, decide_true, decide_false, Bool.true_and, Bool.false_and, Bool.and_true, Bool.and_false, Bool.and_self, Bool.not_true, Bool.not_false] at ez
      (try simp only [De, Dd, Dc, Db, Da, C9, C8, C7]); simp (disch := omega) only [Ac, hki, s0, s1, ez, go_sem]
    (try simp only [De, Dd, Dc, Db, Da, C9, C8, C7]); simp (disch := omega) only [Ac, hki, s0, s1, go_sem]
    refine Aa (Ath e) ?_;simp only [s0, s1, decide_true, decide_false, Bool.true_and, Bool.false_and, Bool.and_true, Bool.and_false, Bool.and_self, Bool.not_true, Bool.not_false] at ez;simp (disch := omega) only [s0, s1, ez, go_sem]
  · have ez := Avf hB hD hki
    (try simp only [De, Dd, Dc, Db, Da, C9, C8, C7]); simp (disch := omega) only [Ac, hki, go_sem]
    refine Aa (Ati e) ?_;simp only [decide_true, decide_false, Bool.true_and, Bool.false_and, Bool.and_true, Bool.and_false, Bool.and_self, Bool.not_true, Bool.not_false] at ez;simp (disch := omega) only [ez, go_sem]
end Go.Proofs.YthhomcfimdkfhaaGreat.Fw
namespace Go.Proofs.YthhomcfimdkfhaaGreat.Fw
open Go.RowKit Go.Proofs
def zs (n : Nat) : List UInt8 := List.replicate n 0
theorem Qx (n : Nat) : (zs n).length = n := by simp [zs]
theorem Agd (n : Nat) : zs (n + 1) = zs n ++ [0] := by simp [zs, List.replicate_succ']
theorem Aws : zs 0 = [] := rfl
theorem A18 (l : List UInt8) : Bb l ++ [[.i .u8 0]] = Bb (l ++ [0]) := by
 rw [← Sx]; rfl
def Y0 (n : Int) (k : Nat) : FS := mk [(4, .pv (.i .i64 k)), (3, .pv (.s (zs k))), (0, .pv (.i .i64 n))] []
theorem Ag2 (n : Int) (hn : n ≤ 1000) {h d} : FunOk Tryz.prog 138 [.pv (.i .i64 n)] h d (.pv (.s (zs n.toNat))) [] := by
 refine Au Ae fn138 (by simp) rfl rfl fun F => ?_;simp (disch := omega) only [ir138, go_sem];refine A1 Ae (Y0 n) (fun k => k ≤ n.toNat) (fun k => n.toNat - k) 0 (by omega) (Am ?_ ?_) fun k hk => ?_
 · simp (disch := omega) only [Aws, go_sem]
 · simp (disch := omega) only [go_sem]
 have hl := Qx k;by_cases hlt : (k : Int) < n
 · simp (disch := omega) only [Y0, hl, go_sem];refine Ad (k + 1) _ _ rfl (by omega) (by omega) ?_ ?_
   · simp (disch := omega) only [Agd, go_sem]
   · simp (disch := omega) only [go_sem]
 · obtain rfl : k = n.toNat := by omega
   simp (disch := omega) only [Y0, go_sem]
def Ie (data : List UInt8) (o : Nat) (s : List UInt8) : List UInt8 :=
 (data ++ zs (o + s.length - data.length)).take o ++ s ++ (data ++ zs (o + s.length - data.length)).drop (o + s.length)
def Dx (data : List UInt8) (off : Int) (s : List UInt8) : Prop := off < 0 ∨ 200 < off ∨ 200 < (data.length : Int) ∨ 200 - off < s.length
open Classical in
noncomputable def Mm (data : List UInt8) (off : Int) (s : List UInt8) : SV := if Dx data off s then .tup [.pv (.s []), .pv (.i .i64 4)] else .tup [.pv (.s (Ie data off.toNat s)), .pv (.i .i64 0)]
theorem Eh {data off s} (h : Dx data off s) : Mm data off s = .tup [.pv (.s []), .pv (.i .i64 4)] := by unfold Mm; rw [if_pos h]
theorem Iy {data off s} (h : ¬ Dx data off s) : Mm data off s = .tup [.pv (.s (Ie data off.toNat s)), .pv (.i .i64 0)] := by unfold Mm; rw [if_neg h]
def Y1 (data s : List UInt8) (o k : Nat) : FS := mk [(8, .os 60), (2, .pv (.s s)), (1, .pv (.i .i64 o))] [(60, some (.row 1 (Bb (data ++ zs k))))]
set_option maxHeartbeats 2000000 in
theorem Ag3 (data s : List UInt8) (off : Int) {h d} : FunOk Tryz.prog 111 [.pv (.s data), .pv (.i .i64 off), .pv (.s s)] h d (Mm data off s) [] := by
 refine Au Ae fn111 (by simp) rfl (by unfold Mm; split <;> rfl) fun F => ?_;by_cases h1 : off < 0
 · rw [Eh (.inl h1)];simp (disch := omega) only [ir111, go_sem]
 by_cases h2 : 200 < off
 · rw [Eh (.inr (.inl h2))];simp (disch := omega) only [ir111, go_sem]
 by_cases h3 : 200 < (data.length : Int)
 · rw [Eh (.inr (.inr (.inl h3)))];simp (disch := omega) only [ir111, go_sem]
 by_cases h4 : 200 - off < (s.length : Int)
 · rw [Eh (.inr (.inr (.inr h4)))];simp (disch := omega) only [ir111, go_sem]
 have hok : ¬ Dx data off s := by unfold Dx; omega
 obtain ⟨o, rfl⟩ : ∃ o : Nat, off = o := ⟨off.toNat, by omega⟩
 rw [Iy hok];simp (disch := omega) only [ir111, go_sem];refine A1 Ae (Y1 data s o) (fun k => k ≤ o + s.length - data.length) (fun k => o + s.length - data.length - k) 0 (by omega) (Ew 28 60 (by decide) rfl (Am ?_ ?_)) fun k hk => ?_
 · simp (disch := omega) only [go_sem]
 · simp (disch := omega) only [Aws, go_sem]
 have hl : (data ++ zs k).length = data.length + k := by simp [zs]
 by_cases hlt : data.length + k < o + s.length
 · simp (disch := omega) only [Y1, hl, A18, go_sem];refine ⟨k + 1, by omega, by omega, Ew 38 60 (by decide) rfl (Am ?_ ?_)⟩
   · simp (disch := omega) only [go_sem]
   · simp (disch := omega) only [Agd, List.append_assoc, go_sem]
 · obtain rfl : k = o + s.length - data.length := by omega
   have hp : Ie data o s = (data ++ zs (o + s.length - data.length)).take o ++ s ++ (data ++ zs (o + s.length - data.length)).drop (o + s.length) := rfl;generalize hX : data ++ zs (o + s.length - data.length) = X at *;have hle : o + s.length ≤ X.length := by omega
   have e1 : min s.length (X.length - o) = s.length := by omega
   have e2 : s.take (X.length - o) = s := List.take_of_length_le (by omega);simp (disch := omega) only [Y1, hX, e1, e2, hp, go_sem]
set_option maxHeartbeats 2000000 in
theorem Ab2 (data s : List UInt8) (off : Int) (hs : s.length ≤ 1000) {h d} : FunOk Tryz.prog 122 [.pv (.s data), .pv (.i .i64 off), .pv (.s s)] h d (Mm data off s) [] := by
 refine Au Ae fn122 (by simp) rfl (by unfold Mm; split <;> rfl) fun F => ?_;by_cases h1 : off < 0
 · rw [Eh (.inl h1)];simp (disch := omega) only [ir122, go_sem]
 by_cases h2 : 200 < off
 · rw [Eh (.inr (.inl h2))];simp (disch := omega) only [ir122, go_sem]
 by_cases h3 : 200 < (data.length : Int)
 · rw [Eh (.inr (.inr (.inl h3)))];simp (disch := omega) only [ir122, go_sem]
 by_cases h4 : 200 < off + (s.length : Int)
 · rw [Eh (.inr (.inr (.inr (by omega))))];simp (disch := omega) only [ir122, go_sem]
 have hok : ¬ Dx data off s := by unfold Dx; omega
 obtain ⟨o, rfl⟩ : ∃ o : Nat, off = o := ⟨off.toNat, by omega⟩
 rw [Iy hok];simp (disch := omega) only [ir122, go_sem];refine Aa (Ag2 _ (by omega)) ?_;have hp : Ie data o s = (data ++ zs (o + s.length - data.length)).take o ++ s ++ (data ++ zs (o + s.length - data.length)).drop (o + s.length) := rfl;have e1 : ((o : Int) + (s.length : Int) - (data.length : Int)).toNat = o + s.length - data.length := by omega
 have e2 : ((o : Int) + (s.length : Int)).toNat = o + s.length := by omega
 have hl : (data ++ zs (o + s.length - data.length)).length = data.length + (o + s.length - data.length) := by simp [zs]
 have hz := Qx (o + s.length - data.length);rw [e1];generalize hX : data ++ zs (o + s.length - data.length) = X at *;simp (disch := omega) only [hX, e2, hp, List.length_append, List.length_take, List.length_drop, hz, go_sem]
def N6 (data : List UInt8) (n : Nat) : List UInt8 := if n < data.length then data.take n else data ++ zs (n - data.length)
open Classical in
noncomputable def Sr (data : List UInt8) (n : Int) : SV := if n < 0 ∨ 200 < n then .tup [.pv (.s []), .pv (.i .i64 4)] else .tup [.pv (.s (N6 data n.toNat)), .pv (.i .i64 0)]
theorem I2 {data n} (h : n < 0 ∨ 200 < n) : Sr data n = .tup [.pv (.s []), .pv (.i .i64 4)] := by unfold Sr; rw [if_pos h]
theorem Ky {data n} (h : ¬ (n < 0 ∨ 200 < n)) : Sr data n = .tup [.pv (.s (N6 data n.toNat)), .pv (.i .i64 0)] := by unfold Sr; rw [if_neg h]
theorem A55 (n : Nat) : List.replicate n [PV.i .u8 0] = Bb (zs n) := by simp [zs, Bb]
set_option maxHeartbeats 2000000 in
theorem Awk (data : List UInt8) (n : Int) (hd : data.length ≤ 1000) {h d} : FunOk Tryz.prog 110 [.pv (.s data), .pv (.i .i64 n)] h d (Sr data n) [] := by
 refine Au Ae fn110 (by simp) rfl (by unfold Sr; split <;> rfl) fun F => ?_;by_cases h1 : n < 0
 · rw [I2 (.inl h1)];simp (disch := omega) only [ir110, go_sem]
 by_cases h2 : 200 < n
 · rw [I2 (.inr h2)];simp (disch := omega) only [ir110, go_sem]
 rw [Ky (by omega)];obtain ⟨o, rfl⟩ : ∃ o : Nat, n = o := ⟨n.toNat, by omega⟩
 by_cases hlt : o < data.length
 · have e : N6 data o = data.take o := by unfold N6; rw [if_pos hlt]
   simp (disch := omega) only [ir110, e, go_sem]
 · have e : N6 data o = data ++ zs (o - data.length) := by unfold N6; rw [if_neg hlt]
   have e1 : ((o : Int) - (data.length : Int)).toNat = o - data.length := by omega
   have hz := Qx (o - data.length);simp (disch := omega) only [ir110, e, e1, A55, hz, go_sem]
set_option maxHeartbeats 2000000 in
theorem An0 (data : List UInt8) (n : Int) (hd : data.length ≤ 1000) {h d} : FunOk Tryz.prog 121 [.pv (.s data), .pv (.i .i64 n)] h d (Sr data n) [] := by
 refine Au Ae fn121 (by simp) rfl (by unfold Sr; split <;> rfl) fun F => ?_;by_cases h1 : n < 0
 · rw [I2 (.inl h1)];simp (disch := omega) only [ir121, go_sem]
 by_cases h2 : 200 < n
 · rw [I2 (.inr h2)];simp (disch := omega) only [ir121, go_sem]
 rw [Ky (by omega)];obtain ⟨o, rfl⟩ : ∃ o : Nat, n = o := ⟨n.toNat, by omega⟩
 have hz := Qx (o - data.length);have e1 : ((o : Int) - (data.length : Int)).toNat = o - data.length := by omega
 have e : (data ++ zs (o - data.length)).take o = N6 data o := by
  unfold N6;split
  · rw [show o - data.length = 0 by omega, Aws, List.append_nil]
  · exact List.take_of_length_le (by simp [zs]; omega)
 simp (disch := omega) only [ir121, go_sem];refine Aa (Ag2 _ (by omega)) ?_;simp (disch := omega) only [e1, e, hz, List.length_append, go_sem]
theorem A2o {m n lo hi : Nat} {es fs : List (List PV)} {h} (hm : h m = some (.row 11 fs)) (hn : h n = some (.row 11 es)) (hne : m ≠ n) (hfs : fs ≠ []) (hes : es ≠ []) (hlt : lo < hi) : Yo Tryz.prog 132 [.os m, .ov n 11 lo hi] h (.pv (.b false)) := by
 intro F N ρ s a w hR hh vs hc;simp only [ConcL] at hc;obtain ⟨v, us, rfl, hv, u, us', rfl, hu, rfl⟩ := hc;have hsm := (hh m (by simp [A8, tn])).trans hm;have hsn := (hh n (by simp [A8, tn])).trans hn;refine ⟨.bool false, ?_, E4⟩;rw [run_callFunc_extern (fn := (Tryz.prog.funcs[132]?).getD default) (by kernel_rfl) (by kernel_rfl) (by kernel_rfl) (by kernel_rfl) (e := Extern.SlicesOverlaps.overlaps #[45, 45] #[4]) (by kernel_rfl)];rw [Ja (tS := 45) (e := 55) (by kernel_rfl) (by kernel_rfl) (by decide) hR hsm hsn hne hfs hes hlt hv hu];rfl
set_option maxHeartbeats 4000000 in
theorem Ab4 (es : List (List PV)) (cs : List PV) (i : Nat) (hi : i ≤ es.length) (hb : es.length ≤ 1000) (hes : ∀ c ∈ es, c.length = 11) (hcs : cs.length = 11) {h d} (h1 : h 16 = some (.row 11 es)) (h2 : h 55 = some (.row 11 [cs])) : FunOk Tryz.prog 113 [.os 16, .pv (.i .i64 i), .os 55] h d (.os d) [.del 16, .del 55, .new d (.row 11 (es.take i ++ cs :: es.drop i))] := by
 refine Aad Ae fn113 (by simp) rfl fun F => ?_;simp only [Cp];by_cases he : i = es.length
 · subst he;have e1 : es.take es.length ++ cs :: es.drop es.length = es ++ [cs] := by simp
   rw [e1];simp (disch := omega) only [ir113, h1, h2, go_sem]
 · have hne : es ≠ [] := by intro e; subst e; simp at hi; exact he (by simpa using hi)
   simp (disch := omega) only [ir113, h1, h2, go_sem];intro c hc;by_cases hcap : c < es.length + 1
   · have hp : ((c : Int) < (es.length : Int) + ((1 : Nat) : Int)) = True := eq_true (by omega);have ek : ((es.length : Int) + ((1 : Nat) : Int) - (i : Int)).toNat = es.length + 1 - i := by omega
     (try simp only [De, Dd, Dc, Db, Da, C9, C8, C7]); simp (disch := omega) only [hp, ek, go_sem]
     generalize hT : List.take i es ++ List.replicate (es.length + 1 - i) _ = T;have hTl : T.length = es.length + 1 := by rw [← hT]; simp; omega
     have t1 : T.take i = es.take i := by
      rw [← hT, List.take_append_of_le_length (by simp; omega), List.take_take, Nat.min_self]
     have hi' : (es.take i).length = i := by simp; omega
     have m1 : min 1 (es.length + 1 - i) = 1 := by omega
     have m2 : [cs].take (es.length + 1 - i) = [cs] := List.take_of_length_le (by simp; omega);have hU : (es.take i ++ [cs] ++ T.drop (i + 1)).length = es.length + 1 := by simp [hTl]; omega
     have e1 : ((i : Int) + ((1 : Nat) : Int)).toNat = i + 1 := by omega
     have u1 : (es.take i ++ [cs] ++ T.drop (i + 1)).take (i + 1) = es.take i ++ [cs] := by
      rw [List.take_append_of_le_length (by simp; omega)];exact List.take_of_length_le (by simp; omega)
     have u2 : (es.take es.length).drop i = es.drop i := by rw [List.take_length]
     have u3 : min (es.drop i).length (es.length + 1 - (i + 1)) = es.length - i := by simp
     have u4 : (es.drop i).take (es.length + 1 - (i + 1)) = es.drop i := List.take_of_length_le (by simp);have u5 : (es.take i ++ [cs] ++ T.drop (i + 1)).drop (i + 1 + (es.length - i)) = [] := List.drop_of_length_le (by rw [hU]; omega);have u6 : es.take i ++ cs :: es.drop i = es.take i ++ [cs] ++ es.drop i := by simp
     simp only [hTl, t1, m1, m2, e1, List.length_singleton];simp only [hU, u1, u2, u3, u4, u5, u6, List.append_nil];exact ⟨by omega, by omega, trivial⟩
   · have hp : ((c : Int) < (es.length : Int) + ((1 : Nat) : Int)) = False := eq_false (by omega)
     (try simp only [De, Dd, Dc, Db, Da, C9, C8, C7]); simp (disch := omega) only [hp, go_sem]
     intro g hg hgs;have hg1 : g.length = 1 := by omega
     have e1 : ((i : Int) + ((1 : Nat) : Int)).toNat = i + 1 := by omega
     have hE : (es ++ g).length = es.length + 1 := by simp [hg1]
     refine ⟨by omega, ?_⟩;rw [e1];refine Qs (A2o (es := es ++ g) (fs := [cs]) rfl rfl (by decide) (by simp) (by simp [hne]) (by omega)) ?_;have v1 : ((es ++ g).take (es ++ g).length).drop i = (es ++ g).drop i := by rw [List.take_length]
     have v2 : min ((es ++ g).drop i).length ((es ++ g).length - (i + 1)) = es.length - i := by simp [hg1]; omega
     have v3 : ((es ++ g).drop i).take ((es ++ g).length - (i + 1)) = es.drop i := by
      rw [hE, List.drop_append_of_le_length hi, show es.length + 1 - (i + 1) = (es.drop i).length from by simp];exact List.take_left
     have v4 : (es ++ g).drop (i + 1 + (es.length - i)) = [] := List.drop_of_length_le (by omega);have v5 : ((es ++ g).take (i + 1) ++ es.drop i).length = es.length + 1 := by simp [hg1]; omega
     have v6 : ((es ++ g).take (i + 1) ++ es.drop i).take i = es.take i := by
      rw [List.take_append_of_le_length (by simp; omega), List.take_take, Nat.min_eq_left (by omega), List.take_append_of_le_length hi]
     have v7 : ((es ++ g).take (i + 1) ++ es.drop i).drop (i + 1) = es.drop i := by
      rw [List.drop_append_of_le_length (by simp; omega), List.drop_of_length_le (by simp; omega), List.nil_append]
     have m1 : min 1 (es.length + 1 - i) = 1 := by omega
     have m2 : [cs].take (es.length + 1 - i) = [cs] := List.take_of_length_le (by simp; omega);have u6 : es.take i ++ cs :: es.drop i = es.take i ++ [cs] ++ es.drop i := by simp
     simp (disch := omega) only [e1, v1, v2, v3, v4, v5, v6, v7, m1, m2, u6, go_sem]
theorem Atm {x : SV} {f : Bool} {z : Nat} {es : List (List PV)} {h d} (hx : Co h [x] = [.pv (.sl f z es)]) (hl : Bc [x] = true) (hz : es = [] ∨ z = 11) (hb : es.length ≤ 1000) (hs : SV.closedL [x] = true) :
 FunOk Tryz.prog 41 [x] h d (.os d) [.new d (.row 11 es)] := by
 refine Acz Ae fn41 (by simp) hl (.inl hs) fun F => ?_;rw [hx];simp (disch := omega) only [ir41, go_sem];intro b hb';cases b
 · simp (disch := omega) only [go_sem]
 · have he : es = [] := by
    cases es with
    | nil => rfl
    | cons c l => exact absurd (hb' (by simp)) (by simp)
   subst he
   (try simp only [De, Dd, Dc, Db, Da, C9, C8, C7]); simp (disch := omega) only [go_sem]
   decide
structure Ver where
 rep : Int
 seq : Nat
 data : List UInt8
 gone : Vc
def A4 (v : Ver) : List PV := .i .i64 v.rep :: .i .u32 v.seq :: .s v.data :: vE v.gone
def Pg : List Ver → Int → Nat → Nat → Nat × Bool
 | [], _, _, k => (k, false)
 | v :: l, r, q, k => if v.rep = r ∧ v.seq = q then (k, true) else if Bp r q v.rep v.seq = true then (k, false) else Pg l r q (k + 1)
theorem Cq (v : Ver) (K : KK) : LoadK (some (A4 v)) 0 2 true K = K (.vec 2 [.i .i64 v.rep, .i .u32 v.seq]) [] := by
 simp only [LoadK, Ik, eq_iff_iff];exact ⟨fun h => h.2.2, fun h => ⟨by simp [A4], .inl trivial, h⟩⟩
theorem Jf (v : Ver) (K : KK) : LoadK (some (A4 v)) 0 11 true K = K (.vec 11 (A4 v)) [] := by
 simp only [LoadK, Ik, eq_iff_iff];have e : ((A4 v).drop 0).take 11 = A4 v := List.take_of_length_le (by simp [A4, vE, Cy]);rw [e];exact ⟨fun h => h.2.2, fun h => ⟨by simp [A4, vE, Cy], .inl trivial, h⟩⟩
theorem Gs (r : Int) (q : Nat) : Ed [K1.int .i64, K1.int .u32] [.i .i64 r, .i .u32 q] = True := eq_true rfl
def Ass (f : Bool) (l : List Ver) (r : Int) (q k : Nat) : FS := mk [(10, .pv (.i .i64 k)), (9, .pv (.i .i64 l.length)), (8, .pv (.sl f 11 (l.map A4))), (3, .p 3 0), (0, .pv (.sl f 11 (l.map A4)))] [(3, some (.var (.vec 2 [.i .i64 r, .i .u32 q])))]
set_option maxHeartbeats 1000000 in
theorem Ayv {x : SV} {f : Bool} {l : List Ver} (r : Int) (q : Nat) {h d} (hx : Co h [x, .vec 2 [.i .i64 r, .i .u32 q]] = [.pv (.sl f 11 (l.map A4)), .vec 2 [.i .i64 r, .i .u32 q]]) (hl : Bc [x, .vec 2 [.i .i64 r, .i .u32 q]] = true) (hn : l.length ≤ 1000) :
 FunOk Tryz.prog 112 [x, .vec 2 [.i .i64 r, .i .u32 q]] h d (.tup [.pv (.i .i64 (Pg l r q 0).1), .pv (.b (Pg l r q 0).2)]) [] := by
 refine Cn Ae fn112 (by simp) hl rfl fun F => ?_;rw [hx];simp (disch := omega) only [ir112, List.length_map, go_sem];refine A1 Ae (Ass f l r q) (fun k => k ≤ l.length ∧ Pg l r q 0 = Pg (l.drop k) r q k) (fun k => l.length - k) 0 (by simp) (Am ?_ ?_) fun k hk => ?_
 · simp (disch := omega) only [go_sem]
 · simp (disch := omega) only [go_sem]
 obtain ⟨hk1, hk2⟩ := hk;by_cases hlt : k < l.length
 · have hd : l.drop k = l[k] :: l.drop (k + 1) := List.drop_eq_getElem_cons hlt;have he : (l.map A4)[k]? = some (A4 l[k]) := by simp [hlt]
   rw [hd] at hk2;generalize l[k] = v at *;simp only [Pg] at hk2;by_cases hid : v.rep = r ∧ v.seq = q
   · rw [if_pos hid] at hk2;have hp := Jw hid;simp (disch := omega) only [Ass, List.length_map, he, Jf, Cq, Gs, hp, hk2, go_sem]
   · rw [if_neg hid] at hk2;have hp := Ht hid;simp (disch := omega) only [Ass, List.length_map, he, Jf, Cq, Gs, hp, go_sem];refine Aa (Mo _ _ _ _) ?_;by_cases hl : Bp r q v.rep v.seq = true
     · rw [if_pos hl] at hk2;simp (disch := omega) only [hl, hk2, go_sem]
     · rw [if_neg hl] at hk2;have hl' : Bp r q v.rep v.seq = false := by simpa using hl
       simp (disch := omega) only [hl', go_sem];refine Ad (k + 1) _ _ rfl ⟨by omega, hk2⟩ (by omega) ?_ ?_
       · simp (disch := omega) only [List.length_map, go_sem]
       · simp (disch := omega) only [go_sem]
 · have : k = l.length := by omega
   subst this;rw [List.drop_length] at hk2;simp only [Pg] at hk2;rw [hk2]
   (try simp only [De, Dd, Dc, Db, Da, C9, C8, C7]); simp (disch := omega) only [Ass, List.length_map, go_sem]
theorem Mu (v : Ver) (K : KK) : LoadK (some (A4 v)) 3 8 true K = K (.vec 8 (vE v.gone)) [] := by
 simp only [LoadK, Ik, eq_iff_iff];have e : ((A4 v).drop 3).take 8 = vE v.gone := List.take_of_length_le (by simp [A4, vE, Cy]);rw [e];exact ⟨fun h => h.2.2, fun h => ⟨by simp [A4, vE, Cy], .inl trivial, h⟩⟩
theorem G1 (v : Ver) : (A4 v).length = 11 := by simp [A4, vE, Cy]
theorem W3 (l : List Ver) : ∀ c ∈ l.map A4, c.all PV.flat = true := by
 intro c hc;obtain ⟨v, _, rfl⟩ := List.mem_map.1 hc;simp [A4, vE, Cy, PV.flat]
theorem Ac3 (v : Ver) : Ed [K1.int .i64, K1.int .u32, .str, .int .u32, .int .u32, .int .u32, .int .u32, .int .u32, .int .u32, .int .u32, .int .u32] (A4 v) = True := eq_true rfl
theorem Abx (c : List PV) : Xg c c = true := by simp [Xg]
def Ad8 (f g : Bool) (l m : List Ver) (k : Nat) : FS := mk [(5, .pv (.i .i64 k)), (0, .pv (.sl f 11 (l.map A4))), (1, .pv (.sl g 11 (m.map A4)))] []
theorem Ayk {x y : SV} {f g : Bool} {l m : List Ver} {h d} (hx : Co h [x, y] = [.pv (.sl f 11 (l.map A4)), .pv (.sl g 11 (m.map A4))]) (hl : Bc [x, y] = true) (he : l.map A4 = m.map A4) (hn : l.length ≤ 1000) :
 FunOk Tryz.prog 39 [x, y] h d (.pv (.b true)) [] := by
 refine Cn Ae fn39 (by simp) hl rfl fun F => ?_;have hlen : l.length = m.length := by simpa using congrArg List.length he
 rw [hx];simp (disch := omega) only [ir39, List.length_map, hlen, go_sem];refine A1 Ae (Ad8 f g l m) (fun k => k ≤ m.length) (fun k => m.length - k) 0 (by simp) (Am ?_ ?_) fun k hk => ?_
 · simp (disch := omega) only [go_sem]
 · simp (disch := omega) only [go_sem]
 by_cases hlt : k < m.length
 · have h2 : (m.map A4)[k]? = some (A4 m[k]) := by simp [hlt]
   have h1 : (l.map A4)[k]? = some (A4 m[k]) := by rw [he]; exact h2
   generalize m[k] = v at *;have hp := Abx (A4 v);have hf := Ac3 v;simp (disch := omega) only [Ad8, List.length_map, hlen, h1, h2, Jf, hp, hf, go_sem];refine Ad (k + 1) _ _ rfl (by omega) (by omega) ?_ ?_
   · simp (disch := omega) only [go_sem]
   · simp (disch := omega) only [go_sem]
 · simp (disch := omega) only [Ad8, List.length_map, hlen, go_sem]
def Bm : List Ver → Int → Nat → Option Ver
 | [], _, _ => none
 | v :: l, r, q => if v.rep = r ∧ v.seq = q then some v else Bm l r q
def Ago (f : Bool) (l : List Ver) (r : Int) (q k : Nat) : FS := mk [(5, .pv (.i .i64 k)), (0, .pv (.sl f 11 (l.map A4))), (3, .p 3 0)] [(3, some (.var (.vec 2 [.i .i64 r, .i .u32 q])))]
theorem Awj {x : SV} {f : Bool} {l : List Ver} (r : Int) (q : Nat) {h d} (hx : Co h [x, .vec 2 [.i .i64 r, .i .u32 q]] = [.pv (.sl f 11 (l.map A4)), .vec 2 [.i .i64 r, .i .u32 q]]) (hl : Bc [x, .vec 2 [.i .i64 r, .i .u32 q]] = true) (hn : l.length ≤ 1000) :
 FunOk Tryz.prog 123 [x, .vec 2 [.i .i64 r, .i .u32 q]] h d (.pv (.b (Bm l r q).isSome)) [] := by
 refine Cn Ae fn123 (by simp) hl rfl fun F => ?_;rw [hx];simp (disch := omega) only [ir123, List.length_map, go_sem];refine A1 Ae (Ago f l r q) (fun k => k ≤ l.length ∧ Bm l r q = Bm (l.drop k) r q) (fun k => l.length - k) 0 (by simp) (Am ?_ ?_) fun k hk => ?_
 · simp (disch := omega) only [go_sem]
 · simp (disch := omega) only [go_sem]
 obtain ⟨hk1, hk2⟩ := hk;by_cases hlt : k < l.length
 · have hd : l.drop k = l[k] :: l.drop (k + 1) := List.drop_eq_getElem_cons hlt;have he : (l.map A4)[k]? = some (A4 l[k]) := by simp [hlt]
   rw [hd] at hk2;generalize l[k] = v at *;simp only [Bm] at hk2;by_cases hid : v.rep = r ∧ v.seq = q
   · rw [if_pos hid] at hk2;have hp := Jw hid;simp (disch := omega) only [Ago, List.length_map, he, Cq, Gs, hp, hk2, Option.isSome_some, go_sem]
   · rw [if_neg hid] at hk2;have hp := Ht hid;simp (disch := omega) only [Ago, List.length_map, he, Cq, Gs, hp, go_sem];refine Ad (k + 1) _ _ rfl ⟨by omega, hk2⟩ (by omega) ?_ ?_
     · simp (disch := omega) only [go_sem]
     · simp (disch := omega) only [go_sem]
 · have : k = l.length := by omega
   subst this;rw [List.drop_length] at hk2;simp only [Bm] at hk2;rw [hk2];simp (disch := omega) only [Ago, List.length_map, Option.isSome_none, go_sem]
def Mj (v : Ver) (r : Int) (q : Nat) : Prop := v.rep = r ∧ v.seq = q
instance (v : Ver) (r : Int) (q : Nat) : Decidable (Mj v r q) := inferInstanceAs (Decidable (_ ∧ _))
theorem O3 (v : Ver) (K : KK) : LoadK (some (A4 v)) 2 1 false K = K (.pv (.s v.data)) [] := by
 simp only [LoadK, Ik, eq_iff_iff];exact ⟨fun h => h.2.2, fun h => ⟨by simp [A4], .inr trivial, h⟩⟩
theorem Qf {r : Int} {q : Nat} {r' : Int} {q' : Nat} : Bp r q r' q' = true ↔ (q < q' ∨ q = q' ∧ r < r') := by simp [Bp]
theorem O6 {r : Int} {q : Nat} {r' : Int} {q' : Nat} {r'' : Int} {q'' : Nat} (h : Bp r q r' q' = true) (k : Bp r' q' r'' q'' = true) : Bp r q r'' q'' = true := by
 rw [Qf] at *; omega
theorem Aab {r : Int} {q : Nat} {r' : Int} {q' : Nat} (h : Bp r q r' q' = true) : ¬ (r = r' ∧ q = q') := by
 rw [Qf] at h; omega
theorem Auo {r : Int} {q : Nat} {r' : Int} {q' : Nat} (h : Bp r q r' q' = true) : ¬ Bp r' q' r q = true := by
 rw [Qf] at *; omega
theorem Aph {r : Int} {q : Nat} {r' : Int} {q' : Nat} (h : ¬ (r = r' ∧ q = q')) (k : ¬ Bp r q r' q' = true) : Bp r' q' r q = true := by
 rw [Qf] at *; omega
def Ci (l : List Ver) : Prop := l.Pairwise fun a b => Bp a.rep a.seq b.rep b.seq = true
theorem H7 : ∀ {l : List Ver} {r q k i}, Pg l r q k = (i, true) → k ≤ i ∧ ∃ v, l[i - k]? = some v ∧ Mj v r q ∧ Bm l r q = some v
 | [], r, q, k, i, h => by simp [Pg] at h
 | v :: l, r, q, k, i, h => by
   simp only [Pg] at h;split at h
   · rename_i hs;cases h;exact ⟨Nat.le_refl _, v, by simp, hs, by simp [Bm, hs]⟩
   · rename_i hs;split at h
     · cases h
     · obtain ⟨h1, u, h2, h3, h4⟩ := H7 h;refine ⟨by omega, u, ?_, h3, by simp only [Bm]; rw [if_neg hs]; exact h4⟩;rw [show i - k = (i - (k + 1)) + 1 by omega, List.getElem?_cons_succ]; exact h2
theorem Hp : ∀ {l : List Ver} {r q k i}, Ci l → Pg l r q k = (i, false) → k ≤ i ∧ i - k ≤ l.length ∧ Bm l r q = none ∧ (∀ v ∈ l, ¬ Mj v r q) ∧ (∀ v ∈ l.take (i - k), Bp v.rep v.seq r q = true) ∧ ∀ v ∈ l.drop (i - k), Bp r q v.rep v.seq = true
 | [], r, q, k, i, _, h => by simp only [Pg] at h; cases h; simp [Bm]
 | v :: l, r, q, k, i, hs, h => by
   obtain ⟨h1, h2⟩ := List.pairwise_cons.1 hs;simp only [Pg] at h;split at h
   · cases h
   · rename_i hn;split at h
     · rename_i hlt;cases h;have hall : ∀ u ∈ v :: l, Bp r q u.rep u.seq = true := fun u hu => by
        rcases List.mem_cons.1 hu with rfl | hu
        · exact hlt
        · exact O6 hlt (h1 u hu)
       have hno : ∀ u ∈ v :: l, ¬ Mj u r q := fun u hu e => Aab (hall u hu) ⟨e.1.symm, e.2.symm⟩;refine ⟨Nat.le_refl _, by simp, ?_, hno, by simp, by simpa using hall⟩;have : ∀ m : List Ver, (∀ u ∈ m, ¬ Mj u r q) → Bm m r q = none := fun m hm => by
        induction m with
        | nil => rfl
        | cons u m ih => simp only [Bm]; rw [if_neg (show ¬ (u.rep = r ∧ u.seq = q) from hm u List.mem_cons_self)]; exact ih fun x hx => hm x (List.mem_cons_of_mem _ hx)
       exact this _ hno
     · rename_i hge;obtain ⟨g1, g2, g3, g4, g5, g6⟩ := Hp h2 h;have e : i - k = (i - (k + 1)) + 1 := by omega
       refine ⟨by omega, by rw [e]; simpa using g2, by simp only [Bm]; rw [if_neg hn]; exact g3, fun u hu => ?_, ?_, ?_⟩
       · rcases List.mem_cons.1 hu with rfl | hu
         · exact hn
         · exact g4 u hu
       · rw [e, List.take_succ_cons];intro u hu;rcases List.mem_cons.1 hu with rfl | hu
         · exact Aph (fun e => hn ⟨e.1.symm, e.2.symm⟩) hge
         · exact g5 u hu
       · rw [e, List.drop_succ_cons]; exact g6
theorem Lt {l : List Ver} {r : Int} {q : Nat} : Bm l r q = none ↔ ∀ v ∈ l, ¬ Mj v r q := by
 induction l with
 | nil => simp [Bm]
 | cons u m ih =>
   simp only [Bm];by_cases h : u.rep = r ∧ u.seq = q
   · rw [if_pos h];exact ⟨fun e => (nomatch e), fun e => absurd h (e u List.mem_cons_self)⟩
   · rw [if_neg h, ih];simp only [List.mem_cons, forall_eq_or_imp];exact ⟨fun e => ⟨h, e⟩, fun e => e.2⟩
theorem X5 {l : List Ver} {r : Int} {q : Nat} {v : Ver} (h : Bm l r q = some v) : v ∈ l ∧ Mj v r q := by
 induction l with
 | nil => simp [Bm] at h
 | cons u m ih =>
   simp only [Bm] at h;by_cases e : u.rep = r ∧ u.seq = q
   · rw [if_pos e] at h; cases h; exact ⟨List.mem_cons_self, e⟩
   · rw [if_neg e] at h; exact ⟨List.mem_cons_of_mem _ (ih h).1, (ih h).2⟩
def Dp (l : List Ver) (r : Int) (q : Nat) : List UInt8 × Int := if r = 0 ∧ q = 0 then ([], 0) else match Bm l r q with
 | some v => (v.data, 0)
 | none => ([], 2)
theorem Qp {l : List Ver} {r : Int} {q : Nat} (h : r = 0 ∧ q = 0) : Dp l r q = ([], 0) := by simp [Dp, h]
theorem Lv {l : List Ver} {r : Int} {q : Nat} {v : Ver} (h : ¬ (r = 0 ∧ q = 0)) (k : Bm l r q = some v) : Dp l r q = (v.data, 0) := by unfold Dp; rw [if_neg h, k]
theorem Qo {l : List Ver} {r : Int} {q : Nat} (h : ¬ (r = 0 ∧ q = 0)) (k : Bm l r q = none) : Dp l r q = ([], 2) := by unfold Dp; rw [if_neg h, k]
theorem Ayg : Xg [.i .i64 0, .i .u32 0] [.i .i64 0, .i .u32 0] = true := by simp [Xg]
theorem Ayh {r : Int} {q : Nat} (h : ¬ (r = 0 ∧ q = 0)) : Xg [.i .i64 r, .i .u32 q] [.i .i64 0, .i .u32 0] = false := Ht (q' := 0) fun e => h e
theorem Ahu : Ed [K1.int .i64, K1.int .u32] [.i .i64 0, .i .u32 0] = True := eq_true rfl
set_option maxHeartbeats 1000000 in
theorem Anz {x : SV} {f : Bool} {l : List Ver} (r : Int) (q : Nat) {h d} (hx : Co h [x, .vec 2 [.i .i64 r, .i .u32 q]] = [.pv (.sl f 11 (l.map A4)), .vec 2 [.i .i64 r, .i .u32 q]]) (hl : Bc [x, .vec 2 [.i .i64 r, .i .u32 q]] = true) (hs : Ci l) (hn : l.length ≤ 1000) :
 FunOk Tryz.prog 109 [x, .vec 2 [.i .i64 r, .i .u32 q]] h d (.tup [.pv (.s (Dp l r q).1), .pv (.i .i64 (Dp l r q).2)]) [] := by
 refine Cn Ae fn109 (by simp) hl rfl fun F => ?_;rw [hx];by_cases hz : r = 0 ∧ q = 0
 · have e := Qp (l := l) hz;rw [e];obtain ⟨rfl, rfl⟩ := hz;have e1 := Ayg;have e2 := Ahu
   (try simp only [De, Dd, Dc, Db, Da, C9, C8, C7]); simp (disch := omega) only [ir109, e1, e2, Int.natCast_zero, go_sem]
 · have hp := Ayh hz;simp (disch := omega) only [ir109, Ahu, Gs, hp, go_sem];refine Aa (Ayv (l := l) r q rfl rfl hn) ?_;rcases ha : Pg l r q 0 with ⟨i, b⟩
   cases b with
   | true =>
     obtain ⟨_, v, h2, h3, h4⟩ := H7 ha;rw [Lv hz h4];have he : (l.map A4)[i]? = some (A4 v) := by rw [List.getElem?_map, show l[i]? = some v from by simpa using h2]; rfl
     have hi : i < l.length := by
      have := (List.getElem?_eq_some_iff.1 h2).1; simpa using this
     (try simp only [De, Dd, Dc, Db, Da, C9, C8, C7]); simp (disch := omega) only [List.length_map, he, O3, go_sem]
   | false =>
     obtain ⟨_, _, h3, _⟩ := Hp hs ha;rw [Qo hz h3]
     (try simp only [De, Dd, Dc, Db, Da, C9, C8, C7]); simp (disch := omega) only [go_sem]
def Jl (f : Bool) (l : List Ver) (r : Int) (q k : Nat) : FS := mk [(6, .pv (.i .i64 k)), (0, .pv (.sl f 11 (l.map A4))), (3, .p 3 0)] [(3, some (.var (.vec 2 [.i .i64 r, .i .u32 q])))]
set_option maxHeartbeats 1000000 in
theorem Ag7 {x : SV} {f : Bool} {l : List Ver} (r : Int) (q : Nat) {h d} (hx : Co h [x, .vec 2 [.i .i64 r, .i .u32 q]] = [.pv (.sl f 11 (l.map A4)), .vec 2 [.i .i64 r, .i .u32 q]]) (hl : Bc [x, .vec 2 [.i .i64 r, .i .u32 q]] = true) (hn : l.length ≤ 1000) :
 FunOk Tryz.prog 27 [x, .vec 2 [.i .i64 r, .i .u32 q]] h d (.tup [.pv (.s (Dp l r q).1), .pv (.i .i64 (Dp l r q).2)]) [] := by
 refine Cn Ae fn27 (by simp) hl rfl fun F => ?_;rw [hx];by_cases hz : r = 0 ∧ q = 0
 · have e := Qp (l := l) hz;rw [e];obtain ⟨rfl, rfl⟩ := hz
   (try simp only [De, Dd, Dc, Db, Da, C9, C8, C7]); simp (disch := omega) only [ir27, Int.natCast_zero, go_sem]
 · have hk : ∀ K : Prop, K → K := fun _ h => h;by_cases hr : r = 0
   · subst hr;have hq : ¬ (q : Int) = 0 := by omega
     simp (disch := omega) only [ir27, hq, go_sem];refine A1 Ae (Jl f l 0 q) (fun k => k ≤ l.length ∧ Bm l 0 q = Bm (l.drop k) 0 q) (fun k => l.length - k) 0 (by simp) (Am ?_ ?_) fun k hk => ?_
     · simp (disch := omega) only [go_sem]
     · simp (disch := omega) only [go_sem]
     obtain ⟨hk1, hk2⟩ := hk;by_cases hlt : k < l.length
     · have hd : l.drop k = l[k] :: l.drop (k + 1) := List.drop_eq_getElem_cons hlt;have he : (l.map A4)[k]? = some (A4 l[k]) := by simp [hlt]
       rw [hd] at hk2;generalize l[k] = v at *;simp only [Bm] at hk2;by_cases hid : v.rep = 0 ∧ v.seq = q
       · rw [if_pos hid] at hk2;have hp := Jw hid;rw [Lv hz hk2]
         (try simp only [De, Dd, Dc, Db, Da, C9, C8, C7]); simp (disch := omega) only [Jl, List.length_map, he, Cq, Gs, hp, O3, go_sem]
       · rw [if_neg hid] at hk2;have hp := Ht hid;simp (disch := omega) only [Jl, List.length_map, he, Cq, Gs, hp, go_sem];refine Ad (k + 1) _ _ rfl ⟨by omega, hk2⟩ (by omega) ?_ ?_
         · simp (disch := omega) only [go_sem]
         · simp (disch := omega) only [go_sem]
     · obtain rfl : k = l.length := by omega
       rw [List.drop_length] at hk2;rw [Qo hz hk2]
       (try simp only [De, Dd, Dc, Db, Da, C9, C8, C7]); simp (disch := omega) only [Jl, List.length_map, go_sem]
   · simp (disch := omega) only [ir27, hr, go_sem];refine A1 Ae (Jl f l r q) (fun k => k ≤ l.length ∧ Bm l r q = Bm (l.drop k) r q) (fun k => l.length - k) 0 (by simp) (Am ?_ ?_) fun k hk => ?_
     · simp (disch := omega) only [go_sem]
     · simp (disch := omega) only [go_sem]
     obtain ⟨hk1, hk2⟩ := hk;by_cases hlt : k < l.length
     · have hd : l.drop k = l[k] :: l.drop (k + 1) := List.drop_eq_getElem_cons hlt;have he : (l.map A4)[k]? = some (A4 l[k]) := by simp [hlt]
       rw [hd] at hk2;generalize l[k] = v at *;simp only [Bm] at hk2;by_cases hid : v.rep = r ∧ v.seq = q
       · rw [if_pos hid] at hk2;have hp := Jw hid;rw [Lv hz hk2]
         (try simp only [De, Dd, Dc, Db, Da, C9, C8, C7]); simp (disch := omega) only [Jl, List.length_map, he, Cq, Gs, hp, O3, go_sem]
       · rw [if_neg hid] at hk2;have hp := Ht hid;simp (disch := omega) only [Jl, List.length_map, he, Cq, Gs, hp, go_sem];refine Ad (k + 1) _ _ rfl ⟨by omega, hk2⟩ (by omega) ?_ ?_
         · simp (disch := omega) only [go_sem]
         · simp (disch := omega) only [go_sem]
     · obtain rfl : k = l.length := by omega
       rw [List.drop_length] at hk2;rw [Qo hz hk2]
       (try simp only [De, Dd, Dc, Db, Da, C9, C8, C7]); simp (disch := omega) only [Jl, List.length_map, go_sem]
theorem P8 (b : Bi) (K : KK) : LoadK (some (Ek b)) 0 2 true K = K (.vec 2 [.i .i64 b.1, .i .u32 b.2]) [] := by
 simp only [LoadK, Ik, eq_iff_iff];exact ⟨fun h => h.2.2, fun h => ⟨by simp [Ek], .inl trivial, h⟩⟩
def En (v : Ver) (r : Int) (q : Nat) : Ver := { v with gone := A3 v.gone r q }
def Dm (l : List Ver) (bs : List Bi) (r : Int) (q : Nat) : List Ver := l.map fun x => if (x.rep, x.seq) ∈ bs then En x r q else x
theorem T6 (g : Vc) (r : Int) (q : Nat) : A3 (A3 g r q) r q = A3 g r q := by
 unfold A3;split
 · funext i;simp only [Ds];split <;> simp
 · rfl
theorem Nt (l : List Ver) (r : Int) (q : Nat) : Dm l [] r q = l := by simp [Dm]
theorem Xs (l : List Ver) (bs) (r : Int) (q : Nat) : (Dm l bs r q).length = l.length := by simp [Dm]
theorem Gi (x : Ver) (bs : List Bi) (r : Int) (q : Nat) : (if (x.rep, x.seq) ∈ bs then En x r q else x).rep = x.rep ∧ (if (x.rep, x.seq) ∈ bs then En x r q else x).seq = x.seq := by split <;> exact ⟨rfl, rfl⟩
theorem P5 {l : List Ver} {bs} {r : Int} {q : Nat} (h : Ci l) : Ci (Dm l bs r q) := by
 unfold Dm Ci;rw [List.pairwise_map];refine List.Pairwise.imp (fun {a b} hab => ?_) h;rw [(Gi a bs r q).1, (Gi a bs r q).2, (Gi b bs r q).1, (Gi b bs r q).2]; exact hab
theorem Adi (bs : List Bi) (r : Int) (q : Nat) (r' : Int) (q' : Nat) : ∀ (l : List Ver) (k : Nat), Pg (Dm l bs r q) r' q' k = Pg l r' q' k
 | [], k => rfl
 | x :: l, k => by
   have ih := Adi bs r q r' q' l (k + 1);unfold Dm at ih ⊢;simp only [List.map_cons, Pg, ih, (Gi x bs r q).1, (Gi x bs r q).2]
theorem Abk {l : List Ver} (h : Ci l) {i j : Nat} {a b : Ver} (hi : l[i]? = some a) (hj : l[j]? = some b) (he : a.rep = b.rep ∧ a.seq = b.seq) : i = j := by
 obtain ⟨h1, rfl⟩ := List.getElem?_eq_some_iff.1 hi;obtain ⟨h2, rfl⟩ := List.getElem?_eq_some_iff.1 hj;rcases Nat.lt_trichotomy i j with h3 | h3 | h3
 · exact absurd he (Aab (List.pairwise_iff_getElem.1 h i j h1 h2 h3))
 · exact h3
 · exact absurd ⟨he.1.symm, he.2.symm⟩ (Aab (List.pairwise_iff_getElem.1 h j i h2 h1 h3))
theorem Aor {l : List Ver} (h : Ci l) {bs : List Bi} {b : Bi} {r : Int} {q : Nat} {i : Nat} {u : Ver} (hi : (Dm l bs r q)[i]? = some u) (hu : Mj u b.1 b.2) :
 (Dm l bs r q).set i (En u r q) = Dm l (bs ++ [b]) r q := by
 apply List.ext_getElem?;intro j;have hi' := hi;unfold Dm at hi';rw [List.getElem?_map] at hi';obtain ⟨x, hx, rfl⟩ := Option.map_eq_some_iff.1 hi';have hxi : (x.rep, x.seq) = b := by
  have h1 := (Gi x bs r q).1;have h2 := (Gi x bs r q).2;obtain ⟨g1, g2⟩ := hu;rw [h1] at g1; rw [h2] at g2;rw [g1, g2]
 by_cases hij : i = j
 · subst hij;rw [List.getElem?_set_self (List.getElem?_eq_some_iff.1 hi).1];unfold Dm;rw [List.getElem?_map, hx];simp only [Option.map_some, List.mem_append, List.mem_singleton, hxi, or_true, if_true, Option.some.injEq];split
   · simp only [En, T6]
   · rfl
 · rw [List.getElem?_set_ne hij];unfold Dm;rw [List.getElem?_map, List.getElem?_map];cases hy : l[j]? with
   | none => rfl
   | some y =>
     have hne : ¬ (y.rep, y.seq) = b := fun e => hij (Abk h hx hy (by rw [← e] at hxi; simpa using hxi));simp only [Option.map_some, List.mem_append, List.mem_singleton, hne, or_false]
def Cx (l : List Ver) (bs : List Bi) : Prop := ∃ b ∈ bs, Bm l b.1 b.2 = none
def Fg (l : List Ver) (bs : List Bi) (v : Ver) : List Ver := (Dm l bs v.rep v.seq).take (Pg l v.rep v.seq 0).1 ++ v :: (Dm l bs v.rep v.seq).drop (Pg l v.rep v.seq 0).1
theorem I6 (u : Ver) (g : Vc) : splice (A4 u) 3 (vE g) = A4 { u with gone := g } := by
 simp [splice, A4, vE, Cy]
def Amh (f : Bool) (l : List Ver) (g : Bool) (bs : List Bi) (v : Ver) (k : Nat) : FS := mk [(19, .pv (.i .i64 k)), (18, .pv (.i .i64 bs.length)), (17, .pv (.sl g 2 (bs.map Ek))), (8, .os 16), (5, .p 5 0)]
 [(5, some (.var (.vec 11 (A4 v)))), (16, some (.row 11 ((Dm l (bs.take k) v.rep v.seq).map A4)))]
set_option maxHeartbeats 2000000 in
theorem Ah3 {F : Fr} {f : Bool} {l : List Ver} {g : Bool} {bs : List Bi} {v : Ver} {R : SV → (Nat → Option Blk) → Prop} (hs : Ci l) (hn : l.length ≤ 900) (hbn : bs.length ≤ 900)
 (h1 : Cx l bs → ∀ h, R (.tup [.pv (.sl true 0 []), .pv (.i .i64 2)]) h)
 (h2 : ¬ Cx l bs → (Bm l v.rep v.seq).isSome = true → ∀ h, R (.tup [.pv (.sl true 0 []), .pv (.i .i64 11)]) h)
 (h3 : ¬ Cx l bs → Bm l v.rep v.seq = none → ∀ h n, h n = some (.row 11 ((Fg l bs v).map A4)) → R (.tup [.os n, .pv (.i .i64 0)]) h) :
 sx (Wx Tryz.prog F 57) ir80 (Pk [.t 6, .t 7] R) (mk (Dv 0 [.pv (.sl f 11 (l.map A4)), .pv (.sl g 2 (bs.map Ek)), .vec 11 (A4 v)]) []) := by
 have hv := G1 v;simp (disch := omega) only [ir80, List.length_map, go_sem];refine Aa (Atm (es := l.map A4) rfl rfl (.inr rfl) (by simp; omega) rfl) ?_;simp (disch := omega) only [List.length_map, go_sem];refine A1 Ae (Amh f l g bs v) (fun k => k ≤ bs.length ∧ ∀ b ∈ bs.take k, Bm l b.1 b.2 ≠ none) (fun k => bs.length - k) 0 (by simp) (Am ?_ ?_) fun k hk => ?_
 · simp (disch := omega) only [go_sem]
 · simp (disch := omega) only [List.take_zero, Nt, go_sem]
 obtain ⟨hk1, hk2⟩ := hk;have hsM := P5 (bs := bs.take k) (r := v.rep) (q := v.seq) hs;have hlM := Xs l (bs.take k) v.rep v.seq;have haM := fun r q => Adi (bs.take k) v.rep v.seq r q l 0;by_cases hlt : k < bs.length
 · have he : (bs.map Ek)[k]? = some (Ek bs[k]) := by simp [hlt]
   have ht : bs.take (k + 1) = bs.take k ++ [bs[k]] := by rw [List.take_add_one, List.getElem?_eq_getElem hlt]; rfl
   have hb : bs[k] ∈ bs := List.getElem_mem hlt;generalize bs[k] = b at *;simp (disch := omega) only [Amh, List.length_map, he, P8, go_sem];refine Aa (Ayv (l := Dm l (bs.take k) v.rep v.seq) b.1 b.2 rfl rfl (by omega)) ?_;rcases ha : Pg (Dm l (bs.take k) v.rep v.seq) b.1 b.2 0 with ⟨i, is⟩
   have ha' := ha;rw [haM] at ha';cases is with
   | false =>
     obtain ⟨_, _, g3, _⟩ := Hp hs ha'
     (try simp only [De, Dd, Dc, Db, Da, C9, C8, C7]); simp (disch := omega) only [go_sem]
     exact h1 ⟨b, hb, g3⟩ _
   | true =>
     obtain ⟨_, u, g2, g3, g4⟩ := H7 ha;obtain ⟨_, u', _, _, g5⟩ := H7 ha';have hu : (Dm l (bs.take k) v.rep v.seq)[i]? = some u := by simpa using g2
     have hi : i < (Dm l (bs.take k) v.rep v.seq).length := (List.getElem?_eq_some_iff.1 hu).1;have heu : ((Dm l (bs.take k) v.rep v.seq).map A4)[i]? = some (A4 u) := by rw [List.getElem?_map, hu]; rfl
     have hm := Aor (b := b) hs hu g3;have hgd : ((Dm l (bs.take k) v.rep v.seq).map A4).getD i [] = A4 u := by rw [List.getD_eq_getElem?_getD, heu]; rfl
     (try simp only [De, Dd, Dc, Db, Da, C9, C8, C7]); simp (disch := omega) only [List.length_map, heu, Mu, Cq, go_sem]
     refine Aa (Zo _ _ _) ?_;have hw : splice (A4 u) 3 (vE (A3 u.gone v.rep v.seq)) = A4 (En u v.rep v.seq) := I6 _ _;simp (disch := omega) only [List.length_map, heu, hgd, hw, go_sem];refine Ad (k + 1) _ _ rfl ⟨by omega, fun c hc => ?_⟩ (by omega) ?_ ?_
     · rw [ht] at hc;rcases List.mem_append.1 hc with hc | hc
       · exact hk2 c hc
       · simp at hc; subst hc; rw [g5]; simp
     · simp (disch := omega) only [List.length_map, go_sem]
     · simp (disch := omega) only [go_sem];rw [ht, ← hm, List.map_set]
 · obtain rfl : k = bs.length := by omega
   have hmiss : ¬ Cx l bs := fun ⟨b, hb, e⟩ => hk2 b (by rw [List.take_length]; exact hb) e;rw [List.take_length] at hsM hlM haM;have e := List.take_length (l := bs);simp (disch := omega) only [Amh, e, Cq, go_sem];refine Aa (Ayv (l := Dm l bs v.rep v.seq) v.rep v.seq rfl rfl (by omega)) ?_;rcases ha : Pg (Dm l bs v.rep v.seq) v.rep v.seq 0 with ⟨i, is⟩
   have ha' := ha;rw [haM] at ha';cases is with
   | true =>
     obtain ⟨_, u', _, _, g5⟩ := H7 ha'
     (try simp only [De, Dd, Dc, Db, Da, C9, C8, C7]); simp (disch := omega) only [go_sem]
     exact h2 hmiss (by rw [g5]; rfl) _
   | false =>
     obtain ⟨_, g2, g3, _⟩ := Hp hs ha'
     (try simp only [De, Dd, Dc, Db, Da, C9, C8, C7]); simp (disch := omega) only [hv, go_sem]
     refine Aa (Ab4 ((Dm l bs v.rep v.seq).map A4) (A4 v) i (by simp [hlM]; omega) (by simp [hlM]; omega) (by intro c hc; obtain ⟨x, _, rfl⟩ := List.mem_map.1 hc; exact G1 x) hv rfl rfl) ?_;simp (disch := omega) only [go_sem];refine h3 hmiss g3 _ _ ?_;simp (disch := omega) only [go_sem];simp [Fg, ha', List.map_take, List.map_drop]
theorem Aex {x y : SV} {f g : Bool} {l : List Ver} {bs : List Bi} {v : Ver} {h d} (hx : Co h [x, y, .vec 11 (A4 v)] = [.pv (.sl f 11 (l.map A4)), .pv (.sl g 2 (bs.map Ek)), .vec 11 (A4 v)]) (hl : Bc [x, y, .vec 11 (A4 v)] = true)
 (hs : Ci l) (hn : l.length ≤ 900) (hbn : bs.length ≤ 900) (hm : Cx l bs) :
 FunOk Tryz.prog 80 [x, y, .vec 11 (A4 v)] h d (.tup [.pv (.sl true 0 []), .pv (.i .i64 2)]) [] := by
 refine Cn Ae fn80 (by simp) hl rfl fun F => ?_;rw [hx];exact Ah3 hs hn hbn (fun _ _ => rfl) (fun h => absurd hm h) (fun h => absurd hm h)
def Kl (M : List Ver) (v : Ver) (p k : Nat) : List Ver := if p < k then (M.take k).take p ++ v :: (M.take k).drop p else M.take k
theorem Ane (M : List Ver) (v : Ver) (p k : Nat) (hk : k ≤ M.length) : (Kl M v p k).length ≤ k + 1 := by
 unfold Kl; split <;> simp <;> omega
def Zc (f : Bool) (l : List Ver) (g : Bool) (bs : List Bi) (v : Ver) (k : Nat) : FS := mk [(8, .pv (.i .i64 k)), (0, .pv (.sl f 11 (l.map A4))), (1, .pv (.sl g 2 (bs.map Ek))), (5, .p 5 0)]
 [(5, some (.var (.vec 11 (A4 v))))]
def Nm (f : Bool) (l : List Ver) (g : Bool) (bs : List Bi) (v : Ver) (M : List Ver) (p k : Nat) : FS := mk [(13, .pv (.i .i64 k)), (12, .pv (.b (decide (p < k)))), (11, .os 16), (0, .pv (.sl f 11 (l.map A4))), (1, .pv (.sl g 2 (bs.map Ek))), (5, .p 5 0)]
 [(5, some (.var (.vec 11 (A4 v)))), (16, some (.row 11 ((Kl M v p k).map A4)))]
def Gh (f : Bool) (l : List Ver) (g : Bool) (bs : List Bi) (v : Ver) (k : Nat) (b : Bool) (o : List Ver) (x : Ver) (j : Nat) : FS := mk [(15, .pv (.i .i64 j)), (14, .p 14 0), (13, .pv (.i .i64 k)), (12, .pv (.b b)), (11, .os 16), (0, .pv (.sl f 11 (l.map A4))), (1, .pv (.sl g 2 (bs.map Ek))), (5, .p 5 0)]
 [(5, some (.var (.vec 11 (A4 v)))), (16, some (.row 11 (o.map A4))), (14, some (.var (.vec 11 (A4 (if (x.rep, x.seq) ∈ bs.take j then En x v.rep v.seq else x)))))]
theorem Vn (x : Ver) (c : Prop) [Decidable c] (r : Int) (q : Nat) : A4 { (if c then En x r q else x) with gone := Ck (if c then En x r q else x).gone (P3 r q) } = A4 (En x r q) := by
 have h1 : (if c then En x r q else x).rep = x.rep := by split <;> rfl
 have h2 : (if c then En x r q else x).seq = x.seq := by split <;> rfl
 have h3 : (if c then En x r q else x).data = x.data := by split <;> rfl
 have h4 : ∀ i, i < 8 → Ck (if c then En x r q else x).gone (P3 r q) i = (A3 x.gone r q) i := by
  intro i hi;rw [← Aa4 _ _ _ i hi];split
  · simp only [En, T6]
  · rfl
 show _ = A4 { x with gone := A3 x.gone r q };simp only [A4, h1, h2, h3, K3 h4]
theorem Atb {M : List Ver} {v : Ver} {p k : Nat} {x : Ver} (h : p < k) (hx : M[k]? = some x) : Kl M v p (k + 1) = Kl M v p k ++ [x] := by
 have hk : k < M.length := (List.getElem?_eq_some_iff.1 hx).1;unfold Kl;rw [if_pos h, if_pos (by omega), List.take_add_one, hx];simp only [Option.toList_some];rw [List.take_append_of_le_length (by simp; omega), List.drop_append_of_le_length (by simp; omega)];simp
theorem Atd {M : List Ver} {v : Ver} {k : Nat} {x : Ver} (hx : M[k]? = some x) : Kl M v k (k + 1) = Kl M v k k ++ [v] ++ [x] := by
 have hk : k < M.length := (List.getElem?_eq_some_iff.1 hx).1;have hl : (M.take k).length = k := by simp; omega
 unfold Kl;rw [if_neg (Nat.lt_irrefl k), if_pos (by omega), List.take_add_one, hx];simp only [Option.toList_some];rw [List.take_append_of_le_length (by omega), List.take_of_length_le (by omega), List.drop_append_of_le_length (by omega), List.drop_of_length_le (by omega)];simp
theorem Atc {M : List Ver} {v : Ver} {p k : Nat} {x : Ver} (h : k < p) (hx : M[k]? = some x) : Kl M v p (k + 1) = Kl M v p k ++ [x] := by
 unfold Kl;rw [if_neg (by omega), if_neg (by omega), List.take_add_one, hx]; rfl
set_option maxHeartbeats 4000000 in
theorem Ars {F : Fr} {f : Bool} {l : List Ver} {g : Bool} {bs : List Bi} {v : Ver} {R : SV → (Nat → Option Blk) → Prop} (hs : Ci l) (hn : l.length ≤ 900) (hbn : bs.length ≤ 900)
 (h1 : Cx l bs → ∀ h, R (.tup [.pv (.sl true 0 []), .pv (.i .i64 2)]) h)
 (h2 : ¬ Cx l bs → (Bm l v.rep v.seq).isSome = true → ∀ h, R (.tup [.pv (.sl true 0 []), .pv (.i .i64 11)]) h)
 (h3 : ¬ Cx l bs → Bm l v.rep v.seq = none → ∀ h n, h n = some (.row 11 ((Fg l bs v).map A4)) → R (.tup [.os n, .pv (.i .i64 0)]) h) :
 sx (Wx Tryz.prog F 118) ir99 (Pk [.t 6, .t 7] R) (mk (Dv 0 [.pv (.sl f 11 (l.map A4)), .pv (.sl g 2 (bs.map Ek)), .vec 11 (A4 v)]) []) := by
 have hv := G1 v;simp (disch := omega) only [ir99, List.length_map, go_sem];refine A1 Ae (Zc f l g bs v) (fun k => k ≤ bs.length ∧ ∀ b ∈ bs.take k, Bm l b.1 b.2 ≠ none) (fun k => bs.length - k) 0 (by simp) (Am ?_ ?_) fun k hk => ?_
 · simp (disch := omega) only [go_sem]
 · simp (disch := omega) only [go_sem]
 obtain ⟨hk1, hk2⟩ := hk;by_cases hlt : k < bs.length
 · have he : (bs.map Ek)[k]? = some (Ek bs[k]) := by simp [hlt]
   have ht : bs.take (k + 1) = bs.take k ++ [bs[k]] := by rw [List.take_add_one, List.getElem?_eq_getElem hlt]; rfl
   have hb : bs[k] ∈ bs := List.getElem_mem hlt;generalize bs[k] = b at *;have c0 : LoadK (some (Ek b)) 0 1 false = fun K => K (.pv (.i .i64 b.1)) [] := by
    funext K; simp only [LoadK, Ik, eq_iff_iff]; exact ⟨fun h => h.2.2, fun h => ⟨by simp [Ek], .inr trivial, h⟩⟩
   have c1 : LoadK (some (Ek b)) 1 1 false = fun K => K (.pv (.i .u32 b.2)) [] := by
    funext K; simp only [LoadK, Ik, eq_iff_iff]; exact ⟨fun h => h.2.2, fun h => ⟨by simp [Ek], .inr trivial, h⟩⟩
   simp (disch := omega) only [Zc, List.length_map, he, P8, go_sem];refine Aa (Ag7 (l := l) b.1 b.2 rfl rfl (by omega)) ?_;have go : Bm l b.1 b.2 ≠ none → (k + 1 ≤ bs.length ∧ ∀ c ∈ bs.take (k + 1), Bm l c.1 c.2 ≠ none) := fun hne => ⟨by omega, fun c hc => by
    rw [ht] at hc;rcases List.mem_append.1 hc with hc | hc
    · exact hk2 c hc
    · simp at hc; subst hc; exact hne⟩
   by_cases hz : b.1 = 0 ∧ b.2 = 0
   · obtain ⟨b1, b2⟩ := b;obtain ⟨rfl, rfl⟩ : b1 = 0 ∧ b2 = 0 := hz;rw [Qp ⟨rfl, rfl⟩]
     (try simp only [De, Dd, Dc, Db, Da, C9, C8, C7]); simp (disch := omega) only [List.length_map, he, c0, c1, P8, Int.natCast_zero, go_sem]
     refine Aa (Awj (l := l) 0 0 rfl rfl (by omega)) ?_;cases hf : Bm l 0 0 with
     | none =>
       simp (disch := omega) only [Option.isSome_none, go_sem];exact h1 ⟨_, hb, hf⟩ _
     | some u =>
       simp (disch := omega) only [Option.isSome_some, go_sem];refine Ad (k + 1) _ _ rfl (go (by rw [hf]; simp)) (by omega) ?_ ?_
       · simp (disch := omega) only [go_sem]
       · simp (disch := omega) only [go_sem]
   · cases hf : Bm l b.1 b.2 with
     | none =>
       rw [Qo hz hf]
       (try simp only [De, Dd, Dc, Db, Da, C9, C8, C7]); simp (disch := omega) only [go_sem]
       exact h1 ⟨b, hb, hf⟩ _
     | some u =>
       rw [Lv hz hf];by_cases hz1 : b.1 = 0
       · have hz2 : ¬ (b.2 : Int) = 0 := by omega
         (try simp only [De, Dd, Dc, Db, Da, C9, C8, C7]); simp (disch := omega) only [List.length_map, he, c0, c1, hz1, hz2, go_sem]
         refine Ad (k + 1) _ _ rfl (go (by rw [hf]; simp)) (by omega) ?_ ?_
         · simp (disch := omega) only [go_sem]
         · simp (disch := omega) only [go_sem]
       · (try simp only [De, Dd, Dc, Db, Da, C9, C8, C7]); simp (disch := omega) only [List.length_map, he, c0, c1, hz1, go_sem]
         refine Ad (k + 1) _ _ rfl (go (by rw [hf]; simp)) (by omega) ?_ ?_
         · simp (disch := omega) only [go_sem]
         · simp (disch := omega) only [go_sem]
 · obtain rfl : k = bs.length := by omega
   have hmiss : ¬ Cx l bs := fun ⟨b, hb, e⟩ => hk2 b (by rw [List.take_length]; exact hb) e;have e := List.take_length (l := bs);simp (disch := omega) only [Zc, List.length_map, Cq, go_sem];refine Aa (Awj (l := l) v.rep v.seq rfl rfl (by omega)) ?_;cases hf : Bm l v.rep v.seq with
   | some u =>
     simp (disch := omega) only [Option.isSome_some, go_sem];exact h2 hmiss (by rw [hf]; rfl) _
   | none =>
     obtain ⟨p, hp⟩ : ∃ p, Pg l v.rep v.seq 0 = (p, false) := by
      rcases ha : Pg l v.rep v.seq 0 with ⟨p, b⟩
      cases b with
      | false => exact ⟨p, rfl⟩
      | true => obtain ⟨_, u, _, _, h4⟩ := H7 ha; rw [hf] at h4; cases h4
     obtain ⟨_, g2, _, g4, g5, g6⟩ := Hp hs hp;rw [Nat.sub_zero] at g2 g5 g6;have h3' := h3 hmiss hf;simp only [Fg, hp] at h3';have hM : ∀ k x, l[k]? = some x → (Dm l bs v.rep v.seq)[k]? = some (if (x.rep, x.seq) ∈ bs then En x v.rep v.seq else x) := fun k x hx => by unfold Dm; rw [List.getElem?_map, hx]; rfl
     have hMl := Xs l bs v.rep v.seq;generalize Dm l bs v.rep v.seq = M at *;simp (disch := omega) only [Option.isSome_none, go_sem];refine A1 Ae (Nm f l g bs v M p) (fun k => k ≤ l.length) (fun k => l.length - k) 0 (by simp) (T5 11 16 11 rfl (by omega) (Am ?_ ?_)) fun k hk => ?_
     · simp (disch := omega) only [Nat.not_lt_zero, go_sem]
     · simp (disch := omega) only [go_sem];simp [Kl]
     by_cases hlt : k < l.length
     · have he : (l.map A4)[k]? = some (A4 l[k]) := by simp [hlt]
       have hx := hM k l[k] (List.getElem?_eq_getElem hlt);have ho := Ane M v p k (by omega);have hl5 : p > k → Bp v.rep v.seq l[k].rep l[k].seq = false := fun h => by
        have := Auo (g5 l[k] (List.mem_take_iff_getElem.2 ⟨k, by omega, rfl⟩));simpa using this
       have hl6 : p = k → Bp v.rep v.seq l[k].rep l[k].seq = true := fun h => g6 l[k] (by
        subst h;rw [List.drop_eq_getElem_cons hlt]; exact List.mem_cons_self)
       generalize l[k] = x at *;have hxl := G1 x;rcases Nat.lt_trichotomy p k with hpk | hpk | hpk
       · have e1 : decide (p < k) = true := by simp [hpk]
         have e2 : decide (p < k + 1) = true := by simp; omega
         have eo := Atb (v := v) hpk hx;simp (disch := omega) only [Nm, e1, List.length_map, he, Jf, hxl, go_sem];refine A1 Ae (Gh f l g bs v k true (Kl M v p k) x) (fun j => j ≤ bs.length) (fun j => bs.length - j) 0 (by simp) (Am ?_ ?_) fun j hj => ?_
         · simp (disch := omega) only [go_sem]
         · simp (disch := omega) only [List.take_zero, List.not_mem_nil, go_sem]
         have ex := Gi x (bs.take j) v.rep v.seq;by_cases hj2 : j < bs.length
         · have hbe : (bs.map Ek)[j]? = some (Ek bs[j]) := by simp [hj2]
           have ht : bs.take (j + 1) = bs.take j ++ [bs[j]] := by rw [List.take_add_one, List.getElem?_eq_getElem hj2]; rfl
           generalize bs[j] = b at *;have hjn := Vn x ((x.rep, x.seq) ∈ bs.take j) v.rep v.seq;have hsp := I6 (if (x.rep, x.seq) ∈ bs.take j then En x v.rep v.seq else x) (Ck (if (x.rep, x.seq) ∈ bs.take j then En x v.rep v.seq else x).gone (P3 v.rep v.seq));by_cases hb : b.1 = x.rep ∧ b.2 = x.seq
           · have hp := Jw hb;have hb' : (x.rep, x.seq) = b := by rw [← hb.1, ← hb.2]
             simp (disch := omega) only [Gh, List.length_map, hbe, P8, Cq, ex.1, ex.2, Gs, hp, Mu, go_sem];refine Aa (Tf _ _ _) ?_;simp (disch := omega) only [hsp, hjn, go_sem];refine Ad (j + 1) _ _ rfl (by omega) (by omega) ?_ ?_
             · simp (disch := omega) only [go_sem]
             · simp (disch := omega) only [ht, hb', List.mem_append, List.mem_singleton, go_sem]
           · have hp := Ht hb;have hb' : ¬ (x.rep, x.seq) = b := fun e => hb (by rw [← e]; exact ⟨rfl, rfl⟩);simp (disch := omega) only [Gh, List.length_map, hbe, P8, Cq, ex.1, ex.2, Gs, hp, go_sem];refine Ad (j + 1) _ _ rfl (by omega) (by omega) ?_ ?_
             · simp (disch := omega) only [go_sem]
             · simp (disch := omega) only [ht, hb', List.mem_append, List.mem_singleton, or_false, go_sem]
         · obtain rfl : j = bs.length := by omega
           have e := List.take_length (l := bs);have hxl2 := G1 (if (x.rep, x.seq) ∈ bs then En x v.rep v.seq else x);simp (disch := omega) only [Gh, e, List.length_map, Jf, hxl2, List.length_append, List.length_singleton, go_sem];refine ⟨k + 1, by omega, by omega, Ew 110 16 (by decide) rfl (Am ?_ ?_)⟩
           · simp (disch := omega) only [e2, go_sem]
           · simp (disch := omega) only [eo, List.map_append, List.map_cons, List.map_nil, go_sem]
       · subst hpk;have e1 : decide (p < p) = false := by simp
         have e2 : decide (p < p + 1) = true := by simp
         have eo := Atd (v := v) hx;have hl7 := hl6 rfl;simp (disch := omega) only [Nm, e1, List.length_map, he, Cq, go_sem];refine Aa (Ir _ _ _ _) ?_;simp (disch := omega) only [hl7, hv, List.length_map, he, Jf, hxl, go_sem];refine A1 Ae (Gh f l g bs v p true (Kl M v p p ++ [v]) x) (fun j => j ≤ bs.length) (fun j => bs.length - j) 0 (by simp) (Ew 83 16 (by decide) rfl (Am ?_ ?_)) fun j hj => ?_
         · simp (disch := omega) only [go_sem]
         · simp (disch := omega) only [List.take_zero, List.not_mem_nil, List.map_append, List.map_cons, List.map_nil, go_sem]
         have ex := Gi x (bs.take j) v.rep v.seq;by_cases hj2 : j < bs.length
         · have hbe : (bs.map Ek)[j]? = some (Ek bs[j]) := by simp [hj2]
           have ht : bs.take (j + 1) = bs.take j ++ [bs[j]] := by rw [List.take_add_one, List.getElem?_eq_getElem hj2]; rfl
           generalize bs[j] = b at *;have hjn := Vn x ((x.rep, x.seq) ∈ bs.take j) v.rep v.seq;have hsp := I6 (if (x.rep, x.seq) ∈ bs.take j then En x v.rep v.seq else x) (Ck (if (x.rep, x.seq) ∈ bs.take j then En x v.rep v.seq else x).gone (P3 v.rep v.seq));by_cases hb : b.1 = x.rep ∧ b.2 = x.seq
           · have hp := Jw hb;have hb' : (x.rep, x.seq) = b := by rw [← hb.1, ← hb.2]
             simp (disch := omega) only [Gh, List.length_map, hbe, P8, Cq, ex.1, ex.2, Gs, hp, Mu, go_sem];refine Aa (Tf _ _ _) ?_;simp (disch := omega) only [hsp, hjn, go_sem];refine Ad (j + 1) _ _ rfl (by omega) (by omega) ?_ ?_
             · simp (disch := omega) only [go_sem]
             · simp (disch := omega) only [ht, hb', List.mem_append, List.mem_singleton, go_sem]
           · have hp := Ht hb;have hb' : ¬ (x.rep, x.seq) = b := fun e => hb (by rw [← e]; exact ⟨rfl, rfl⟩);simp (disch := omega) only [Gh, List.length_map, hbe, P8, Cq, ex.1, ex.2, Gs, hp, go_sem];refine Ad (j + 1) _ _ rfl (by omega) (by omega) ?_ ?_
             · simp (disch := omega) only [go_sem]
             · simp (disch := omega) only [ht, hb', List.mem_append, List.mem_singleton, or_false, go_sem]
         · obtain rfl : j = bs.length := by omega
           have e := List.take_length (l := bs);have hxl2 := G1 (if (x.rep, x.seq) ∈ bs then En x v.rep v.seq else x);simp (disch := omega) only [Gh, e, List.length_map, Jf, hxl2, List.length_append, List.length_singleton, go_sem];refine ⟨p + 1, by omega, by omega, Ew 110 16 (by decide) rfl (Am ?_ ?_)⟩
           · simp (disch := omega) only [e2, go_sem]
           · simp (disch := omega) only [eo, List.map_append, List.map_cons, List.map_nil, go_sem]
       · have e1 : decide (p < k) = false := by simp; omega
         have e2 : decide (p < k + 1) = false := by simp; omega
         have eo := Atc (v := v) hpk hx;have hl7 := hl5 hpk;simp (disch := omega) only [Nm, e1, List.length_map, he, Cq, go_sem];refine Aa (Ir _ _ _ _) ?_;simp (disch := omega) only [hl7, hv, List.length_map, he, Jf, hxl, go_sem];refine A1 Ae (Gh f l g bs v k false (Kl M v p k) x) (fun j => j ≤ bs.length) (fun j => bs.length - j) 0 (by simp) (Am ?_ ?_) fun j hj => ?_
         · simp (disch := omega) only [go_sem]
         · simp (disch := omega) only [List.take_zero, List.not_mem_nil, go_sem]
         have ex := Gi x (bs.take j) v.rep v.seq;by_cases hj2 : j < bs.length
         · have hbe : (bs.map Ek)[j]? = some (Ek bs[j]) := by simp [hj2]
           have ht : bs.take (j + 1) = bs.take j ++ [bs[j]] := by rw [List.take_add_one, List.getElem?_eq_getElem hj2]; rfl
           generalize bs[j] = b at *;have hjn := Vn x ((x.rep, x.seq) ∈ bs.take j) v.rep v.seq;have hsp := I6 (if (x.rep, x.seq) ∈ bs.take j then En x v.rep v.seq else x) (Ck (if (x.rep, x.seq) ∈ bs.take j then En x v.rep v.seq else x).gone (P3 v.rep v.seq));by_cases hb : b.1 = x.rep ∧ b.2 = x.seq
           · have hp := Jw hb;have hb' : (x.rep, x.seq) = b := by rw [← hb.1, ← hb.2]
             simp (disch := omega) only [Gh, List.length_map, hbe, P8, Cq, ex.1, ex.2, Gs, hp, Mu, go_sem];refine Aa (Tf _ _ _) ?_;simp (disch := omega) only [hsp, hjn, go_sem];refine Ad (j + 1) _ _ rfl (by omega) (by omega) ?_ ?_
             · simp (disch := omega) only [go_sem]
             · simp (disch := omega) only [ht, hb', List.mem_append, List.mem_singleton, go_sem]
           · have hp := Ht hb;have hb' : ¬ (x.rep, x.seq) = b := fun e => hb (by rw [← e]; exact ⟨rfl, rfl⟩);simp (disch := omega) only [Gh, List.length_map, hbe, P8, Cq, ex.1, ex.2, Gs, hp, go_sem];refine Ad (j + 1) _ _ rfl (by omega) (by omega) ?_ ?_
             · simp (disch := omega) only [go_sem]
             · simp (disch := omega) only [ht, hb', List.mem_append, List.mem_singleton, or_false, go_sem]
         · obtain rfl : j = bs.length := by omega
           have e := List.take_length (l := bs);have hxl2 := G1 (if (x.rep, x.seq) ∈ bs then En x v.rep v.seq else x);simp (disch := omega) only [Gh, e, List.length_map, Jf, hxl2, List.length_append, List.length_singleton, go_sem];refine ⟨k + 1, by omega, by omega, Ew 110 16 (by decide) rfl (Am ?_ ?_)⟩
           · simp (disch := omega) only [e2, go_sem]
           · simp (disch := omega) only [eo, List.map_append, List.map_cons, List.map_nil, go_sem]
     · obtain rfl : k = l.length := by omega
       by_cases hpl : p < l.length
       · have e1 : decide (p < l.length) = true := by simp [hpl]
         have e2 : Kl M v p l.length = M.take p ++ v :: M.drop p := by unfold Kl; rw [if_pos hpl, ← hMl, List.take_length]
         simp (disch := omega) only [Nm, e1, e2, List.length_map, go_sem];exact h3' _ _ rfl
       · have e1 : decide (p < l.length) = false := by simp; omega
         have ep : p = M.length := by omega
         have e2 : Kl M v p l.length = M := by unfold Kl; rw [if_neg hpl, ← hMl, List.take_length]
         simp (disch := omega) only [Nm, e1, e2, hv, List.length_map, go_sem];refine h3' _ _ ?_;simp (disch := omega) only [go_sem];simp [ep]
end Go.Proofs.YthhomcfimdkfhaaGreat.Fw
namespace Go.Proofs.YthhomcfimdkfhaaGreat.Fw
open Go.RowKit Go.Proofs
variable {P : Program} {F : Fr} {N : Nat} {ρ ρ' : Nat → Value} {s : FS} {a : Act} {w w' : World} {V V' : View}
def PImp (x y : PV) : Prop := ∀ (V : View) (v : Value), PConc V x v → PConc V y v
theorem PImp.refl (x : PV) : PImp x x := fun _ _ h => h
def PImpL : List PV → List PV → Prop
 | [], [] => True
 | x :: l, y :: m => PImp x y ∧ PImpL l m
 | _, _ => False
def PImpR : List (List PV) → List (List PV) → Prop
 | [], [] => True
 | x :: l, y :: m => PImpL x y ∧ PImpR l m
 | _, _ => False
theorem PImpL.refl : ∀ l : List PV, PImpL l l
 | [] => trivial
 | x :: l => ⟨.refl x, PImpL.refl l⟩
theorem PImpR.refl : ∀ l : List (List PV), PImpR l l
 | [] => trivial
 | x :: l => ⟨.refl x, PImpR.refl l⟩
theorem PImpL.len : ∀ {l m : List PV}, PImpL l m → l.length = m.length
 | [], [], _ => rfl
 | x :: l, y :: m, h => by simp [PImpL.len h.2]
 | [], _ :: _, h => h.elim
 | _ :: _, [], h => h.elim
theorem PImpR.len : ∀ {l m : List (List PV)}, PImpR l m → l.length = m.length
 | [], [], _ => rfl
 | x :: l, y :: m, h => by simp [PImpR.len h.2]
 | [], _ :: _, h => h.elim
 | _ :: _, [], h => h.elim
theorem PImpL.get : ∀ {l m : List PV} {j : Nat} {y : PV}, PImpL l m → m[j]? = some y → ∃ x, l[j]? = some x ∧ PImp x y
 | x :: l, z :: m, 0, y, h, hy => by simp at hy; subst hy; exact ⟨x, by simp, h.1⟩
 | x :: l, z :: m, j + 1, y, h, hy => by
   obtain ⟨u, h1, h2⟩ := PImpL.get (j := j) h.2 (by simpa using hy);exact ⟨u, by simpa using h1, h2⟩
 | [], [], j, y, _, hy => by simp at hy
 | [], _ :: _, _, _, h, _ => h.elim
 | _ :: _, [], _, _, h, _ => h.elim
theorem PImpR.get : ∀ {l m : List (List PV)} {j : Nat} {y : List PV}, PImpR l m → m[j]? = some y → ∃ x, l[j]? = some x ∧ PImpL x y
 | x :: l, z :: m, 0, y, h, hy => by simp at hy; subst hy; exact ⟨x, by simp, h.1⟩
 | x :: l, z :: m, j + 1, y, h, hy => by
   obtain ⟨u, h1, h2⟩ := PImpR.get (j := j) h.2 (by simpa using hy);exact ⟨u, by simpa using h1, h2⟩
 | [], [], j, y, _, hy => by simp at hy
 | [], _ :: _, _, _, h, _ => h.elim
 | _ :: _, [], _, _, h, _ => h.elim
theorem PImpL.app : ∀ {a b c d : List PV}, PImpL a b → PImpL c d → PImpL (a ++ c) (b ++ d)
 | [], [], c, d, _, k => k
 | x :: a, y :: b, c, d, h, k => ⟨h.1, PImpL.app h.2 k⟩
 | [], _ :: _, _, _, h, _ => h.elim
 | _ :: _, [], _, _, h, _ => h.elim
theorem PImpR.app : ∀ {a b c d : List (List PV)}, PImpR a b → PImpR c d → PImpR (a ++ c) (b ++ d)
 | [], [], c, d, _, k => k
 | x :: a, y :: b, c, d, h, k => ⟨h.1, PImpR.app h.2 k⟩
 | [], _ :: _, _, _, h, _ => h.elim
 | _ :: _, [], _, _, h, _ => h.elim
theorem Ju {f f' : Bool} {z z' : Nat} {es es' : List (List PV)} (hf : f' = true → f = true) (hz : es = [] ∨ z = z') (h : PImpR es es') : PImp (.sl f z es) (.sl f' z' es') := by
 intro V v hv;cases hv with
 | sl full sz es a cap cs bl off arr hcap hfull hsz ha hcs hel =>
   have hl := h.len;have hne : es' ≠ [] → es ≠ [] := fun e1 e2 => by subst e2; exact e1 (List.eq_nil_of_length_eq_zero hl.symm)
   rw [hl];refine .sl f' z' es' a cap cs bl off arr (by omega) (fun e => by rw [hfull (hf e)]; exact hl) (fun c hc => ?_) (fun e => ha (hne e)) (fun i j hi hj => ?_) fun i j c x hi hx => ?_
   · obtain ⟨j, hj⟩ := List.mem_iff_getElem?.1 hc;obtain ⟨u, h1, h2⟩ := h.get hj;rw [← h2.len, hsz u (List.mem_of_getElem? h1)];exact hz.resolve_left (hne (List.ne_nil_of_mem hc))
   · have e : z = z' := hz.resolve_left (hne fun e => by subst e; simp at hi);subst e;exact hcs i j (by omega) hj
   · obtain ⟨u, h1, h2⟩ := h.get hi;obtain ⟨y, h3, h4⟩ := h2.get hx;exact h4 V _ (hel i j u y h1 h3)
theorem Aaa {x y : PV} (h : PImp x y) : Imp (.pv x) (.pv y) := fun V ρ v hv => by simp only [Conc] at hv ⊢; exact h V v hv
theorem Aj3 {n : Nat} {cs ds : List PV} (h : PImpL cs ds) : Imp (.vec n cs) (.vec n ds) := fun V ρ v hv => by
 simp only [Conc] at hv ⊢;obtain ⟨vs, h1, h2, h3⟩ := hv;refine ⟨vs, h1, h2, h.len.symm.trans h3.1, fun j x hx => ?_⟩;obtain ⟨u, h4, h5⟩ := h.get hx;obtain ⟨v', h6, h7⟩ := h3.2 j u h4;exact ⟨v', h6, h5 V v' h7⟩
def ImpS : List SV → List SV → Prop
 | [], [] => True
 | x :: l, y :: m => (Imp x y ∧ x.width = y.width) ∧ ImpS l m
 | _, _ => False
theorem ImpS.cells : ∀ {l m : List SV} {vs : List Value}, ImpS l m → Cells V ρ l vs → Cells V ρ m vs
 | [], [], vs, _, h => h
 | x :: l, y :: m, vs, h, k => by
   simp only [Cells] at k ⊢;obtain ⟨u, us, rfl, k1, k2, k3, k4⟩ := k;exact ⟨u, us, rfl, h.1.1 V ρ u k1, by rw [← h.1.2]; exact k2, k3, h.2.cells k4⟩
 | [], _ :: _, _, h, _ => h.elim
 | _ :: _, [], _, h, _ => h.elim
theorem Apa {l m : List SV} (h : ImpS l m) : Imp (.agg l) (.agg m) := fun V ρ v hv => by
 simp only [Conc] at hv ⊢;obtain ⟨vs, h1, h2⟩ := hv;exact ⟨vs, h1, h.cells h2⟩
theorem Auk {l m : List SV} (h : ImpL l m) : Imp (.tup l) (.tup m) := fun V ρ v hv => by
 simp only [Conc] at hv ⊢;obtain ⟨vs, h1, h2⟩ := hv;exact ⟨vs, h1, h.conc h2⟩
theorem Nx (hm : P.follows .mixedOrders = true) {f N' : Nat} {rs : List Rv} {c : C} (hf : A9 P f = some (N', rs, c)) {args : List SV} {h : Nat → Option Blk} {d : Nat} {x : SV} (hlen : args.length ≤ N')
 (hargs : SV.closedL args = true) (hx : x.closed = true) (hrun : ∀ F, sx (Wx P F N') c (Aru rs fun y _ => Imp y x) (mk (Dv 0 args) [])) : FunOk P f args h d x [] := by
 obtain ⟨h1, h2, h3⟩ := Cs hargs;refine ⟨C0 hf, fun F N ρ s a w hR hh vs hc => ?_⟩;refine Calls.mono (Ei hm hf (h := h) hlen h2 Aek (by rw [h3]; exact hrun) hR hh hc) fun e w' he => ?_;obtain ⟨v, rfl, hg, N'', ρ', s', a', y, hR', hy, hyx⟩ := he;rw [h1, Eu] at hR' hy;exact ⟨v, ρ, rfl, hR.grew hg, B9 (Hr hR') hx (hyx _ _ _ hy)⟩
theorem Abt {N' : Nat} {a' : Act} {s' : FS} (hR' : RelR ⟨w, fun _ => False, F.out ρ s.h, fun _ => undef, []⟩ N' ρ' s' a' w') {n sz : Nat} {es : List (List PV)} (hn : s'.h n = some (.row sz es)) : PConc (vw F w' ρ s) (.sl false sz es) (ρ' n) :=
 (Lb hR' hn).mono (Bk fun b c ho hc => ⟨fun hb => ho (.inr hb), hc⟩)
theorem Vs (hm : P.follows .mixedOrders = true) {f N' : Nat} {rs : List Rv} {c : C} (hf : A9 P f = some (N', rs, c)) {args : List SV} {h : Nat → Option Blk} {d : Nat} {sz : Nat} {es : List (List PV)} (hlen : args.length ≤ N')
 (hargs : SV.closedL args = true) (hrun : ∀ F, sx (Wx P F N') c (Pk rs fun y g => (∃ n, y = .os n ∧ g n = some (.row sz es)) ∨ ∃ z, y = .pv (.sl true z []) ∧ es = [] ∧ 0 < sz) (mk (Dv 0 args) [])) :
 FunOk P f args h d (.pv (.sl false sz es)) [] := by
 obtain ⟨h1, h2, h3⟩ := Cs hargs;refine ⟨C0 hf, fun F N ρ s a w hR hh vs hc => ?_⟩;refine Calls.mono (Ei hm hf (h := h) hlen h2 J9 (by rw [h3]; exact hrun) hR hh hc) fun e w' he => ?_;obtain ⟨v, rfl, hg, N'', ρ', s', a', y, hR', hy, hyy⟩ := he;rw [h1, Eu] at hR' hy;refine ⟨v, ρ, rfl, hR.grew hg, ?_⟩;rcases hyy with ⟨n, rfl, hn⟩ | ⟨z, rfl, rfl, hsz⟩
 · simp only [Conc] at hy ⊢;rw [hy.1];exact Abt hR' hn
 · simp only [Conc] at hy ⊢;exact (Ju (by simp) (.inl rfl) (.refl [])) _ _ (hy.mono (Hr hR'))
theorem Aki (hm : P.follows .mixedOrders = true) {f N' : Nat} {rs : List Rv} {c : C} (hf : A9 P f = some (N', rs, c)) {args : List SV} {h : Nat → Option Blk} {d : Nat} {sz : Nat} {es : List (List PV)} {z0 : SV} (hlen : args.length ≤ N')
 (hargs : SV.closedL args = true) (hz : z0.closed = true) (hrun : ∀ F, sx (Wx P F N') c (Pk rs fun y g => (∃ n, y = .tup [.os n, z0] ∧ g n = some (.row sz es)) ∨ ∃ z, y = .tup [.pv (.sl true z []), z0] ∧ es = []) (mk (Dv 0 args) [])) :
 FunOk P f args h d (.tup [.pv (.sl false sz es), z0]) [] := by
 obtain ⟨h1, h2, h3⟩ := Cs hargs;refine ⟨C0 hf, fun F N ρ s a w hR hh vs hc => ?_⟩;refine Calls.mono (Ei hm hf (h := h) hlen h2 J9 (by rw [h3]; exact hrun) hR hh hc) fun e w' he => ?_;obtain ⟨v, rfl, hg, N'', ρ', s', a', y, hR', hy, hyy⟩ := he;rw [h1, Eu] at hR' hy;refine ⟨v, ρ, rfl, hR.grew hg, ?_⟩;rcases hyy with ⟨n, rfl, hn⟩ | ⟨z, rfl, rfl⟩
 · simp only [Conc, ConcL] at hy ⊢;obtain ⟨vs, rfl, u, us, rfl, hu, u2, us2, rfl, hu2, rfl⟩ := hy;refine ⟨_, rfl, u, _, rfl, ?_, u2, _, rfl, B9 (Hr hR') hz hu2, rfl⟩;rw [hu.1]; exact Abt hR' hn
 · simp only [Conc, ConcL] at hy ⊢;obtain ⟨vs, rfl, u, us, rfl, hu, u2, us2, rfl, hu2, rfl⟩ := hy;exact ⟨_, rfl, u, _, rfl, (Ju (by simp) (.inl rfl) (.refl [])) _ _ (hu.mono (Hr hR')), u2, _, rfl, B9 (Hr hR') hz hu2, rfl⟩
theorem X3 (hm : P.follows .mixedOrders = true) {f N' : Nat} {rs : List Rv} {c : C} (hf : A9 P f = some (N', rs, c)) {args : List SV} {h : Nat → Option Blk} {d : Nat} {sz : Nat} {es : List (List PV)} (hlen : args.length ≤ N')
 (hargs : Bc args = true) (hx : ∀ c ∈ es, c.all PV.flat = true) (hrun : ∀ F, sx (Wx P F N') c (Pk rs fun y g => (∃ n, y = .os n ∧ g n = some (.row sz es)) ∨ ∃ z, y = .pv (.sl true z []) ∧ es = [] ∧ 0 < sz) (mk (Dv 0 (Co h args)) [])) :
 FunOk P f args h d (.pv (.sl false sz es)) [] := by
 refine ⟨C0 hf, fun F N ρ s a w hR hh vs hc => ?_⟩;refine Calls.mono (Ei hm hf (h := h) hlen hargs J9 hrun hR hh hc) fun e w' he => ?_;obtain ⟨v, rfl, hg, N'', ρ', s', a', y, hR', hy, hyy⟩ := he;refine ⟨v, ρ, rfl, hR.grew hg, ?_⟩;rcases hyy with ⟨n, rfl, hn⟩ | ⟨z, rfl, rfl, hsz⟩
 · simp only [Conc] at hy ⊢;rw [hy.1];have hp := Lb hR' hn;have hnew : ∀ b, Ch (ρ' n) = some b → w.heap.size ≤ b := fun b hb => (hR'.may b ⟨n, _, hn, hb⟩).resolve_right id;generalize ρ' n = u at hp hnew;cases hp with
   | sl full sz es a cap cs bl off arr hcap hfull hsz ha hcs hel =>
     refine .sl false sz es a cap cs bl off arr hcap hfull hsz (fun hne => ?_) hcs fun i j c x hi hj => Ny (List.all_eq_true.1 (hx c (List.mem_of_getElem? hi)) x (List.mem_of_getElem? hj)) (hel i j c x hi hj);obtain ⟨rfl, hV⟩ := ha hne;refine ⟨rfl, ?_⟩;have hcp : cap ≠ 0 := fun e => by subst e; exact hne (List.eq_nil_of_length_eq_zero (by omega))
     have hb := hnew bl (by simp [Ch, hcp]);have hc' : Em w' bl = some arr := by
      unfold vw Ay at hV;split at hV
      · cases hV
      · exact hV
     show Ay w' (F.out ρ s.h) bl = some arr;unfold Ay;rw [if_neg]
     · exact hc'
     · rintro (ho | ho)
       · have := hR.lt ho; omega
       · have := (hR.fr.hid bl ho).1; have := hR.fr.size; omega
 · simp only [Conc] at hy ⊢;have hy' : PConc (vw F w' ρ s) (.sl true z []) v := Ny rfl hy;exact (Ju (by simp) (.inl rfl) (.refl [])) _ _ hy'
theorem DeepOk.frz {f : Nat} {args args' : List SV} {h h' : Nat → Option Blk} {d d' : Nat} {x : SV} {u : List HU} {n sz : Nat} {es : List (List PV)} (hn : h n = some (.row sz es)) (ha : SV.frzL n (.sl false sz es) args = args')
 (hh' : ∀ k ∈ A8 args', (if k = n then none else (h k).map (Blk.frz n (.sl false sz es))) = h' k) (hf : FunOk P f args' h' d' x u) : DeepOk P f args h d x (.frz n (.sl false sz es) :: u) := by
 refine ⟨hf.1, fun F N ρ s a w hR hh vs hv => ?_⟩;subst ha;have hs : s.h n = some (.row sz es) := by rw [hh]; exact hn
 obtain ⟨hR', hV, hV2⟩ := hR.frz hs;have hp := (Lb hR hs).mono hV2;exact hf.2 F N ρ (s.frz n (.sl false sz es)) a w hR' (fun k hk => by rw [← hh' k hk]; simp only [FS.frz, hh]) vs (ConcL.frz hV hp hv)
end Go.Proofs.YthhomcfimdkfhaaGreat.Fw
