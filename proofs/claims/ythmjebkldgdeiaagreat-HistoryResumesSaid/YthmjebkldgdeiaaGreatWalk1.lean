/- What the functions compute that the laws of this seat reach. -/
import Derived.Test.YthmjebkldgdeiaaGreatIr
import Derived.OpenShut
import Derived.ShutString
import Derived.ChangeOld
import Derived.SizedLaws
import Derived.ChangeOld
import Derived.Lib.Bytealg
import Derived.Lib.Overlaps
import Derived.OpenShut
import Derived.ShutString
import Derived.SizedLaws
set_option linter.unusedVariables false
set_option linter.unusedSimpArgs false
set_option linter.unusedSectionVars false
set_option maxRecDepth 100000
namespace Go.Proofs.YthmjebkldgdeiaaGreat.Fw
open Go.RowKit Go.Proofs
def Cz (a b : Vc) : Vc := fun i => max (a i) (b i)
def Rn (a b : Vc) : Prop := ∀ i, i < 8 → a i ≤ b i
instance (a b : Vc) : Decidable (Rn a b) := inferInstanceAs (Decidable (∀ i, i < 8 → a i ≤ b i))
def Auh (a b : Vc) : Int := if vEq a b then 0 else if Rn a b then -1 else if Rn b a then 1 else 2
theorem Ahu (a b : Vc) : Auh a b ≤ 0 ↔ Rn a b := by
 unfold Auh;by_cases h : vEq a b
 · have : Rn a b := fun i hi => by rw [h i hi]; exact Nat.le_refl _
   simp [h, this]
 · by_cases h2 : Rn a b
   · simp [h, h2]
   · by_cases h3 : Rn b a <;> simp [h, h2, h3]
def Aff (a b : Vc) (k : Nat) : FS := mk [(8, .pv (.i .i64 k)), (7, .vec 8 (vE b)), (4, .p 4 0), (2, .p 2 0)] [(2, some (.var (.vec 8 (vE fun i => if i < k then Cz a b i else a i)))), (4, some (.var (.vec 8 (vE fun _ => 0))))]
theorem A1l (a b : Vc) {h d} : FunOk Tryz.prog 107 [.vec 8 (vE a), .vec 8 (vE b)] h d (.vec 8 (vE (Cz a b))) [] := by
 refine Ap Ag fn107 (by simp) rfl rfl fun F => ?_;simp (disch := omega) only [ir107, go_sem];refine A1 Ag (Aff a b) (fun k => k ≤ 8) (fun k => 8 - k) 0 (by simp) (Ak ?_ ?_) fun k hk => ?_
 · simp (disch := omega) only [go_sem]
 · simp (disch := omega) only [Zy, go_sem]
 by_cases hlt : k < 8
 · simp (disch := omega) only [Aff, go_sem];refine Ad (k + 1) _ _ rfl (by omega) (by omega) ?_ ?_
   · simp (disch := omega) only [go_sem]
   · simp (disch := omega) only [go_sem];exact Qu (Ae7 _ _ _ (by simp [Cz]))
 · simp (disch := omega) only [Aff, Ae8, go_sem]
def Jl (a b : Vc) (k : Nat) : Prop := ¬ ∀ i, i < k → ¬ a i < b i
instance (a b : Vc) (k : Nat) : Decidable (Jl a b k) := inferInstanceAs (Decidable (¬ ∀ i, i < k → ¬ a i < b i))
theorem Vx (a b : Vc) (k : Nat) : Jl a b k ↔ ∃ i, i < k ∧ a i < b i := by unfold Jl; simp
def Z4 (a b : Vc) (k : Nat) : FS := mk [(7, .pv (.i .i64 k)), (5, .pv (.b (decide (Jl a b k)))), (6, .pv (.b (decide (Jl b a k)))), (2, .p 2 0), (3, .p 3 0)] [(2, some (.var (.vec 8 (vE a)))), (3, some (.var (.vec 8 (vE b))))]
theorem Aco (a b : Vc) (k : Nat) : Jl a b (k + 1) ↔ Jl a b k ∨ a k < b k := by
 simp only [Vx];constructor
 · rintro ⟨i, h1, h2⟩;by_cases e : i = k
   · subst e; exact .inr h2
   · exact .inl ⟨i, by omega, h2⟩
 · rintro (⟨i, h1, h2⟩ | h)
   · exact ⟨i, by omega, h2⟩
   · exact ⟨k, by omega, h⟩
theorem Aob (a b : Vc) : Jl a b 8 ↔ ¬ Rn b a := by
 rw [Vx];constructor
 · rintro ⟨i, h1, h2⟩ h; have := h i h1; omega
 · intro h;refine Decidable.byContradiction fun hn => h fun i hi => ?_;refine Nat.le_of_not_lt fun hl => hn ⟨i, hi, hl⟩
theorem Aui (a b : Vc) : vEq a b ↔ Rn a b ∧ Rn b a :=
 ⟨fun h => ⟨fun i hi => by rw [h i hi]; exact Nat.le_refl _, fun i hi => by rw [h i hi]; exact Nat.le_refl _⟩, fun h i hi => Nat.le_antisymm (h.1 i hi) (h.2 i hi)⟩
theorem Ad1 {a b : Bool} (h : a = b) : Imp (.pv (.b a)) (.pv (.b b)) := h ▸ Imp.refl _
set_option maxHeartbeats 1000000 in
theorem Apj (a b : Vc) {h d} : FunOk Tryz.prog 76 [.vec 8 (vE a), .vec 8 (vE b)] h d (.pv (.i .i64 (Auh a b))) [] := by
 refine Ap Ag fn76 (by simp) rfl rfl fun F => ?_;simp (disch := omega) only [ir76, go_sem];refine A1 Ag (Z4 a b) (fun k => k ≤ 8) (fun k => 8 - k) 0 (by simp) (Ak ?_ ?_) fun k hk => ?_
 · simp (disch := omega) only [go_sem];have e : ∀ x y : Vc, ¬ Jl x y 0 := fun x y => by rw [Vx]; rintro ⟨i, h, _⟩; omega
   refine ⟨Ad1 ?_, Ad1 ?_⟩ <;> simp [e]
 · simp (disch := omega) only [go_sem]
 by_cases hlt : k < 8
 · by_cases h1 : Jl a b k <;> by_cases h2 : Jl b a k
   all_goals simp (disch := omega) only [Z4, h1, h2, go_sem]
   all_goals refine Ad (k + 1) _ _ rfl (by omega) (by omega) ?_ ?_
   all_goals simp (disch := omega) only [go_sem]
   all_goals try refine ⟨Ad1 ?_, Ad1 ?_⟩
   all_goals try refine Ad1 ?_
   all_goals simp [Aco, h1, h2]
 · obtain rfl : k = 8 := by omega
   by_cases h1 : Rn a b <;> by_cases h2 : Rn b a
   all_goals simp (disch := omega) only [Z4, Aob, h1, h2, go_sem]
   all_goals simp [Auh, Aui, h1, h2]
theorem Apl (a b : Vc) {h d} : FunOk Tryz.prog 44 [.vec 8 (vE a), .vec 8 (vE b)] h d (.pv (.b (decide (Rn a b)))) [] := by
 refine Ap Ag fn44 (by simp) rfl rfl fun F => ?_;simp (disch := omega) only [ir44, go_sem];refine Aa (Apj a b) ?_;simp (disch := omega) only [go_sem];by_cases h1 : Rn a b
 · simp [Ahu, h1]
 · simp [Ahu, h1]
end Go.Proofs.YthmjebkldgdeiaaGreat.Fw
namespace Go.Proofs.YthmjebkldgdeiaaGreat.Fw
open Go.RowKit
noncomputable abbrev Ml (w : World) : View := A0 w fun _ => False
theorem Zh {w : World} {a : Addr} {v : Value} (h : w.cell? a = some v) : a.spot = none ∧ ∃ arr, Ml w a.block = some arr ∧ arr[a.off]? = some v := by
 unfold World.cell? at h;split at h
 · rename_i c ty fr hb;split at h
   · cases h
   · rename_i hs;refine ⟨by cases hx : a.spot <;> simp_all, c, ?_, h⟩;unfold Ml A0 Er;simp [hb]
 · cases h
inductive Sh where
 | int (k : IntKind) | bool | str | arr (n : Nat) (s : Sh) | st (l : List Sh) | sl (s : Sh)
mutual
def Sh.w : Sh → Nat
 | .arr n s => n * s.w
 | .st l => Sh.wL l
 | _ => 1
def Sh.wL : List Sh → Nat
 | [] => 0
 | s :: l => s.w + Sh.wL l
end
mutual
def shB (P : Program) : Sh → TypeId → Bool
 | .int k, t => match P.underlying t with | some (.int k') => decide (k = k') | _ => false
 | .bool, t => match P.underlying t with | some .bool => true | _ => false
 | .str, t => match P.underlying t with | some .string => true | _ => false
 | .arr n s, t => match P.underlying t with | some (.array n' e) => decide (n = n') && decide (P.cellsOf e = s.w) && decide (P.cellsOf t = n * s.w) && shB P s e | _ => false
 | .st l, t => match P.underlying t with | some (.struct fs) => decide (P.cellsOf t = Sh.wL l) && Aok P l fs.toList 0 | _ => false
 | .sl s, t => match P.underlying t with | some (.slice e) => decide (P.cellsOf e = s.w) && decide (0 < s.w) && shB P s e | _ => false
def Aok (P : Program) : List Sh → List Field → Nat → Bool
 | [], [], _ => true
 | s :: l, f :: fs, off => decide (f.offset = off) && decide (P.cellsOf f.type = s.w) && shB P s f.type && Aok P l fs (off + s.w)
 | _, _, _ => false
end
mutual
def GC : Sh → List PV → Prop
 | .int k, cs => ∃ n, cs = [.i k n] ∧ (Lit.int k n).wf = true
 | .bool, cs => ∃ b, cs = [.b b]
 | .str, cs => ∃ l, cs = [.s l] ∧ l.length ≤ maxLen
 | .arr n s, cs => ∃ cc : List (List PV), cs = cc.flatten ∧ cc.length = n ∧ ∀ c ∈ cc, GC s c
 | .st l, cs => GCL l cs
 | .sl s, cs => ∃ es, cs = [.sl false s.w es] ∧ es.length ≤ maxLen ∧ ∀ c ∈ es, GC s c
def GCL : List Sh → List PV → Prop
 | [], cs => cs = []
 | s :: l, cs => ∃ c cs', cs = c ++ cs' ∧ GC s c ∧ GCL l cs'
end
theorem Aeb {w : Nat} : ∀ {cc : List (List PV)}, (∀ c ∈ cc, c.length = w) → cc.flatten.length = cc.length * w
 | [], _ => by simp
 | c :: cc, h => by
   rw [List.flatten_cons, List.length_append, Aeb fun c hc => h c (by simp [hc]), h c (by simp), List.length_cons, Nat.add_mul]; omega
mutual
theorem GC.len : ∀ {s : Sh} {cs : List PV}, GC s cs → cs.length = s.w
 | .int k, cs, h => by obtain ⟨n, rfl, _⟩ := h; rfl
 | .bool, cs, h => by obtain ⟨n, rfl⟩ := h; rfl
 | .str, cs, h => by obtain ⟨n, rfl, _⟩ := h; rfl
 | .arr n s, cs, h => by
   simp only [GC] at h;obtain ⟨cc, rfl, rfl, h⟩ := h;rw [Aeb fun c hc => GC.len (h c hc)]; rfl
 | .st l, cs, h => by simp only [GC] at h; simp only [Sh.w]; exact GCL.len h
 | .sl s, cs, h => by obtain ⟨n, rfl, _⟩ := h; rfl
theorem GCL.len : ∀ {l : List Sh} {cs : List PV}, GCL l cs → cs.length = Sh.wL l
 | [], cs, h => by simp only [GCL] at h; subst h; rfl
 | s :: l, cs, h => by
   simp only [GCL] at h;obtain ⟨c, cs', rfl, h1, h2⟩ := h;rw [List.length_append, GC.len h1, GCL.len h2]; rfl
end
theorem Atf {V : View} {s : Sh} : ∀ (n : Nat) (vs : List Value), vs.length = n * s.w → (∀ i, i < n → ∃ c, GC s c ∧ PCells V c ((vs.drop (i * s.w)).take s.w)) → ∃ cc : List (List PV), cc.length = n ∧ (∀ c ∈ cc, GC s c) ∧ PCells V cc.flatten vs
 | 0, vs, hl, h => by
   have : vs = [] := List.eq_nil_of_length_eq_zero (by omega);subst this;exact ⟨[], rfl, by simp, PCells.nil⟩
 | n + 1, vs, hl, h => by
   rw [Nat.add_mul] at hl;obtain ⟨c, g, p⟩ := h 0 (by omega);rw [Nat.zero_mul, List.drop_zero] at p;obtain ⟨cc, e1, e2, e3⟩ := Atf (V := V) (s := s) n (vs.drop s.w) (by rw [List.length_drop]; omega) fun i hi => by
    obtain ⟨c', g', p'⟩ := h (i + 1) (by omega);refine ⟨c', g', ?_⟩;rw [List.drop_drop, show s.w + i * s.w = (i + 1) * s.w from by rw [Nat.add_mul]; omega];exact p'
   refine ⟨c :: cc, by simp [e1], fun x hx => ?_, ?_⟩
   · rcases List.mem_cons.1 hx with rfl | hx
     · exact g
     · exact e2 x hx
   · rw [List.flatten_cons];have := PCells.append p e3
     rwa [List.take_append_drop] at this
theorem Ayx {a : Addr} (h : a.spot = none) (i j : Nat) : (a.add i).add j = ⟨a.block, a.off + (i + j), none⟩ := by
 obtain ⟨b, o, sp⟩ := a;simp only at h; subst h;unfold Addr.add;by_cases hi : i = 0
 · subst hi;by_cases hj : j = 0
   · subst hj; simp
   · simp [hj]
 · by_cases hj : j = 0
   · subst hj; simp [hi]
   · simp [hi, hj]; omega
theorem Aoe {w : World} {s : Sh} {a : Addr} {len cap : Nat} (hcap : len ≤ cap) (hw : 0 < s.w)
 (h : ∀ i, i < len → ∃ c vs, GC s c ∧ PCells (Ml w) c vs ∧ w.cells? 0 (a.add (i * s.w)) s.w = some vs) :
 ∃ es : List (List PV), es.length = len ∧ (∀ c ∈ es, GC s c) ∧ PConc (Ml w) (.sl false s.w es) (.slice (some a) len cap) := by
 by_cases h0 : len = 0
 · subst h0;exact ⟨[], rfl, by simp, .sl false s.w [] (some a) cap (fun _ _ => undef) 0 0 #[] (by simp) (by simp) (by simp) (by simp) (by simp) (by simp)⟩
 · have h' : ∀ i, ∃ c vs, i < len → GC s c ∧ PCells (Ml w) c vs ∧ w.cells? 0 (a.add (i * s.w)) s.w = some vs := fun i => by
    by_cases hi : i < len
    · obtain ⟨c, vs, h1⟩ := h i hi; exact ⟨c, vs, fun _ => h1⟩
    · exact ⟨[], [], fun h => absurd h hi⟩
   obtain ⟨c, hc⟩ := Classical.axiomOfChoice h';obtain ⟨vs, hv⟩ := Classical.axiomOfChoice hc;obtain ⟨g0, p0, k0⟩ := hv 0 (by omega);obtain ⟨_, l0, c0⟩ := World.cells?_some k0;have c00 := c0 0 hw;have hlen0 : 0 < (vs 0).length := by omega
   rw [List.getElem?_eq_getElem hlen0, Nat.zero_mul] at c00;have e0 : (a.add 0).add 0 = a := by simp [Addr.add]
   rw [e0] at c00;obtain ⟨hs, arr, harr, _⟩ := Zh c00;have hget : ∀ i j, i < len → j < s.w → arr[a.off + (i * s.w + j)]? = (vs i)[j]? := fun i j hi hj => by
    obtain ⟨_, _, k⟩ := hv i hi;obtain ⟨_, ll, cc⟩ := World.cells?_some k;have h1 := cc j hj;have hlt : j < (vs i).length := by omega
    rw [List.getElem?_eq_getElem hlt, Ayx hs] at h1;obtain ⟨_, arr', ha', h2⟩ := Zh h1;simp only at ha' h2;rw [harr] at ha'; cases ha';rw [h2, List.getElem?_eq_getElem hlt]
   have hel : ∀ i, i < len → ((List.range len).map c)[i]? = some (c i) := fun i hi => by simp [hi]
   refine ⟨(List.range len).map c, by simp, fun x hx => ?_, ?_⟩
   · obtain ⟨i, hi, rfl⟩ := List.mem_map.1 hx;exact (hv i (by simpa using hi)).1
   · have e := PConc.sl (V := Ml w) false s.w ((List.range len).map c) (some a) cap (fun i j => (vs i).getD j undef) a.block a.off arr (by simpa using hcap) (by simp) (fun x hx => by
      obtain ⟨i, hi, rfl⟩ := List.mem_map.1 hx;exact (hv i (by simpa using hi)).1.len) (fun _ => by
      obtain ⟨b, o, sp⟩ := a;simp only at hs; subst hs;exact ⟨rfl, harr⟩) (fun i j hi hj => by
      have hi' : i < len := by simpa using hi
      rw [hget i j hi' hj];have : j < (vs i).length := by
       obtain ⟨_, ll, _⟩ := World.cells?_some (hv i hi').2.2; omega
      simp [List.getD_eq_getElem?_getD, this]) (fun i j x y hx hy => by
      have hi' : i < len := by
       have := (List.getElem?_eq_some_iff.1 hx).1; simpa using this
      rw [hel i hi'] at hx; cases hx;obtain ⟨v, hv1, hv2⟩ := (hv i hi').2.1.2 j y hy;simp only [List.getD_eq_getElem?_getD, hv1, Option.getD_some]; exact hv2)
     simpa using e
section
variable {H : Type} {enc : TypeId × Value → H} {P : Program} {w : World} {spare : Nat → Bool} {held : Bool}
mutual
theorem Ua : ∀ (s : Sh) {t : TypeId} {fuel : Nat} {vs : List Value} {x}, shB P s t = true → DataW.trod enc P w 0 spare held fuel t vs = some x → ∃ cs, GC s cs ∧ PCells (Ml w) cs vs
 | .int k, t, fuel, vs, x, hs, h => by
   simp only [shB] at hs;split at hs
   · rename_i k' hu;obtain rfl := of_decide_eq_true hs;obtain ⟨n, rfl, _, hw⟩ := DataW.trod_int hu h;exact ⟨[.i k n], ⟨n, rfl, hw⟩, PCells.cons (.i _ _) PCells.nil⟩
   · cases hs
 | .bool, t, fuel, vs, x, hs, h => by
   simp only [shB] at hs;split at hs
   · rename_i hu;obtain ⟨n, rfl, _⟩ := DataW.trod_bool hu h;exact ⟨[.b n], ⟨n, rfl⟩, PCells.cons (.b _) PCells.nil⟩
   · cases hs
 | .str, t, fuel, vs, x, hs, h => by
   simp only [shB] at hs;split at hs
   · rename_i hu;obtain ⟨b, rfl, _, hl⟩ := DataW.trod_string hu h;refine ⟨[.s b.data.toList], ⟨b.data.toList, rfl, by simpa using hl⟩, PCells.cons ?_ PCells.nil⟩;have := PConc.s (V := Ml w) b.data.toList;simpa using this
   · cases hs
 | .arr n s, t, fuel, vs, x, hs, h => by
   simp only [shB] at hs;split at hs
   · rename_i n' e hu;simp only [Bool.and_eq_true, decide_eq_true_eq] at hs;obtain ⟨⟨⟨rfl, h1⟩, h2⟩, h3⟩ := hs;obtain ⟨xs, m, rfl, _, hl, hx, hg⟩ := DataW.trod_array hu h;rw [h1] at hg;obtain ⟨cc, e1, e2, e3⟩ := Atf (V := Ml w) (s := s) n vs (by rw [hl, h2]) fun i hi => by
      have := hg i hi;rw [List.getElem?_eq_getElem (by omega)] at this;exact Ua s h3 this
     exact ⟨cc.flatten, by simp only [GC]; exact ⟨cc, rfl, e1, e2⟩, e3⟩
   · cases hs
 | .st l, t, fuel, vs, x, hs, h => by
   simp only [shB] at hs;split at hs
   · rename_i fs hu;simp only [Bool.and_eq_true, decide_eq_true_eq] at hs;obtain ⟨h2, h3⟩ := hs;obtain ⟨xs, m, rfl, _, hl, hx, hg⟩ := DataW.trod_struct hu h;obtain ⟨cs, e1, e2⟩ := Aca l (off := 0) (vs := vs) h3 fun f hf => by
      obtain ⟨i, hi⟩ := List.mem_iff_getElem?.1 hf;have hi2 : fs[i]? = some f := by simpa using hi
      have := hg i f hi2;have hlt := (Array.getElem?_eq_some_iff.1 hi2).1;rw [List.getElem?_eq_getElem (by omega)] at this;exact ⟨_, _, this⟩
     rw [List.drop_zero, ← h2, ← hl, List.take_length] at e2;exact ⟨cs, by simp only [GC]; exact e1, e2⟩
   · cases hs
 | .sl s, t, fuel, vs, x, hs, h => by
   simp only [shB] at hs;split at hs
   · rename_i e hu;simp only [Bool.and_eq_true, decide_eq_true_eq] at hs;obtain ⟨⟨h1, h2⟩, h3⟩ := hs;rcases DataW.trod_slice hu h with ⟨rfl, _⟩ | ⟨a, len, cap, Dn, rest, n, rfl, rfl, _, _, hl, hm, hle, hg, _⟩
     · exact ⟨[.sl false s.w []], by simp only [GC]; exact ⟨[], rfl, by simp, by simp⟩, PCells.cons (.sl false s.w [] none 0 (fun _ _ => undef) 0 0 #[] (by simp) (by simp) (by simp) (by simp) (by simp) (by simp)) PCells.nil⟩
     · rw [h1] at hg;obtain ⟨es, e1, e2, e3⟩ := Aoe (w := w) (s := s) (a := a) hl h2 fun i hi => by
        have h4 := hg i hi;rw [List.getElem?_eq_getElem (by omega)] at h4;obtain ⟨vs, h5, h6⟩ := Option.bind_eq_some_iff.1 h4;obtain ⟨c, g, p⟩ := Ua s h3 h6;exact ⟨c, vs, g, p, h5⟩
       exact ⟨[.sl false s.w es], by simp only [GC]; exact ⟨es, rfl, by omega, e2⟩, PCells.cons e3 PCells.nil⟩
   · cases hs
theorem Aca : ∀ (l : List Sh) {fs : List Field} {off : Nat} {vs : List Value}, Aok P l fs off = true →
 (∀ f ∈ fs, ∃ n x, DataW.trod enc P w 0 spare held n f.type ((vs.drop f.offset).take (P.cellsOf f.type)) = some x) → ∃ cs, GCL l cs ∧ PCells (Ml w) cs ((vs.drop off).take (Sh.wL l))
 | [], fs, off, vs, hs, h => ⟨[], by simp only [GCL], by simp only [Sh.wL, List.take_zero]; exact PCells.nil⟩
 | s :: l, [], off, vs, hs, h => by simp [Aok] at hs
 | s :: l, f :: fs, off, vs, hs, h => by
   simp only [Aok, Bool.and_eq_true, decide_eq_true_eq] at hs;obtain ⟨⟨⟨h1, h2⟩, h3⟩, h4⟩ := hs;obtain ⟨n, x, hx⟩ := h f (by simp);obtain ⟨c, g, p⟩ := Ua s h3 hx;obtain ⟨cs, gl, pl⟩ := Aca l (vs := vs) h4 fun f hf => h f (by simp [hf]);refine ⟨c ++ cs, by simp only [GCL]; exact ⟨c, cs, rfl, g, gl⟩, ?_⟩;rw [h1, h2] at p;have := PCells.append p pl;have e : (vs.drop off).take (Sh.wL (s :: l)) = (vs.drop off).take s.w ++ (vs.drop (off + s.w)).take (Sh.wL l) := by
    simp only [Sh.wL];rw [List.take_add, List.drop_drop]
   rw [e]; exact this
end
end
mutual
def I6 : Sh → List PV → SV
 | .arr n s, cs => .vec (n * s.w) cs
 | .st l, cs => .agg (O6 l cs)
 | _, cs => .pv (cs.headD (.b false))
def O6 : List Sh → List PV → List SV
 | [], _ => []
 | s :: l, cs => (I6 s (cs.take s.w)).segs ++ O6 l (cs.drop s.w)
end
def Sh.isAg : Sh → Bool
 | .arr _ _ => true
 | .st _ => true
 | _ => false
theorem Ra {V : View} {ρ : Nat → Value} : ∀ {l m : List SV} {a b : List Value}, Cells V ρ l a → Cells V ρ m b → Cells V ρ (l ++ m) (a ++ b)
 | [], m, a, b, h1, h2 => by simp only [Cells] at h1; subst h1; exact h2
 | x :: l, m, a, b, h1, h2 => by
   simp only [Cells, List.cons_append] at h1 ⊢;obtain ⟨u, us, rfl, c, d, e, f⟩ := h1;exact ⟨u, us ++ b, by simp, c, d, e, Ra f h2⟩
mutual
theorem Zg {V : View} {ρ : Nat → Value} : ∀ (s : Sh) {cs : List PV} {v : Value}, GC s cs → PCells V cs (Ax v) → (s.isAg = true → ∃ vs, v = .agg ⟨vs⟩) → (s.isAg = false → ∀ vs, v ≠ .agg vs) → Conc V ρ (I6 s cs) v
 | .int k, cs, v, g, p, _, h => by
   obtain ⟨n, rfl, _⟩ := g;have e : Ax v = [v] := by cases v <;> first | rfl | exact absurd rfl (h rfl _)
   rw [e] at p;obtain ⟨v', h1, h2⟩ := p.2 0 _ rfl;simp at h1; subst h1;simp only [I6, Conc, List.headD_cons]; exact h2
 | .bool, cs, v, g, p, _, h => by
   obtain ⟨n, rfl⟩ := g;have e : Ax v = [v] := by cases v <;> first | rfl | exact absurd rfl (h rfl _)
   rw [e] at p;obtain ⟨v', h1, h2⟩ := p.2 0 _ rfl;simp at h1; subst h1;simp only [I6, Conc, List.headD_cons]; exact h2
 | .str, cs, v, g, p, _, h => by
   obtain ⟨n, rfl, _⟩ := g;have e : Ax v = [v] := by cases v <;> first | rfl | exact absurd rfl (h rfl _)
   rw [e] at p;obtain ⟨v', h1, h2⟩ := p.2 0 _ rfl;simp at h1; subst h1;simp only [I6, Conc, List.headD_cons]; exact h2
 | .sl s, cs, v, g, p, _, h => by
   simp only [GC] at g;obtain ⟨n, rfl, _⟩ := g;have e : Ax v = [v] := by cases v <;> first | rfl | exact absurd rfl (h rfl _)
   rw [e] at p;obtain ⟨v', h1, h2⟩ := p.2 0 _ rfl;simp at h1; subst h1;simp only [I6, Conc, List.headD_cons]; exact h2
 | .arr n s, cs, v, g, p, h, _ => by
   obtain ⟨vs, rfl⟩ := h rfl;have hl := g.len;simp only [I6, Conc];refine ⟨vs, rfl, ?_, p⟩;have e1 : vs.length = cs.length := p.1.symm;rw [e1, hl]; rfl
 | .st l, cs, v, g, p, h, _ => by
   obtain ⟨vs, rfl⟩ := h rfl;simp only [GC] at g;simp only [I6, Conc];exact ⟨vs, rfl, Nc l g p⟩
theorem Nc {V : View} {ρ : Nat → Value} : ∀ (l : List Sh) {cs : List PV} {vs : List Value}, GCL l cs → PCells V cs vs → Cells V ρ (O6 l cs) vs
 | [], cs, vs, g, p => by
   simp only [GCL] at g; subst g;have : vs = [] := List.eq_nil_of_length_eq_zero (by rw [← p.1]; rfl);subst this;simp only [O6, Cells]
 | s :: l, cs, vs, g, p => by
   simp only [GCL] at g;obtain ⟨c, cs', rfl, g1, g2⟩ := g;have hl := g1.len;have p1 : PCells V c (vs.take c.length) := by
    have := p.split c.length |>.1;simpa using this
   have p2 : PCells V cs' (vs.drop c.length) := by
    have := p.split c.length |>.2;simpa using this
   have hvs : vs = vs.take c.length ++ vs.drop c.length := (List.take_append_drop _ _).symm;have hlen : (vs.take c.length).length = s.w := by rw [← p1.1, hl]
   simp only [O6];rw [List.take_left' hl, List.drop_left' hl];rw [hvs];refine Ra ?_ (Nc l g2 p2);cases s with
   | st m =>
     simp only [GC] at g1;simp only [I6, SV.segs];exact Nc m g1 p1
   | arr n s' =>
     have := Zg (V := V) (ρ := ρ) (.arr n s') (v := .agg ⟨vs.take c.length⟩) g1 (by simpa [Ax] using p1) (fun _ => ⟨_, rfl⟩) (by simp [Sh.isAg]);simp only [I6] at this ⊢;simp only [SV.segs, Cells];exact ⟨_, [], by simp [Ax], this, by simpa [Ax, SV.width, Sh.w] using hlen, fun v hv => p1.one v (by simpa [Ax] using hv), rfl⟩
   | int k =>
     obtain ⟨n, rfl, _⟩ := g1;obtain ⟨v, h1, h2⟩ := p1.2 0 _ rfl;have e : vs.take [PV.i k n].length = [v] := by
      match hx : vs.take [PV.i k n].length, h1, hlen with
      | [u], h1, _ => simp at h1; rw [h1]
     have ho := h2.one;have fv : Ax v = [v] := by cases v <;> first | rfl | exact absurd ho (by simp [Bb])
     rw [e];simp only [I6, SV.segs, Cells, Conc, List.headD_cons];exact ⟨v, [], by rw [fv]; rfl, h2, by rw [fv]; rfl, by rw [fv]; simpa using ho, rfl⟩
   | bool =>
     obtain ⟨n, rfl⟩ := g1;obtain ⟨v, h1, h2⟩ := p1.2 0 _ rfl;have e : vs.take [PV.b n].length = [v] := by
      match hx : vs.take [PV.b n].length, h1, hlen with
      | [u], h1, _ => simp at h1; rw [h1]
     have ho := h2.one;have fv : Ax v = [v] := by cases v <;> first | rfl | exact absurd ho (by simp [Bb])
     rw [e];simp only [I6, SV.segs, Cells, Conc, List.headD_cons];exact ⟨v, [], by rw [fv]; rfl, h2, by rw [fv]; rfl, by rw [fv]; simpa using ho, rfl⟩
   | str =>
     obtain ⟨n, rfl, _⟩ := g1;obtain ⟨v, h1, h2⟩ := p1.2 0 _ rfl;have e : vs.take [PV.s n].length = [v] := by
      match hx : vs.take [PV.s n].length, h1, hlen with
      | [u], h1, _ => simp at h1; rw [h1]
     have ho := h2.one;have fv : Ax v = [v] := by cases v <;> first | rfl | exact absurd ho (by simp [Bb])
     rw [e];simp only [I6, SV.segs, Cells, Conc, List.headD_cons];exact ⟨v, [], by rw [fv]; rfl, h2, by rw [fv]; rfl, by rw [fv]; simpa using ho, rfl⟩
   | sl s' =>
     simp only [GC] at g1;obtain ⟨n, rfl, _⟩ := g1;obtain ⟨v, h1, h2⟩ := p1.2 0 _ rfl;have e : vs.take [PV.sl false s'.w n].length = [v] := by
      match hx : vs.take [PV.sl false s'.w n].length, h1, hlen with
      | [u], h1, _ => simp at h1; rw [h1]
     have ho := h2.one;have fv : Ax v = [v] := by cases v <;> first | rfl | exact absurd ho (by simp [Bb])
     rw [e];simp only [I6, SV.segs, Cells, Conc, List.headD_cons];exact ⟨v, [], by rw [fv]; rfl, h2, by rw [fv]; rfl, by rw [fv]; simpa using ho, rfl⟩
end
mutual
theorem Acd : ∀ (s : Sh) (cs : List PV), (I6 s cs).closed = true
 | .int k, cs => rfl
 | .bool, cs => rfl
 | .str, cs => rfl
 | .sl s, cs => rfl
 | .arr n s, cs => rfl
 | .st l, cs => by simp only [I6, SV.closed]; exact Kj l cs
theorem Kj : ∀ (l : List Sh) (cs : List PV), SV.closedL (O6 l cs) = true
 | [], cs => rfl
 | s :: l, cs => by
   simp only [O6];have h2 := Kj l (cs.drop s.w);have app : ∀ (a b : List SV), SV.closedL a = true → SV.closedL b = true → SV.closedL (a ++ b) = true := fun a b ha hb => by
    induction a with
    | nil => exact hb
    | cons x a ih => simp only [SV.closedL, Bool.and_eq_true, List.cons_append] at ha ⊢; exact ⟨ha.1, ih ha.2⟩
   refine app _ _ ?_ h2;cases s with
   | st m => simp only [I6, SV.segs]; exact Kj m _
   | int k => rfl
   | bool => rfl
   | str => rfl
   | sl s => rfl
   | arr n s => rfl
end
theorem Akf {P : Program} {w : World} {base : Nat} {t : TypeId} {v : Value} : ∀ {s : Sh}, shB P s t = true → Value.okWide P w .any base t v → (s.isAg = true → ∃ vs, v = .agg ⟨vs⟩) ∧ (s.isAg = false → ∀ vs, v ≠ .agg vs)
 | .int k, hs, h => by
   simp only [shB] at hs;split at hs
   · rename_i k' hu;obtain ⟨n, rfl⟩ := WideShapes.okWide_int hu h;exact ⟨fun h => (by cases h), fun _ vs e => by cases e⟩
   · cases hs
 | .bool, hs, h => by
   simp only [shB] at hs;split at hs
   · rename_i hu;obtain ⟨n, rfl⟩ := WideShapes.okWide_bool hu h;exact ⟨fun h => (by cases h), fun _ vs e => by cases e⟩
   · cases hs
 | .str, hs, h => by
   simp only [shB] at hs;split at hs
   · rename_i hu;obtain ⟨n, rfl⟩ := WideShapes.okWide_string hu h;exact ⟨fun h => (by cases h), fun _ vs e => by cases e⟩
   · cases hs
 | .sl s, hs, h => by
   simp only [shB] at hs;split at hs
   · rename_i e hu;obtain ⟨a, b, c, rfl⟩ := WideShapes.okWide_slice hu h;exact ⟨fun h => (by cases h), fun _ vs e => by cases e⟩
   · cases hs
 | .arr n s, hs, h => by
   simp only [shB] at hs;split at hs
   · rename_i n' e hu;simp only [Value.okWide, hu] at h;obtain ⟨⟨xs⟩, rfl, _⟩ := h;exact ⟨fun _ => ⟨_, rfl⟩, fun h => (by cases h)⟩
   · cases hs
 | .st l, hs, h => by
   simp only [shB] at hs;split at hs
   · rename_i fs hu;simp only [Value.okWide, hu] at h;obtain ⟨⟨xs⟩, rfl, _⟩ := h;exact ⟨fun _ => ⟨_, rfl⟩, fun h => (by cases h)⟩
   · cases hs
theorem Xn {H : Type} {enc : TypeId × Value → H} {P : Program} {w : World} {spare : Nat → Bool} {held : Bool} {base : Nat} {t : TypeId} {v : Value} {d : DataW H} {ps : List MemPlace} {s : Sh} (hs : shB P s t = true)
 (hv : Value.okWide P w .any base t v) (h : DataW.Trod enc P w 0 spare held t v d ps) : ∃ cs, GC s cs ∧ Conc (Ml w) (fun _ => undef) (I6 s cs) v := by
 obtain ⟨fuel, hf⟩ := h;obtain ⟨cs, g, p⟩ := Ua s hs hf;rw [Fz] at p;obtain ⟨h1, h2⟩ := Akf hs hv;exact ⟨cs, g, Zg s g p h1 h2⟩
end Go.Proofs.YthmjebkldgdeiaaGreat.Fw
namespace Go.Proofs.YthmjebkldgdeiaaGreat.Fw
open Go.RowKit
theorem Aec {m : Nat} : ∀ {cc : List (List PV)} {i j : Nat}, (∀ c ∈ cc, c.length = m) → j < m → cc.flatten[i * m + j]? = (cc[i]?).bind (·[j]?)
 | [], i, j, _, _ => by simp
 | c :: cc, 0, j, h, hj => by
   have hc := h c (by simp);rw [List.flatten_cons, Nat.zero_mul, Nat.zero_add, List.getElem?_append_left (by omega)]; rfl
 | c :: cc, i + 1, j, h, hj => by
   have hc := h c (by simp);rw [List.flatten_cons, List.getElem?_append_right (by rw [Nat.add_mul]; omega)];rw [show (i + 1) * m + j - c.length = i * m + j from by rw [Nat.add_mul]; omega];rw [Aec (fun c hc => h c (by simp [hc])) hj]; rfl
theorem A4a {n : Nat} {s : Sh} {cs : List PV} (h : GC (.arr n s) cs) : cs.length = n * s.w ∧ ∀ i, i < n → ∃ c, GC s c ∧ ∀ j, j < s.w → cs[i * s.w + j]? = c[j]? := by
 refine ⟨h.len, fun i hi => ?_⟩;simp only [GC] at h;obtain ⟨cc, rfl, rfl, g⟩ := h;refine ⟨cc[i], g _ (List.getElem_mem _), fun j hj => ?_⟩;rw [Aec (fun c hc => (g c hc).len) hj, List.getElem?_eq_getElem hi]; rfl
theorem Ans {n : Int} (h : (Lit.int .u32 n).wf = true) : 0 ≤ n ∧ n < 4294967296 := by
 simp [Lit.wf, IntKind.min, IntKind.max, IntKind.signed, IntKind.bits] at h; omega
theorem Arn {n : Int} (h : (Lit.int .i64 n).wf = true) : -9223372036854775808 ≤ n ∧ n < 9223372036854775808 := by
 simp [Lit.wf, IntKind.min, IntKind.max, IntKind.signed, IntKind.bits] at h; omega
theorem Ayl {n : Nat} {cs : List PV} {f : Nat → PV} (hl : cs.length = n) (h : ∀ i, i < n → cs[i]? = some (f i)) : cs = Cu n f := by
 apply List.ext_getElem?;intro i;by_cases hi : i < n
 · rw [h i hi, Hn hi]
 · rw [List.getElem?_eq_none (by omega), List.getElem?_eq_none (by rw [Ei]; omega)]
theorem At7 {cs : List PV} (h : GC (.arr 8 (.int .u32)) cs) : ∃ a : Vc, cs = vE a ∧ ∀ i, i < 8 → a i < 4294967296 := by
 obtain ⟨hl, g⟩ := A4a h;have key : ∀ i, ∃ n : Nat, i < 8 → cs[i]? = some (.i .u32 n) ∧ n < 4294967296 := fun i => by
  by_cases hi : i < 8
  · obtain ⟨c, ⟨n, rfl, hw⟩, k⟩ := g i hi;have := k 0 (by simp [Sh.w]);simp only [Sh.w, Nat.mul_one, Nat.add_zero] at this;have hr := Ans hw;refine ⟨n.toNat, fun _ => ⟨?_, by omega⟩⟩;rw [this, show ((n.toNat : Nat) : Int) = n from by omega]; rfl
  · exact ⟨0, fun h => absurd h hi⟩
 obtain ⟨a, ha⟩ := Classical.axiomOfChoice key;exact ⟨a, Ayl hl fun i hi => (ha i hi).1, fun i hi => (ha i hi).2⟩
theorem A4o {cs : List PV} (h : GC (.int .i64) cs) : ∃ n : Int, cs = [.i .i64 n] ∧ -9223372036854775808 ≤ n ∧ n < 9223372036854775808 := by
 obtain ⟨n, rfl, hw⟩ := h; exact ⟨n, rfl, Arn hw⟩
theorem Zu (n : Int) : IntKind.u64.wrap n = n % 18446744073709551616 := by simp [IntKind.wrap, IntKind.signed, IntKind.bits]
theorem At8 {s : Sh} {cs : List PV} (h : GC (.sl s) cs) : ∃ es, cs = [.sl false s.w es] ∧ es.length ≤ maxLen ∧ ∀ c ∈ es, GC s c := by
 simp only [GC] at h; exact h
end Go.Proofs.YthmjebkldgdeiaaGreat.Fw
namespace Go.Proofs.YthmjebkldgdeiaaGreat.Fw
open Go.RowKit Go.Proofs
def Cm (r : Int) (q : Nat) (r' : Int) (q' : Nat) : Bool := decide (q < q' ∨ q = q' ∧ r < r')
theorem Mw (r : Int) (q : Nat) (r' : Int) (q' : Nat) {h d} : FunOk Tryz.prog 144 [.vec 2 [.i .i64 r, .i .u32 q], .vec 2 [.i .i64 r', .i .u32 q']] h d (.pv (.b (Cm r q r' q'))) [] := by
 refine Ap Ag fn144 (by simp) rfl rfl fun F => ?_;by_cases h : q = q'
 · subst h;have e : Cm r q r' q = decide (r < r') := by simp [Cm]
   simp (disch := omega) only [ir144, e, go_sem]
 · have hz : ¬ (q : Int) = (q' : Int) := by omega
   have e : Cm r q r' q' = decide ((q : Int) < (q' : Int)) := by simp [Cm, h]
   simp (disch := omega) only [ir144, e, go_sem]
theorem F8 (r : Int) (q : Nat) (r' : Int) (q' : Nat) {h d} : FunOk Tryz.prog 61 [.vec 2 [.i .i64 r, .i .u32 q], .vec 2 [.i .i64 r', .i .u32 q']] h d (.pv (.b (Cm r q r' q'))) [] := by
 refine Ap Ag fn61 (by simp) rfl rfl fun F => ?_;by_cases h : q = q'
 · subst h;have e : Cm r q r' q = decide (r < r') := by simp [Cm]
   have hl : ¬ (q : Int) < (q : Int) := by omega
   simp (disch := omega) only [ir61, e, hl, go_sem]
 · have hz : ¬ (q : Int) = (q' : Int) := by omega
   have e : Cm r q r' q' = decide ((q : Int) < (q' : Int)) := by simp [Cm, h]
   by_cases hl : (q : Int) < (q' : Int)
   · simp (disch := omega) only [ir61, e, hl, go_sem]
   · simp (disch := omega) only [ir61, e, hl, go_sem]
theorem Gs {r r' : Int} {q q' : Nat} (h : r = r' ∧ q = q') : Qc [.i .i64 r, .i .u32 q] [.i .i64 r', .i .u32 q'] = true := by
 obtain ⟨rfl, rfl⟩ := h; simp [Qc]
theorem Fj {r r' : Int} {q q' : Nat} (h : ¬ (r = r' ∧ q = q')) : Qc [.i .i64 r, .i .u32 q] [.i .i64 r', .i .u32 q'] = false := by
 simp only [Qc, decide_eq_false_iff_not];intro e;simp only [List.cons.injEq, PV.i.injEq, true_and, and_true] at e;exact h ⟨e.1, by omega⟩
abbrev Bq := Int × Nat
def Eb (b : Bq) : List PV := [.i .i64 b.1, .i .u32 b.2]
def Ht (a : Vc) (r : Int) : Nat := if 1 ≤ r ∧ r ≤ 8 then a (r - 1).toNat else 0
def Bh (a : Vc) (r : Int) (q : Nat) : Bool := decide (1 ≤ q ∧ q ≤ Ht a r)
theorem A5x (a : Vc) (r : Int) {h d} : FunOk Tryz.prog 96 [.vec 8 (vE a), .pv (.i .i64 r)] h d (.pv (.i .u32 (Ht a r))) [] := by
 refine Ap Ag fn96 (by simp) rfl rfl fun F => ?_;by_cases h1 : r < 1
 · have e : Ht a r = 0 := by simp [Ht]; omega
   simp (disch := omega) only [ir96, h1, e, go_sem]
 by_cases h2 : 8 < r
 · have e : Ht a r = 0 := by simp [Ht]; omega
   simp (disch := omega) only [ir96, h1, h2, e, go_sem]
 have e : Ht a r = a (r - 1).toNat := by simp [Ht]; omega
 obtain ⟨k, rfl⟩ : ∃ k : Nat, r = k + 1 := ⟨(r - 1).toNat, by omega⟩
 have ek : ((k : Int) + 1 - 1) = k := by omega
 simp (disch := omega) only [ir96, h1, h2, e, ek, go_sem]
def Aaa (a : Vc) (r : Int) (k : Nat) : FS := mk [(5, .pv (.i .i64 k)), (1, .pv (.i .i64 r)), (2, .p 2 0)] [(2, some (.var (.vec 8 (vE a))))]
theorem Pd (a : Vc) (r : Int) {h d} : FunOk Tryz.prog 51 [.vec 8 (vE a), .pv (.i .i64 r)] h d (.pv (.i .u32 (Ht a r))) [] := by
 refine Ap Ag fn51 (by simp) rfl rfl fun F => ?_;simp (disch := omega) only [ir51, go_sem];refine A1 Ag (Aaa a r) (fun k => k ≤ 8 ∧ ∀ i : Nat, i < k → (i : Int) + 1 ≠ r) (fun k => 8 - k) 0 (by simp) (Ak ?_ ?_) fun k hk => ?_
 · simp (disch := omega) only [go_sem]
 · simp (disch := omega) only [go_sem]
 obtain ⟨hk1, hk2⟩ := hk;by_cases hlt : k < 8
 · by_cases he : (k : Int) + 1 = r
   · subst he;have e : Ht a ((k : Int) + 1) = a k := by
      have e1 : ((k : Int) + 1 - 1).toNat = k := by omega
      simp [Ht, e1]; omega
     simp (disch := omega) only [Aaa, e, go_sem]
   · simp (disch := omega) only [Aaa, he, go_sem];refine Ad (k + 1) _ _ rfl ⟨by omega, fun i hi => ?_⟩ (by omega) ?_ ?_
     · by_cases e : i = k
       · subst e; exact he
       · exact hk2 i (by omega)
     · simp (disch := omega) only [go_sem]
     · simp (disch := omega) only [go_sem]
 · obtain rfl : k = 8 := by omega
   have e : Ht a r = 0 := by
    unfold Ht;rw [if_neg];intro h;exact hk2 (r - 1).toNat (by omega) (by omega)
   simp (disch := omega) only [Aaa, e, go_sem]
theorem Gi (a : Vc) (r : Int) (q : Nat) {h d} : FunOk Tryz.prog 54 [.vec 8 (vE a), .vec 2 [.i .i64 r, .i .u32 q]] h d (.pv (.b (Bh a r q))) [] := by
 refine Ap Ag fn54 (by simp) rfl rfl fun F => ?_;by_cases h1 : (1 : Int) ≤ q
 · simp (disch := omega) only [ir54, h1, go_sem];refine Aa (A5x a r) ?_;have e : Bh a r q = decide ((q : Int) ≤ (Ht a r : Int)) := decide_eq_decide.2 (by omega);simp (disch := omega) only [e, go_sem]
 · have e : Bh a r q = false := decide_eq_false (by omega);simp (disch := omega) only [ir54, h1, e, go_sem]
theorem Kl (a : Vc) (r : Int) (q : Nat) {h d} : FunOk Tryz.prog 12 [.vec 8 (vE a), .vec 2 [.i .i64 r, .i .u32 q]] h d (.pv (.b (Bh a r q))) [] := by
 refine Ap Ag fn12 (by simp) rfl rfl fun F => ?_;by_cases h1 : (0 : Int) < q
 · simp (disch := omega) only [ir12, h1, go_sem];refine Aa (Pd a r) ?_;have e : Bh a r q = decide ((q : Int) ≤ (Ht a r : Int)) := decide_eq_decide.2 (by omega);simp (disch := omega) only [e, go_sem]
 · have e : Bh a r q = false := decide_eq_false (by omega);simp (disch := omega) only [ir12, h1, e, go_sem]
theorem Hi {l : List SV} {cs : List PV} {n : Nat} (hc : SV.cellsL? l = some cs) (hn : cs.length = n) : Imp (.agg l) (.vec n cs) := by
 intro V ρ v h;have hp := Conc.cells h (x := .agg l) (cs := cs) hc;simp only [Conc] at h ⊢;obtain ⟨vs, rfl, _⟩ := h;exact ⟨vs, rfl, by rw [← hn]; exact hp.1.symm, hp⟩
def ImpL : List SV → List SV → Prop
 | [], [] => True
 | x :: l, y :: m => Imp x y ∧ ImpL l m
 | _, _ => False
theorem ImpL.conc {V : View} {ρ : Nat → Value} : ∀ {l m : List SV} {vs : List Value}, ImpL l m → ConcL V ρ l vs → ConcL V ρ m vs
 | [], [], vs, _, h => h
 | x :: l, y :: m, vs, h, k => by
   simp only [ConcL] at k ⊢;obtain ⟨v, us, rfl, k1, k2⟩ := k;exact ⟨v, us, rfl, h.1 _ _ _ k1, ImpL.conc h.2 k2⟩
 | [], _ :: _, _, h, _ => h.elim
 | _ :: _, [], _, h, _ => h.elim
theorem FunOk.imp {P : Program} {f : Nat} {args args' : List SV} {h d x u} (hf : FunOk P f args' h d x u) (hi : ImpL args args') (ht : ∀ n ∈ A6 args', n ∈ A6 args) : FunOk P f args h d x u :=
 ⟨hf.1, fun F N ρ s a w hR hh vs hc => hf.2 F N ρ s a w hR (fun n hn => hh n (ht n hn)) vs (hi.conc hc)⟩
abbrev Acp : Sh := .st [.int .i64, .int .u32]
theorem Ae4 {cs : List PV} (h : GC Acp cs) : ∃ b : Bq, cs = Eb b ∧ (-9223372036854775808 ≤ b.1 ∧ b.1 < 9223372036854775808) ∧ b.2 < 4294967296 := by
 simp only [GC, GCL] at h;obtain ⟨c, cs', rfl, ⟨n, rfl, hw⟩, c', cs'', rfl, ⟨m, rfl, hw'⟩, rfl⟩ := h;have hr := Ans hw';exact ⟨(n, m.toNat), by simp [Eb]; omega, Arn hw, by show m.toNat < _; omega⟩
theorem Abp {α : Type} {f : α → List PV} {p : α → Prop} {s : Sh} (key : ∀ {cs}, GC s cs → ∃ x, cs = f x ∧ p x) : ∀ {es : List (List PV)}, (∀ c ∈ es, GC s c) → ∃ l : List α, es = l.map f ∧ ∀ x ∈ l, p x
 | [], _ => ⟨[], rfl, by simp⟩
 | c :: es, h => by
   obtain ⟨l, e, hp⟩ := Abp (es := es) key fun c hc => h c (List.mem_cons_of_mem _ hc);obtain ⟨x, e2, hx⟩ := key (h c List.mem_cons_self);exact ⟨x :: l, by rw [e, e2]; rfl, fun y hy => by
    rcases List.mem_cons.1 hy with hy | hy
    · rw [hy]; exact hx
    · exact hp y hy⟩
structure Ent where
 id : Bq
 dir : Bq
 name : List UInt8
 obj : Bq
 gone : Vc
def Asg (x : Ent) : List PV := [.i .i64 x.id.1, .i .u32 x.id.2, .i .i64 x.dir.1, .i .u32 x.dir.2, .s x.name, .i .i64 x.obj.1, .i .u32 x.obj.2]
def Bm (x : Ent) : List PV := Asg x ++ vE x.gone
theorem Ahv (a : Vc) : (vE a).all PV.flat = true := by simp [vE, Cu, PV.flat]
theorem Dr (x : Ent) : (Bm x).length = 15 := by simp [Bm, Asg, Bi]
theorem Agx (x : Ent) : (Bm x).all PV.flat = true := by
 unfold Bm Asg; rw [List.all_append, Ahv]; rfl
theorem Jh (l : List Ent) : ∀ c ∈ l.map Bm, c.all PV.flat = true := by
 intro c hc;obtain ⟨v, _, rfl⟩ := List.mem_map.1 hc;exact Agx v
theorem Ff (x : Ent) (K : KK) : LoadK (some (Bm x)) 0 15 true K = K (.vec 15 (Bm x)) [] := by
 have e : ((Bm x).drop 0).take 15 = Bm x := List.take_of_length_le (by rw [List.drop_zero, Dr]; omega);simp only [LoadK, Hr, eq_iff_iff, e, Dr];exact ⟨fun h => h.2.2, fun h => ⟨by omega, .inl trivial, h⟩⟩
theorem Dm (x : Ent) (K : KK) : LoadK (some (Bm x)) 0 2 true K = K (.vec 2 [.i .i64 x.id.1, .i .u32 x.id.2]) [] := by
 simp only [LoadK, Hr, eq_iff_iff, Dr];exact ⟨fun h => h.2.2, fun h => ⟨by omega, .inl trivial, h⟩⟩
theorem C7 (x : Ent) (K : KK) : LoadK (some (Bm x)) 5 2 true K = K (.vec 2 [.i .i64 x.obj.1, .i .u32 x.obj.2]) [] := by
 simp only [LoadK, Hr, eq_iff_iff, Dr];exact ⟨fun h => h.2.2, fun h => ⟨by omega, .inl trivial, h⟩⟩
theorem Ii (x : Ent) (K : KK) : LoadK (some (Bm x)) 7 8 true K = K (.vec 8 (vE x.gone)) [] := by
 have e : ((Bm x).drop 7).take 8 = vE x.gone := by
  unfold Bm;rw [List.drop_left' (by rfl)];exact List.take_of_length_le (by rw [Bi]; omega)
 simp only [LoadK, Hr, eq_iff_iff, Dr, e];exact ⟨fun h => h.2.2, fun h => ⟨by omega, .inl trivial, h⟩⟩
theorem G3 (x : Ent) (v : Vc) : splice (Bm x) 7 (vE v) = Bm { x with gone := v } := by
 unfold splice Bm;rw [List.take_left' (by rfl), Bi];have : (Asg x ++ vE x.gone).drop (7 + 8) = [] := List.drop_of_length_le (by simp [Asg, Bi]);rw [this, List.append_nil]; rfl
theorem Jp {P : Program} {F : Fr} {N : Nat} {ρ : Nat → Value} {s : FS} {a : Act} {w : World} {tS tR e : TypeId} {sz m n lo hi : Nat} {es fs : List (List PV)} (ht : P.underlying tS = some (.slice e)) (hz : Aj P e = some sz) (h1 : sz ≠ 1)
 (hR : RelR F N ρ s a w) (hm : s.h m = some (.row sz fs)) (hn : s.h n = some (.row sz es)) (hne : m ≠ n) (hfs : fs ≠ []) (hes : es ≠ []) (hlt : lo < hi) {v u : Value}
 (hv : Conc (vw F w ρ s) ρ (.os m) v) (hu : Conc (vw F w ρ s) ρ (.ov n sz lo hi) u) :
 (Extern.SlicesOverlaps.overlaps #[tS, tS] #[tR] #[v, u]).run P w = .ok (.bool false) w := by
 obtain ⟨bm, lm, cm, vm, tym, frm, a1, a2, a3, a4, a5, a6, a7, a8, a9, rfl, a11⟩ := Hy (hR.own m _ hm) (List.length_pos_iff.2 hfs);obtain ⟨bn, ln, cn, vn, tyn, frn, b1, b2, b3, b4, b5, b6, b7, b8, b9, rfl, b11⟩ := Hy (hR.own n _ hn) (List.length_pos_iff.2 hes);simp only [Conc] at hv hu;obtain ⟨base, len, cap, base', c1, c2, c3, rfl, c4⟩ := hu;rw [hv.1, a1];rw [b1] at c1; cases c1;have := c4 (.inl hlt);simp only [Option.map_some, Df, Nat.zero_add] at this;subst this;have hbb : bm ≠ bn := fun e => hne (hR.inj m n _ _ bm hm hn (by rw [a1]; simp [Cq, a7]) (by rw [b1]; simp [Cq, b7, e]));have hfr : frm.1 = frm.2 := by rcases a3 with h | h; exact h; exact absurd h.1 h1
 have fz : ∀ o, w.frozen? ⟨bm, o, none⟩ = false := fun o => by
  unfold World.frozen?;simp only [a2];obtain ⟨x, y⟩ := frm;simp only at hfr;simp; omega
 exact Lib.run_overlaps_apart w tS tR e ht sz (fun w => Ck hz w) ⟨bm, 0, none⟩ ⟨bn, lo * sz, none⟩ _ _ _ _ hbb tym tyn vm.length vn.length (by unfold World.shape?; rw [a2]; rfl) (by unfold World.shape?; rw [b2]; rfl)
  (by rw [b5]; exact Nat.mul_ne_zero b7 (by omega)) (fz _) (fz _)
theorem A1h {m n lo hi : Nat} {es fs : List (List PV)} {h} (hm : h m = some (.row 15 fs)) (hn : h n = some (.row 15 es)) (hne : m ≠ n) (hfs : fs ≠ []) (hes : es ≠ []) (hlt : lo < hi) : Zs Tryz.prog 170 [.os m, .ov n 15 lo hi] h (.pv (.b false)) := by
 intro F N ρ s a w hR hh vs hc;simp only [ConcL] at hc;obtain ⟨v, us, rfl, hv, u, us', rfl, hu, rfl⟩ := hc;have hsm := (hh m (by simp [A6, tn])).trans hm;have hsn := (hh n (by simp [A6, tn])).trans hn;refine ⟨.bool false, ?_, E5⟩;rw [run_callFunc_extern (fn := (Tryz.prog.funcs[170]?).getD default) (by kernel_rfl) (by kernel_rfl) (by kernel_rfl) (by kernel_rfl) (e := Extern.SlicesOverlaps.overlaps #[44, 44] #[4]) (by kernel_rfl)];rw [Jp (tS := 44) (e := 152) (by kernel_rfl) (by kernel_rfl) (by decide) hR hsm hsn hne hfs hes hlt hv hu];rfl
set_option maxHeartbeats 4000000 in
theorem Wf (es : List (List PV)) (cs : List PV) (i : Nat) (hi : i ≤ es.length) (hb : es.length ≤ 1000) (hes : ∀ c ∈ es, c.length = 15) (hcs : cs.length = 15) {h d} (h1 : h 900 = some (.row 15 es)) (h2 : h 901 = some (.row 15 [cs])) : FunOk Tryz.prog 156 [.os 900, .pv (.i .i64 i), .os 901] h d (.os d) [.del 900, .del 901, .new d (.row 15 (es.take i ++ cs :: es.drop i))] := by
 refine Abh Ag fn156 (by simp) rfl fun F => ?_;simp only [C1];by_cases he : i = es.length
 · subst he;have e1 : es.take es.length ++ cs :: es.drop es.length = es ++ [cs] := by simp
   rw [e1];simp (disch := omega) only [ir156, h1, h2, go_sem]
 · have hne : es ≠ [] := by intro e; subst e; simp at hi; exact he (by simpa using hi)
   simp (disch := omega) only [ir156, h1, h2, go_sem];intro c hc;by_cases hcap : c < es.length + 1
   · have hp : ((c : Int) < (es.length : Int) + ((1 : Nat) : Int)) = True := eq_true (by omega);have ek : ((es.length : Int) + ((1 : Nat) : Int) - (i : Int)).toNat = es.length + 1 - i := by omega
     (try simp only [Ca, B9, B0, Bz, Bx, Bw, Bv, Bu]); simp (disch := omega) only [hp, ek, go_sem]
     generalize hT : List.take i es ++ List.replicate (es.length + 1 - i) _ = T;have hTl : T.length = es.length + 1 := by rw [← hT]; simp; omega
     have t1 : T.take i = es.take i := by
      rw [← hT, List.take_append_of_le_length (by simp; omega), List.take_take, Nat.min_self]
     have hi' : (es.take i).length = i := by simp; omega
     have m1 : min 1 (es.length + 1 - i) = 1 := by omega
     have m2 : [cs].take (es.length + 1 - i) = [cs] := List.take_of_length_le (by simp; omega);have hU : (es.take i ++ [cs] ++ T.drop (i + 1)).length = es.length + 1 := by simp [hTl]; omega
     have e1 : ((i : Int) + ((1 : Nat) : Int)).toNat = i + 1 := by omega
     have u1 : (es.take i ++ [cs] ++ T.drop (i + 1)).take (i + 1) = es.take i ++ [cs] := by
      rw [List.take_append_of_le_length (by simp; omega)];exact List.take_of_length_le (by simp; omega)
     have u2 : (es.take es.length).drop i = es.drop i := by rw [List.take_length]
     have u3 : min (es.drop i).length (es.length + 1 - (i + 1)) = es.length - i := by simp
     have u4 : (es.drop i).take (es.length + 1 - (i + 1)) = es.drop i := List.take_of_length_le (by simp);have u5 : (es.take i ++ [cs] ++ T.drop (i + 1)).drop (i + 1 + (es.length - i)) = [] := List.drop_of_length_le (by rw [hU]; omega);have u6 : es.take i ++ cs :: es.drop i = es.take i ++ [cs] ++ es.drop i := by simp
     simp only [hTl, t1, m1, m2, e1, List.length_singleton];simp only [hU, u1, u2, u3, u4, u5, u6, List.append_nil];exact ⟨by omega, by omega, trivial⟩
   · have hp : ((c : Int) < (es.length : Int) + ((1 : Nat) : Int)) = False := eq_false (by omega)
     (try simp only [Ca, B9, B0, Bz, Bx, Bw, Bv, Bu]); simp (disch := omega) only [hp, go_sem]
     intro g hg hgs;have hg1 : g.length = 1 := by omega
     have e1 : ((i : Int) + ((1 : Nat) : Int)).toNat = i + 1 := by omega
     have hE : (es ++ g).length = es.length + 1 := by simp [hg1]
     refine ⟨by omega, ?_⟩;rw [e1];refine Rb (A1h (es := es ++ g) (fs := [cs]) rfl rfl (by decide) (by simp) (by simp [hne]) (by omega)) ?_;have v1 : ((es ++ g).take (es ++ g).length).drop i = (es ++ g).drop i := by rw [List.take_length]
     have v2 : min ((es ++ g).drop i).length ((es ++ g).length - (i + 1)) = es.length - i := by simp [hg1]; omega
     have v3 : ((es ++ g).drop i).take ((es ++ g).length - (i + 1)) = es.drop i := by
      rw [hE, List.drop_append_of_le_length hi, show es.length + 1 - (i + 1) = (es.drop i).length from by simp];exact List.take_left
     have v4 : (es ++ g).drop (i + 1 + (es.length - i)) = [] := List.drop_of_length_le (by omega);have v5 : ((es ++ g).take (i + 1) ++ es.drop i).length = es.length + 1 := by simp [hg1]; omega
     have v6 : ((es ++ g).take (i + 1) ++ es.drop i).take i = es.take i := by
      rw [List.take_append_of_le_length (by simp; omega), List.take_take, Nat.min_eq_left (by omega), List.take_append_of_le_length hi]
     have v7 : ((es ++ g).take (i + 1) ++ es.drop i).drop (i + 1) = es.drop i := by
      rw [List.drop_append_of_le_length (by simp; omega), List.drop_of_length_le (by simp; omega), List.nil_append]
     have m1 : min 1 (es.length + 1 - i) = 1 := by omega
     have m2 : [cs].take (es.length + 1 - i) = [cs] := List.take_of_length_le (by simp; omega);have u6 : es.take i ++ cs :: es.drop i = es.take i ++ [cs] ++ es.drop i := by simp
     simp (disch := omega) only [e1, v1, v2, v3, v4, v5, v6, v7, m1, m2, u6, go_sem]
theorem A1m {m n : Nat} (es : List (List PV)) (cs : List PV) (i : Nat) (hi : i ≤ es.length) (hb : es.length ≤ 1000) (hes : ∀ c ∈ es, c.length = 15) (hcs : cs.length = 15) (hmn : m ≠ n) (hm : m < 900) (hn : n < 900) {h d} (hd : d ≠ m ∧ d ≠ n ∧ d < 900) (h1 : h m = some (.row 15 es)) (h2 : h n = some (.row 15 [cs])) : FunOk Tryz.prog 156 [.os m, .pv (.i .i64 i), .os n] h d (.os d) [.del m, .del n, .new d (.row 15 (es.take i ++ cs :: es.drop i))] := by
 have hπ := Ahy (a := 900) (m := m) (b := 901) (n := n) (by omega) (by omega) (by omega) hmn;have e1 : Z1 900 m 901 n 900 = m := by unfold Z1; simp
 have e2 : Z1 900 m 901 n 901 = n := by unfold Z1; repeat' split <;> (try omega)
 have e3 : Z1 900 m 901 n d = d := by unfold Z1; repeat' split <;> (try omega)
 have := (Wf es cs i hi hb hes hcs (h := fun k => (h (Z1 900 m 901 n k))) (d := d) (by rw [← h1, e1]) (by rw [← h2, e2])).rn (π := Z1 900 m 901 n) hπ (d' := d);simp only [SV.rnL, SV.rn, HU.rn, Blk.rn, List.map_cons, List.map_nil, e1, e2, e3] at this;refine this.at fun k hk => ?_;simp only [A6, tn, List.append_nil, List.nil_append, List.mem_append, List.mem_singleton] at hk;simp only [hπ];rcases hk with rfl | rfl
 · rw [h1]; rfl
 · rw [h2]; rfl
theorem Wg {x : SV} {f : Bool} {z : Nat} {es : List (List PV)} {h d} (hx : Cn h [x] = [.pv (.sl f z es)]) (hl : Be [x] = true) (hz : es = [] ∨ z = 15) (hb : es.length ≤ 1000) (hs : ∀ c ∈ es, c.all PV.flat = true) :
 FunOk Tryz.prog 94 [x] h d (.os d) [.new d (.row 15 es)] := by
 refine Ad9 Ag fn94 (by simp) hl (.inr hs) fun F => ?_;rw [hx];simp (disch := omega) only [ir94, go_sem];intro b hb';cases b
 · simp (disch := omega) only [go_sem]
 · have he : es = [] := by
    cases es with
    | nil => rfl
    | cons c l => exact absurd (hb' (by simp)) (by simp)
   subst he
   (try simp only [Ca, B9, B0, Bz, Bx, Bw, Bv, Bu]); simp (disch := omega) only [go_sem]
   decide
abbrev H8 (a b : Bq) : Bool := Cm a.1 a.2 b.1 b.2
theorem Uv {a b : Bq} : H8 a b = true ↔ a.2 < b.2 ∨ a.2 = b.2 ∧ a.1 < b.1 := by simp [H8, Cm]
theorem G6 {a b c : Bq} (h : H8 a b = true) (k : H8 b c = true) : H8 a c = true := by rw [Uv] at *; omega
theorem Gb {a : Bq} : ¬ H8 a a = true := by rw [Uv]; omega
theorem M6 {a b : Bq} (h : H8 a b = true) : ¬ H8 b a = true := by rw [Uv] at *; omega
theorem J9 {a b : Bq} (h : ¬ H8 a b = true) (k : a ≠ b) : H8 b a = true := by
 rw [Uv] at *;by_cases e : a.2 = b.2
 · have : a.1 ≠ b.1 := fun e1 => k (Prod.ext e1 e);omega
 · omega
def Ds (l : List Ent) : Prop := l.Pairwise fun a b => H8 a.id b.id = true
def Hq : List Ent → Bq → Option Ent
 | [], _ => none
 | x :: l, i => if x.id = i then some x else Hq l i
theorem Ak1 {l : List Ent} {i : Bq} {x : Ent} (h : Hq l i = some x) : x ∈ l ∧ x.id = i := by
 induction l with
 | nil => simp [Hq] at h
 | cons y l ih =>
   simp only [Hq] at h;split at h
   · cases h; exact ⟨List.mem_cons_self, by assumption⟩
   · exact ⟨List.mem_cons_of_mem _ (ih h).1, (ih h).2⟩
theorem F9 {l : List Ent} {i : Bq} : Hq l i = none ↔ ∀ x ∈ l, x.id ≠ i := by
 induction l with
 | nil => simp [Hq]
 | cons y l ih =>
   simp only [Hq];by_cases h : y.id = i
   · rw [if_pos h];exact ⟨fun e => (nomatch e), fun e => absurd h (e y List.mem_cons_self)⟩
   · rw [if_neg h, ih];simp only [List.mem_cons, forall_eq_or_imp];exact ⟨fun e => ⟨h, e⟩, fun e => e.2⟩
theorem Ado {l : List Ent} (hs : Ds l) {x : Ent} (h : x ∈ l) : Hq l x.id = some x := by
 induction l with
 | nil => cases h
 | cons y l ih =>
   obtain ⟨h1, h2⟩ := List.pairwise_cons.1 hs;simp only [Hq];rcases List.mem_cons.1 h with rfl | h
   · rw [if_pos rfl]
   · rw [if_neg fun e => Gb (by have := h1 x h; rwa [e] at this)];exact ih h2 h
def F7 (l : List Ent) (i : Bq) : Nat := l.findIdx fun x => !H8 x.id i
theorem Aal (l : List Ent) (i : Bq) : F7 l i ≤ l.length := List.findIdx_le_length
theorem R8 (x : Ent) (l : List Ent) (i : Bq) : F7 (x :: l) i = if H8 x.id i = true then F7 l i + 1 else 0 := by
 unfold F7;rw [List.findIdx_cons];cases H8 x.id i <;> simp
theorem Ao4 {l : List Ent} {i : Bq} {k : Nat} (hk : k < F7 l i) : ∃ x, l[k]? = some x ∧ H8 x.id i = true := by
 have hl : k < l.length := Nat.lt_of_lt_of_le hk (Aal l i);refine ⟨l[k], by simp [hl], ?_⟩;have := List.not_of_lt_findIdx hk;simpa using this
theorem A07 {l : List Ent} (hs : Ds l) {i : Bq} {k : Nat} (hk : F7 l i ≤ k) {x : Ent} (hx : l[k]? = some x) : ¬ H8 x.id i = true := by
 obtain ⟨hl, rfl⟩ := List.getElem?_eq_some_iff.1 hx;have hp : F7 l i < l.length := by omega
 have h0 : ¬ H8 l[F7 l i].id i = true := by
  have : (!H8 (l[F7 l i]'hp).id i) = true := List.findIdx_getElem (p := fun x : Ent => !H8 x.id i) (w := hp);simpa using this
 by_cases e : F7 l i = k
 · subst e; exact h0
 · have := List.pairwise_iff_getElem.1 hs (F7 l i) k hp hl (by omega);exact fun h => h0 (G6 this h)
theorem Aic {l : List Ent} {i : Bq} {k : Nat} (hk : k ≤ l.length) (h1 : ∀ j x, j < k → l[j]? = some x → H8 x.id i = true) (h2 : ∀ x, l[k]? = some x → ¬ H8 x.id i = true) : F7 l i = k := by
 rcases Nat.lt_trichotomy (F7 l i) k with h | h | h
 · have hl : F7 l i < l.length := by omega
   have h0 : (!H8 (l[F7 l i]'hl).id i) = true := List.findIdx_getElem (p := fun x : Ent => !H8 x.id i) (w := hl);have := h1 _ _ h (List.getElem?_eq_getElem hl);rw [this] at h0; simp at h0
 · exact h
 · obtain ⟨x, e1, e2⟩ := Ao4 h;exact absurd e2 (h2 x e1)
def Qs (l : List Ent) (i : Bq) : Bool := (Hq l i).isSome
theorem Ql {l : List Ent} (hs : Ds l) (i : Bq) : Hq l i = match l[F7 l i]? with | some x => if x.id = i then some x else none | none => none := by
 induction l with
 | nil => simp [Hq]
 | cons y l ih =>
   obtain ⟨h1, h2⟩ := List.pairwise_cons.1 hs;rw [R8];simp only [Hq];by_cases e : y.id = i
   · have : ¬ H8 y.id i = true := by rw [e]; exact Gb
     rw [if_neg this, if_pos e];simp [e]
   · rw [if_neg e];by_cases hl : H8 y.id i = true
     · rw [if_pos hl, List.getElem?_cons_succ]; exact ih h2
     · rw [if_neg hl, List.getElem?_cons_zero];simp only [e, if_false];exact F9.2 fun z hz ez => Gb (by have := G6 (J9 hl e) (h1 z hz); rwa [ez] at this)
theorem Vv {l : List Ent} (hs : Ds l) {j m : Nat} {x v : Ent} (hj : l[j]? = some x) (hm : l[m]? = some v) (h : j < m) : H8 x.id v.id = true := by
 obtain ⟨h1, rfl⟩ := List.getElem?_eq_some_iff.1 hj;obtain ⟨h2, rfl⟩ := List.getElem?_eq_some_iff.1 hm;exact List.pairwise_iff_getElem.1 hs j m h1 h2 h
def Og (l : List Ent) (x : Ent) : List Ent := l.take (F7 l x.id) ++ x :: l.drop (F7 l x.id)
theorem Ss (y : Ent) (l : List Ent) (x : Ent) : Og (y :: l) x = if H8 y.id x.id = true then y :: Og l x else x :: y :: l := by
 unfold Og;rw [R8];split <;> simp
theorem Aa0 {l : List Ent} {x z : Ent} : z ∈ Og l x ↔ z = x ∨ z ∈ l := by
 unfold Og;have := List.take_append_drop (F7 l x.id) l;constructor
 · intro h;rcases List.mem_append.1 h with h | h
   · exact .inr (List.mem_of_mem_take h)
   · rcases List.mem_cons.1 h with h | h
     · exact .inl h
     · exact .inr (List.mem_of_mem_drop h)
 · intro h;rcases h with rfl | h
   · simp
   · rw [← this] at h;rcases List.mem_append.1 h with h | h
     · exact List.mem_append_left _ h
     · exact List.mem_append_right _ (List.mem_cons_of_mem _ h)
theorem Vu {l : List Ent} (hs : Ds l) {x : Ent} (hn : Hq l x.id = none) : Ds (Og l x) := by
 induction l with
 | nil => simp [Og, F7, Ds]
 | cons y l ih =>
   obtain ⟨h1, h2⟩ := List.pairwise_cons.1 hs;have hy : y.id ≠ x.id := F9.1 hn y List.mem_cons_self;have hn' : Hq l x.id = none := F9.2 fun z hz => F9.1 hn z (List.mem_cons_of_mem _ hz);rw [Ss];split
   · rename_i hl;refine List.Pairwise.cons (fun z hz => ?_) (ih h2 hn');rcases Aa0.1 hz with rfl | hz
     · exact hl
     · exact h1 z hz
   · rename_i hl;have hxy : H8 x.id y.id = true := J9 hl hy;refine List.Pairwise.cons (fun z hz => ?_) hs;rcases List.mem_cons.1 hz with rfl | hz
     · exact hxy
     · exact G6 hxy (h1 z hz)
theorem Aoa {l : List Ent} {f : Ent → Ent} (hf : ∀ x, (f x).id = x.id) (hs : Ds l) : Ds (l.map f) := by
 unfold Ds;rw [List.pairwise_map];exact hs.imp fun h => by simpa only [hf] using h
def T4 (l : List Ent) (i : Bq) (f : Ent → Ent) : List Ent := l.map fun x => if x.id = i then f x else x
theorem Awb {i : Bq} {f : Ent → Ent} (hf : ∀ x, (f x).id = x.id) (x : Ent) : (if x.id = i then f x else x).id = x.id := by split <;> simp [hf]
theorem An9 {l : List Ent} {f : Ent → Ent} (hf : ∀ x, (f x).id = x.id) (hs : Ds l) (i : Bq) : Ds (T4 l i f) := Aoa (Awb hf) hs
theorem Avd {l : List Ent} (hs : Ds l) {i : Bq} {f : Ent → Ent} {x : Ent} (h : Hq l i = some x) : l.set (F7 l i) (f x) = T4 l i f := by
 induction l with
 | nil => simp [Hq] at h
 | cons y l ih =>
   obtain ⟨h1, h2⟩ := List.pairwise_cons.1 hs;rw [R8];simp only [Hq] at h;by_cases e : y.id = i
   · rw [if_pos e] at h;cases h;rw [if_neg (by rw [e]; exact Gb)];simp only [List.set_cons_zero, T4, List.map_cons, if_pos e];congr 1;have e1 : ∀ z ∈ l, (if z.id = i then f z else z) = id z := fun z hz => by
      rw [if_neg fun ez => Gb (by have := h1 z hz; rwa [e, ez] at this)]; rfl
     rw [List.map_congr_left e1, List.map_id]
   · rw [if_neg e] at h;have hx := Ak1 h;have : H8 y.id i = true := by rw [← hx.2]; exact h1 x hx.1
     rw [if_pos this, List.set_cons_succ, ih h2 h];simp [T4, e]
def Rf (l : List Ent) (x : Ent) : List Ent := if Qs l x.id = true then l else Og l x
def I2 (a b : Bq) : Int := if H8 a b = true then -1 else if H8 b a = true then 1 else 0
theorem A1o (a b : Bq) {h d} : FunOk Tryz.prog 169 [.vec 2 [.i .i64 a.1, .i .u32 a.2], .vec 2 [.i .i64 b.1, .i .u32 b.2]] h d (.pv (.i .i64 (I2 a b))) [] := by
 refine Ap Ag fn169 (by simp) rfl rfl fun F => ?_;simp (disch := omega) only [ir169, go_sem];refine Aa (Mw _ _ _ _) ?_;by_cases h1 : Cm a.1 a.2 b.1 b.2 = true
 · have e : I2 a b = -1 := if_pos h1;simp (disch := omega) only [h1, e, go_sem]
 · have h1' : Cm a.1 a.2 b.1 b.2 = false := by simpa using h1
   simp (disch := omega) only [h1', go_sem];refine Aa (Mw _ _ _ _) ?_;by_cases h2 : Cm b.1 b.2 a.1 a.2 = true
   · have e : I2 a b = 1 := by unfold I2; rw [if_neg h1, if_pos h2]
     simp (disch := omega) only [h2, e, go_sem]
   · have h2' : Cm b.1 b.2 a.1 a.2 = false := by simpa using h2
     have e : I2 a b = 0 := by unfold I2; rw [if_neg h1, if_neg h2]
     simp (disch := omega) only [h2', e, go_sem]
theorem Ay9 (x : Ent) (b : Bq) {h d} : FunOk Tryz.prog 168 [.vec 15 (Bm x), .vec 2 [.i .i64 b.1, .i .u32 b.2]] h d (.pv (.i .i64 (I2 x.id b))) [] := by
 refine Ap Ag fn168 (by simp) rfl rfl fun F => ?_;simp (disch := omega) only [ir168, Dm, go_sem];refine Aa (A1o _ _) ?_;simp (disch := omega) only [go_sem]
theorem U2 {a b : Bq} : (I2 a b < 0) = (H8 a b = true) := by
 unfold I2;by_cases h : H8 a b = true
 · rw [if_pos h]; simp [h]
 · rw [if_neg h]; split <;> simp [h]
theorem U3 {a b : Bq} : (I2 a b = 0) = (a = b) := by
 unfold I2;by_cases h : H8 a b = true
 · rw [if_pos h];refine propext ⟨fun e => by omega, fun e => ?_⟩;subst e; exact absurd h Gb
 · rw [if_neg h];by_cases k : H8 b a = true
   · rw [if_pos k];refine propext ⟨fun e => by omega, fun e => ?_⟩;subst e; exact absurd k Gb
   · rw [if_neg k];refine propext ⟨fun _ => ?_, fun _ => rfl⟩;exact Classical.byContradiction fun e => k (J9 h e)
def Ah6 (f : Bool) (l : List Ent) (i : Bq) (p : Nat × Nat) : FS := mk [(9, .pv (.i .i64 p.1)), (10, .pv (.i .i64 p.2)), (8, .pv (.i .i64 l.length)), (0, .pv (.sl f 15 (l.map Bm))), (2, .fn (.func 168) []), (4, .p 4 0)] [(4, some (.var (.vec 2 [.i .i64 i.1, .i .u32 i.2])))]
set_option maxHeartbeats 1000000 in
theorem A50 {x : SV} {f : Bool} {l : List Ent} (i : Bq) {h d} (hx : Cn h [x, .vec 2 [.i .i64 i.1, .i .u32 i.2], .fn (.func 168) []] = [.pv (.sl f 15 (l.map Bm)), .vec 2 [.i .i64 i.1, .i .u32 i.2], .fn (.func 168) []]) (hl : Be [x, .vec 2 [.i .i64 i.1, .i .u32 i.2], .fn (.func 168) []] = true) (hs : Ds l) (hn : l.length ≤ 1000) :
 FunOk Tryz.prog 167 [x, .vec 2 [.i .i64 i.1, .i .u32 i.2], .fn (.func 168) []] h d (.tup [.pv (.i .i64 (F7 l i)), .pv (.b (Qs l i))]) [] := by
 refine Ci Ag fn167 (by simp) hl rfl fun F => ?_;rw [hx];simp (disch := omega) only [ir167, List.length_map, go_sem];refine A1 Ag (Ah6 f l i) (fun p => p.1 ≤ p.2 ∧ p.2 ≤ l.length ∧ (∀ j x, j < p.1 → l[j]? = some x → H8 x.id i = true) ∧ ∀ j x, p.2 ≤ j → l[j]? = some x → ¬ H8 x.id i = true) (fun p => p.2 - p.1) (0, l.length) ⟨by simp, by simp, by simp, fun j x hj hx => by simp only at hj; rw [List.getElem?_eq_none hj] at hx; cases hx⟩ (Ak ?_ ?_) fun p hp => ?_
 · (try simp only [Ca, B9, B0, Bz, Bx, Bw, Bv, Bu]); simp (disch := omega) only [go_sem]
 · simp (disch := omega) only [go_sem]
 obtain ⟨a, b⟩ := p;obtain ⟨p1, p2, p3, p4⟩ := hp;simp only at p1 p2 p3 p4;by_cases hlt : a < b
 · have hm : (a + b) / 2 < l.length := by omega
   have hx : l[(a + b) / 2]? = some l[(a + b) / 2] := List.getElem?_eq_getElem hm;have he : (l.map Bm)[(a + b) / 2]? = some (Bm l[(a + b) / 2]) := by rw [List.getElem?_map, hx]; rfl
   have e1 : ((a : Int) + (b : Int)).fdiv (2 ^ min (Int.toNat 1) 64) = (((a + b) / 2 : Nat) : Int) := by
    rw [show (2 : Int) ^ min (Int.toNat 1) 64 = 2 from rfl, Int.fdiv_eq_ediv_of_nonneg _ (by omega)]; omega
   have hm1 : a ≤ (a + b) / 2 := by omega
   have hm2 : (a + b) / 2 < b := by omega
   generalize l[(a + b) / 2] = v at *;generalize (a + b) / 2 = m at *;simp (disch := omega) only [Ah6, List.length_map, e1, he, Ff, go_sem];refine Aa (Ay9 v i) ?_;by_cases hc : H8 v.id i = true
   · have e2 : (I2 v.id i < 0) = True := by rw [U2]; exact eq_true hc
     simp (disch := omega) only [e2, go_sem];refine Ad (x := (a, b)) (m + 1, b) _ _ rfl ⟨by show m + 1 ≤ b; omega, p2, fun j x hj hx' => ?_, p4⟩ (by show b - (m + 1) < b - a; omega) ?_ ?_
     · by_cases e : j = m
       · subst e; rw [hx] at hx'; cases hx'; exact hc
       · exact G6 (Vv hs hx' hx (by simp only at hj; omega)) hc
     · (try simp only [Ca, B9, B0, Bz, Bx, Bw, Bv, Bu]); simp (disch := omega) only [go_sem]
     · simp (disch := omega) only [go_sem]
   · have e2 : (I2 v.id i < 0) = False := by rw [U2]; exact eq_false hc
     simp (disch := omega) only [e2, go_sem];refine Ad (x := (a, b)) (a, m) _ _ rfl ⟨by show a ≤ m; omega, by show m ≤ _; omega, p3, fun j x hj hx' => ?_⟩ (by show m - a < b - a; omega) ?_ ?_
     · by_cases e : j = m
       · subst e; rw [hx] at hx'; cases hx'; exact hc
       · exact fun q => hc (G6 (Vv hs hx hx' (by simp only at hj; omega)) q)
     · (try simp only [Ca, B9, B0, Bz, Bx, Bw, Bv, Bu]); simp (disch := omega) only [go_sem]
     · simp (disch := omega) only [go_sem]
 · obtain rfl : a = b := by omega
   have hpos : F7 l i = a := Aic p2 p3 fun x hx' => p4 a x (Nat.le_refl a) hx';by_cases hal : a < l.length
   · have hx' : l[a]? = some l[a] := List.getElem?_eq_getElem hal;have he : (l.map Bm)[a]? = some (Bm l[a]) := by rw [List.getElem?_map, hx']; rfl
     have hk := Ql hs i;rw [hpos, hx'] at hk;generalize l[a] = v at *;simp (disch := omega) only [Ah6, hal, he, Ff, List.length_map, go_sem];refine Aa (Ay9 v i) ?_;by_cases hv : v.id = i
     · have e2 : (I2 v.id i = 0) = True := by rw [U3]; exact eq_true hv
       have e3 : Qs l i = true := by unfold Qs; rw [hk]; simp [hv]
       simp (disch := omega) only [e2, e3, hpos, go_sem]
     · have e2 : (I2 v.id i = 0) = False := by rw [U3]; exact eq_false hv
       have e3 : Qs l i = false := by unfold Qs; rw [hk]; simp [hv]
       simp (disch := omega) only [e2, e3, hpos, go_sem]
   · have hk := Ql hs i;rw [hpos, List.getElem?_eq_none (by omega)] at hk;have e3 : Qs l i = false := by unfold Qs; rw [hk]; rfl
     simp (disch := omega) only [Ah6, hal, hpos, e3, go_sem]
theorem Aza {x : SV} {f : Bool} {l : List Ent} (i : Bq) {h d} (hx : Cn h [x, .vec 2 [.i .i64 i.1, .i .u32 i.2]] = [.pv (.sl f 15 (l.map Bm)), .vec 2 [.i .i64 i.1, .i .u32 i.2]]) (hl : Be [x, .vec 2 [.i .i64 i.1, .i .u32 i.2]] = true) (hs : Ds l) (hn : l.length ≤ 1000) :
 FunOk Tryz.prog 155 [x, .vec 2 [.i .i64 i.1, .i .u32 i.2]] h d (.tup [.pv (.i .i64 (F7 l i)), .pv (.b (Qs l i))]) [] := by
 refine Ci Ag fn155 (by simp) hl rfl fun F => ?_;rw [hx];simp (disch := omega) only [ir155, go_sem];refine Aa (A50 (l := l) i rfl rfl hs hn) ?_;simp (disch := omega) only [go_sem]
theorem A1w {a : SV} {f : Bool} {l : List Ent} (x : Ent) {h d} (hx : Cn h [a, .vec 15 (Bm x)] = [.pv (.sl f 15 (l.map Bm)), .vec 15 (Bm x)]) (hl : Be [a, .vec 15 (Bm x)] = true) (hs : Ds l) (hn : l.length ≤ 1000) :
 FunOk Tryz.prog 138 [a, .vec 15 (Bm x)] h d (.os d) [.new d (.row 15 ((Rf l x).map Bm))] := by
 refine Abg Ag fn138 (by simp) hl (.inr (Jh _)) fun F => ?_;rw [hx];simp (disch := omega) only [ir138, Dm, go_sem];refine Aa (Aza (l := l) x.id rfl rfl hs hn) ?_;have hfl := Jh l;by_cases hi : Qs l x.id = true
 · have e : Rf l x = l := by unfold Rf; rw [if_pos hi]
   simp (disch := omega) only [hi, e, go_sem];refine Aa (Wg (es := l.map Bm) rfl rfl (.inr rfl) (by simp; omega) hfl) ?_;simp (disch := omega) only [go_sem]
 · have hi' : Qs l x.id = false := by simpa using hi
   have e : Rf l x = Og l x := by unfold Rf; rw [if_neg hi]
   have hc := Dr x;simp (disch := omega) only [hi', e, go_sem];refine Aa (Wg (es := l.map Bm) rfl rfl (.inr rfl) (by simp; omega) hfl) ?_;simp (disch := omega) only [hc, Ff, go_sem];have hp := Aal l x.id;refine Aa (A1m (l.map Bm) (Bm x) (F7 l x.id) (by simp; omega) (by simp; omega) (fun c hc => by obtain ⟨y, _, rfl⟩ := List.mem_map.1 hc; exact Dr y) hc (by decide) (by decide) (by decide) (by decide) rfl rfl) ?_;simp (disch := omega) only [go_sem];simp [Og, List.map_take, List.map_drop]
def Ba (v : Vc) (r : Int) (q : Nat) : Vc := if 1 ≤ r ∧ r ≤ 8 then E7 v (r - 1).toNat (max (v (r - 1).toNat) q) else v
set_option maxHeartbeats 1000000 in
theorem Aao (v : Vc) (r : Int) (q : Nat) {h d} : FunOk Tryz.prog 105 [.vec 8 (vE v), .vec 2 [.i .i64 r, .i .u32 q]] h d (.vec 8 (vE (Ba v r q))) [] := by
 refine Ap Ag fn105 (by simp) rfl rfl fun F => ?_;by_cases h1 : 1 ≤ r
 · by_cases h2 : r ≤ 8
   · have e : Ba v r q = E7 v (r - 1).toNat (max (v (r - 1).toNat) q) := by unfold Ba; rw [if_pos ⟨h1, h2⟩]
     obtain ⟨k, rfl⟩ : ∃ k : Nat, r = (k : Int) + 1 := ⟨(r - 1).toNat, by omega⟩
     have ek : ((k : Int) + 1 - 1) = (k : Int) := by omega
     rw [ek, Int.toNat_natCast] at e;rw [e];simp (disch := omega) only [ir105, ek, go_sem]
   · have e : Ba v r q = v := by unfold Ba; rw [if_neg (by omega)]
     rw [e];simp (disch := omega) only [ir105, go_sem]
 · have e : Ba v r q = v := by unfold Ba; rw [if_neg (by omega)]
   rw [e];simp (disch := omega) only [ir105, go_sem]
def Ud (a b : Vc) (k : Nat) : FS := mk [(6, .pv (.i .i64 k)), (5, .p 5 0), (4, .p 4 0), (3, .p 3 0), (2, .p 2 0)] [(2, some (.var (.vec 8 (vE a)))), (3, some (.var (.vec 8 (vE b)))), (5, some (.var (.vec 8 (vE fun i => if i < k then Cz a b i else 0)))), (4, some (.var (.vec 8 (vE fun _ => 0))))]
theorem Uj (a b : Vc) {h d} : FunOk Tryz.prog 102 [.vec 8 (vE a), .vec 8 (vE b)] h d (.vec 8 (vE (Cz a b))) [] := by
 refine Ap Ag fn102 (by simp) rfl rfl fun F => ?_;simp (disch := omega) only [ir102, go_sem];refine A1 Ag (Ud a b) (fun k => k ≤ 8) (fun k => 8 - k) 0 (by simp) (Ak ?_ ?_) fun k hk => ?_
 · simp (disch := omega) only [go_sem]
 · simp (disch := omega) only [Zy, go_sem]
 by_cases hlt : k < 8
 · by_cases hc : a k < b k
   · simp (disch := omega) only [Ud, go_sem];refine Ad (k + 1) _ _ rfl (by omega) (by omega) ?_ ?_
     · simp (disch := omega) only [go_sem]
     · simp (disch := omega) only [go_sem];exact Qu (Lg fun i hi => by simp only [E7, Cz]; grind)
   · simp (disch := omega) only [Ud, go_sem];refine Ad (k + 1) _ _ rfl (by omega) (by omega) ?_ ?_
     · simp (disch := omega) only [go_sem]
     · simp (disch := omega) only [go_sem];exact Qu (Lg fun i hi => by simp only [E7, Cz]; grind)
 · simp (disch := omega) only [Ud, Ae8, go_sem]
def Qg (r : Int) (q : Nat) : Vc := fun i => if (i : Int) + 1 = r then q else 0
def Z5 (r : Int) (q k : Nat) : FS := mk [(4, .pv (.i .i64 k)), (3, .p 3 0), (2, .p 2 0), (1, .p 1 0)] [(1, some (.var (.vec 2 [.i .i64 r, .i .u32 q]))), (3, some (.var (.vec 8 (vE fun i => if i < k then Qg r q i else 0)))), (2, some (.var (.vec 8 (vE fun _ => 0))))]
theorem A1i (r : Int) (q : Nat) {h d} : FunOk Tryz.prog 103 [.vec 2 [.i .i64 r, .i .u32 q]] h d (.vec 8 (vE (Qg r q))) [] := by
 refine Ap Ag fn103 (by simp) rfl rfl fun F => ?_;simp (disch := omega) only [ir103, go_sem];refine A1 Ag (Z5 r q) (fun k => k ≤ 8) (fun k => 8 - k) 0 (by simp) (Ak ?_ ?_) fun k hk => ?_
 · simp (disch := omega) only [go_sem]
 · simp (disch := omega) only [Zy, go_sem]
 by_cases hlt : k < 8
 · by_cases hc : (k : Int) + 1 = r
   · simp (disch := omega) only [Z5, hc, go_sem];refine Ad (k + 1) _ _ rfl (by omega) (by omega) ?_ ?_
     · simp (disch := omega) only [go_sem]
     · simp (disch := omega) only [go_sem];exact Qu (Lg fun i hi => by simp only [E7, Qg]; grind)
   · simp (disch := omega) only [Z5, hc, go_sem];refine Ad (k + 1) _ _ rfl (by omega) (by omega) ?_ ?_
     · simp (disch := omega) only [go_sem]
     · simp (disch := omega) only [go_sem];exact Qu (Lg fun i hi => by simp only [E7, Qg]; grind)
 · simp (disch := omega) only [Z5, Ae8, go_sem]
theorem Ui (v : Vc) (r : Int) (q : Nat) {h d} : FunOk Tryz.prog 62 [.vec 8 (vE v), .vec 2 [.i .i64 r, .i .u32 q]] h d (.vec 8 (vE (Cz v (Qg r q)))) [] := by
 refine Ap Ag fn62 (by simp) rfl rfl fun F => ?_;simp (disch := omega) only [ir62, go_sem];refine Aa (A1i _ _) ?_;simp (disch := omega) only [go_sem];refine Aa (Uj _ _) ?_;simp (disch := omega) only [go_sem]
theorem Ab5 (v : Vc) (r : Int) (q : Nat) : ∀ i, i < 8 → Ba v r q i = Cz v (Qg r q) i := by
 intro i hi;unfold Ba;split
 · simp only [E7, Cz, Qg]; grind
 · simp only [Cz, Qg]; grind
theorem Ab8 (a b c : Vc) : Cz (Cz a b) c = Cz a (Cz b c) := funext fun i => Nat.max_assoc _ _ _
theorem Ae6 (a : Vc) : Cz a a = a := funext fun i => Nat.max_self _
def A1d (b : Bq) : Vc := fun i => if 1 ≤ b.1 ∧ b.1 ≤ 8 ∧ (i : Int) + 1 = b.1 then b.2 else 0
theorem Ab6 (v : Vc) (b : Bq) : Ba v b.1 b.2 = Cz v (A1d b) := by
 funext i;unfold Ba Cz A1d;by_cases h : 1 ≤ b.1 ∧ b.1 ≤ 8
 · rw [if_pos h];unfold E7;by_cases e : i = (b.1 - 1).toNat
   · rw [if_pos e, if_pos (by omega), e]
   · rw [if_neg e, if_neg (by omega)]; simp
 · rw [if_neg h, if_neg (by omega)]; simp
def Af8 (x y : Ent) : Ent := { x with gone := Cz x.gone y.gone }
theorem Yt {l : List Ent} {i : Bq} {f : Ent → Ent} (h : ∀ y ∈ l, y.id ≠ i) : T4 l i f = l := by
 unfold T4;have e1 : ∀ z ∈ l, (if z.id = i then f z else z) = id z := fun z hz => by rw [if_neg (h z hz)]; rfl
 rw [List.map_congr_left e1, List.map_id]
def Afv (l : List Ent) (x : Ent) : List Ent := if Qs l x.id = true then T4 l x.id (fun y => Af8 y x) else Og l x
def Fi : List Ent → Ent → Bool → List Ent
 | [], x, put => if put = true then [] else [x]
 | y :: l, x, put => if y.id = x.id then Af8 y x :: Fi l x true else if put = false ∧ H8 x.id y.id = true then x :: y :: Fi l x true else y :: Fi l x put
theorem O9 : ∀ {l : List Ent} {x : Ent}, (∀ y ∈ l, y.id ≠ x.id) → Fi l x true = l
 | [], x, _ => by simp [Fi]
 | y :: l, x, h => by
   simp only [Fi];rw [if_neg (h y List.mem_cons_self), if_neg (by simp), O9 fun z hz => h z (List.mem_cons_of_mem _ hz)]
theorem Aq9 (y : Ent) (l : List Ent) (i : Bq) (h : y.id ≠ i) : Qs (y :: l) i = Qs l i := by unfold Qs; simp only [Hq]; rw [if_neg h]
theorem Ai3 {l : List Ent} {i : Bq} : Qs l i = false ↔ Hq l i = none := by unfold Qs; cases Hq l i <;> simp
theorem A7l {l : List Ent} {i : Bq} : Qs l i = true ↔ ∃ x, Hq l i = some x := by unfold Qs; cases Hq l i <;> simp
theorem Yi : ∀ {l : List Ent} {x : Ent}, Ds l → Fi l x false = Afv l x
 | [], x, _ => by simp [Fi, Afv, Qs, Hq, Og, F7]
 | y :: l, x, hs => by
   obtain ⟨h1, h2⟩ := List.pairwise_cons.1 hs;simp only [Fi];by_cases e : y.id = x.id
   · have hne : ∀ z ∈ l, z.id ≠ x.id := fun z hz ez => Gb (by have := h1 z hz; rwa [e, ez] at this);rw [if_pos e, O9 hne];have : Qs (y :: l) x.id = true := by unfold Qs; simp [Hq, e]
     unfold Afv;rw [if_pos this];show _ = List.map _ (y :: l);rw [List.map_cons, if_pos e];congr 1;exact (Yt hne).symm
   · rw [if_neg e];by_cases hl : H8 x.id y.id = true
     · have hne : ∀ z ∈ l, z.id ≠ x.id := fun z hz ez => Gb (by have := G6 hl (h1 z hz); rwa [ez] at this);rw [if_pos (by simp [hl]), O9 hne];have : Qs (y :: l) x.id = false := Ai3.2 (F9.2 fun z hz => by
        rcases List.mem_cons.1 hz with rfl | hz
        · exact e
        · exact hne z hz)
       unfold Afv;rw [if_neg (by rw [this]; simp), Ss, if_neg (M6 hl)]
     · rw [if_neg fun h => hl h.2, Yi h2];unfold Afv;rw [Aq9 y l _ e];split
       · simp [T4, e]
       · rw [Ss, if_pos (J9 hl fun q => e q.symm)]
def M4 (b : Bq) (y : Ent) : Ent := { y with gone := Cz y.gone (A1d b) }
theorem Aq4 (b : Bq) (y : Ent) : (M4 b y).id = y.id := rfl
def killL (l : List Ent) (i b : Bq) : List Ent := T4 l i (M4 b)
theorem Aj0 {l : List Ent} (hs : Ds l) (i b : Bq) : Ds (killL l i b) := An9 (Aq4 b) hs i
theorem Awl (l : List Ent) (i : Bq) (f : Ent → Ent) : (T4 l i f).length = l.length := by simp [T4]
theorem A7k {l : List Ent} (hs : Ds l) {i : Bq} (h : Qs l i = true) : ∃ y, l[F7 l i]? = some y ∧ Hq l i = some y := by
 obtain ⟨x, hx⟩ := A7l.1 h;refine ⟨x, ?_, hx⟩;have := Ql hs i;rw [hx] at this;cases h1 : l[F7 l i]? with
 | none => rw [h1] at this; cases this
 | some y =>
   rw [h1] at this;simp only at this;split at this
   · cases this; rfl
   · cases this
set_option maxHeartbeats 1000000 in
theorem Ail {a : SV} {f : Bool} {l : List Ent} (i b : Bq) {h d} (hx : Cn h [a, .vec 2 [.i .i64 i.1, .i .u32 i.2], .vec 2 [.i .i64 b.1, .i .u32 b.2]] = [.pv (.sl f 15 (l.map Bm)), .vec 2 [.i .i64 i.1, .i .u32 i.2], .vec 2 [.i .i64 b.1, .i .u32 b.2]]) (hl : Be [a, .vec 2 [.i .i64 i.1, .i .u32 i.2], .vec 2 [.i .i64 b.1, .i .u32 b.2]] = true) (hs : Ds l) (hn : l.length ≤ 1000) :
 FunOk Tryz.prog 158 [a, .vec 2 [.i .i64 i.1, .i .u32 i.2], .vec 2 [.i .i64 b.1, .i .u32 b.2]] h d (.os d) [.new d (.row 15 ((killL l i b).map Bm))] := by
 refine Abg Ag fn158 (by simp) hl (.inr (Jh _)) fun F => ?_;rw [hx];have hfl := Jh l;simp (disch := omega) only [ir158, go_sem];refine Aa (Wg (es := l.map Bm) rfl rfl (.inr rfl) (by simp; omega) hfl) ?_;simp (disch := omega) only [go_sem];refine Aa (Aza (l := l) i rfl rfl hs hn) ?_;by_cases hi : Qs l i = true
 · obtain ⟨y, h1, h2⟩ := A7k hs hi;have hp : F7 l i < l.length := (List.getElem?_eq_some_iff.1 h1).1;have he : (l.map Bm)[F7 l i]? = some (Bm y) := by rw [List.getElem?_map, h1]; rfl
   have hg : (l.map Bm).getD (F7 l i) [] = Bm y := by rw [List.getD_eq_getElem?_getD, he]; rfl
   have hw := G3 y (Ba y.gone b.1 b.2);have e : (l.map Bm).set (F7 l i) (Bm { y with gone := Ba y.gone b.1 b.2 }) = (killL l i b).map Bm := by
    rw [Ab6, ← List.map_set];congr 1;exact Avd hs (f := M4 b) h2
   have hv := Bi (Ba y.gone b.1 b.2);simp (disch := omega) only [hi, List.length_map, he, Ii, go_sem];refine Aa (Aao _ _ _) ?_;simp (disch := omega) only [hg, hw, e, List.length_map, go_sem]
 · have hi' : Qs l i = false := by simpa using hi
   have e : killL l i b = l := Yt (F9.1 (Ai3.1 hi'));simp (disch := omega) only [hi', e, go_sem]
theorem Bp (a : Bq) : Ec [K1.int .i64, K1.int .u32] [.i .i64 a.1, .i .u32 a.2] = True := eq_true rfl
theorem Fd {a b : Bq} (h : a = b) : Qc [.i .i64 a.1, .i .u32 a.2] [.i .i64 b.1, .i .u32 b.2] = true := by subst h; simp [Qc]
theorem Fe {a b : Bq} (h : a ≠ b) : Qc [.i .i64 a.1, .i .u32 a.2] [.i .i64 b.1, .i .u32 b.2] = false := Fj fun e => h (Prod.ext e.1 e.2)
def R1 (f : Bool) (l : List Ent) (x : Ent) (p : Nat × List Ent × Bool) : FS := mk [(7, .pv (.i .i64 p.1)), (6, .pv (.b p.2.2)), (5, .os 40), (3, .p 3 0), (0, .pv (.sl f 15 (l.map Bm)))] [(40, some (.row 15 (p.2.1.map Bm))), (3, some (.var (.vec 15 (Bm x))))]
set_option maxHeartbeats 2000000 in
theorem Aap {a : SV} {f : Bool} {l : List Ent} (x : Ent) {h d} (hx : Cn h [a, .vec 15 (Bm x)] = [.pv (.sl f 15 (l.map Bm)), .vec 15 (Bm x)]) (hl : Be [a, .vec 15 (Bm x)] = true) (hn : l.length ≤ 1000) :
 FunOk Tryz.prog 100 [a, .vec 15 (Bm x)] h d (.os d) [.new d (.row 15 ((Fi l x false).map Bm))] := by
 refine Abg Ag fn100 (by simp) hl (.inr (Jh _)) fun F => ?_;rw [hx];have hcx := Dr x;simp (disch := omega) only [ir100, List.length_map, go_sem];refine A1 Ag (R1 f l x) (fun p => p.1 ≤ l.length ∧ p.2.1.length ≤ 2 * p.1 ∧ Fi l x false = p.2.1 ++ Fi (l.drop p.1) x p.2.2) (fun p => l.length - p.1) (0, [], false) ⟨Nat.zero_le _, Nat.le_refl _, rfl⟩ (Rr 5 40 15 rfl (by omega) (Ak ?_ ?_)) fun p hp => ?_
 · (try simp only [Ca, B9, B0, Bz, Bx, Bw, Bv, Bu]); simp (disch := omega) only [go_sem]
 · (try simp only [Ca, B9, B0, Bz, Bx, Bw, Bv, Bu]); simp (disch := omega) only [go_sem]
   rfl
 obtain ⟨k, out, put⟩ := p;obtain ⟨p1, p2, p3⟩ := hp;simp only at p1 p2 p3;by_cases hlt : k < l.length
 · have hd : l.drop k = l[k] :: l.drop (k + 1) := List.drop_eq_getElem_cons hlt;have he : (l.map Bm)[k]? = some (Bm l[k]) := by simp [hlt]
   rw [hd] at p3;generalize l[k] = y at *;have hcy := Dr y;simp only [Fi] at p3;by_cases hid : y.id = x.id
   · rw [if_pos hid] at p3;have hp := Fd hid;have hw := G3 y (Cz y.gone x.gone);have hv := Bi (Cz y.gone x.gone);have hm : ({ y with gone := Cz y.gone x.gone } : Ent) = Af8 y x := rfl;have hcm := Dr (Af8 y x);simp (disch := omega) only [R1, List.length_map, he, Dm, Bp, hp, Ff, Ii, hcy, go_sem];refine Aa (Uj _ _) ?_;simp (disch := omega) only [hw, hm, Ff, hcy, hcm, hv, List.length_map, go_sem];refine ⟨(k + 1, out ++ [Af8 y x], true), ⟨by show k + 1 ≤ _; omega, by show List.length (out ++ [Af8 y x]) ≤ 2 * (k + 1); simp; omega, by rw [p3]; show _ = (out ++ [Af8 y x]) ++ _; simp⟩, by show l.length - (k + 1) < l.length - k; omega, D2 36 40 (by decide) rfl (Ak ?_ ?_)⟩
     · (try simp only [Ca, B9, B0, Bz, Bx, Bw, Bv, Bu]); simp (disch := omega) only [go_sem]
     · (try simp only [Ca, B9, B0, Bz, Bx, Bw, Bv, Bu]); simp (disch := omega) only [go_sem]
       simp
   · rw [if_neg hid] at p3;have hp := Fe hid;by_cases hput : put = true
     · subst hput;rw [if_neg (by simp)] at p3;simp (disch := omega) only [R1, List.length_map, he, Dm, Bp, hp, Ff, hcy, go_sem];refine ⟨(k + 1, out ++ [y], true), ⟨by show k + 1 ≤ _; omega, by show List.length (out ++ [y]) ≤ 2 * (k + 1); simp; omega, by rw [p3]; show _ = (out ++ [y]) ++ _; simp⟩, by show l.length - (k + 1) < l.length - k; omega, D2 59 40 (by decide) rfl (Ak ?_ ?_)⟩
       · (try simp only [Ca, B9, B0, Bz, Bx, Bw, Bv, Bu]); simp (disch := omega) only [go_sem]
       · (try simp only [Ca, B9, B0, Bz, Bx, Bw, Bv, Bu]); simp (disch := omega) only [go_sem]
         simp
     · obtain rfl : put = false := by simpa using hput
       simp (disch := omega) only [R1, List.length_map, he, Dm, Bp, hp, Ff, hcy, go_sem];refine Aa (F8 _ _ _ _) ?_;by_cases hl : H8 x.id y.id = true
       · rw [if_pos ⟨rfl, hl⟩] at p3;have hl' : Cm x.id.1 x.id.2 y.id.1 y.id.2 = true := hl;simp (disch := omega) only [hl', List.length_map, he, Ff, hcy, hcx, go_sem];refine ⟨by simp; omega, (k + 1, out ++ [x, y], true), ⟨by show k + 1 ≤ _; omega, by show List.length (out ++ [x, y]) ≤ 2 * (k + 1); simp; omega, by rw [p3]; show _ = (out ++ [x, y]) ++ _; simp⟩, by show l.length - (k + 1) < l.length - k; omega, D2 59 40 (by decide) rfl (Ak ?_ ?_)⟩
         · (try simp only [Ca, B9, B0, Bz, Bx, Bw, Bv, Bu]); simp (disch := omega) only [go_sem]
         · (try simp only [Ca, B9, B0, Bz, Bx, Bw, Bv, Bu]); simp (disch := omega) only [go_sem]
           simp
       · rw [if_neg fun q => hl q.2] at p3;have hl' : Cm x.id.1 x.id.2 y.id.1 y.id.2 = false := by simpa using hl
         simp (disch := omega) only [hl', List.length_map, he, Ff, hcy, go_sem];refine ⟨(k + 1, out ++ [y], false), ⟨by show k + 1 ≤ _; omega, by show List.length (out ++ [y]) ≤ 2 * (k + 1); simp; omega, by rw [p3]; show _ = (out ++ [y]) ++ _; simp⟩, by show l.length - (k + 1) < l.length - k; omega, D2 59 40 (by decide) rfl (Ak ?_ ?_)⟩
         · (try simp only [Ca, B9, B0, Bz, Bx, Bw, Bv, Bu]); simp (disch := omega) only [go_sem]
         · (try simp only [Ca, B9, B0, Bz, Bx, Bw, Bv, Bu]); simp (disch := omega) only [go_sem]
           simp
 · obtain rfl : k = l.length := by omega
   rw [List.drop_length] at p3;simp only [Fi] at p3;by_cases hput : put = true
   · subst hput;simp only [if_true, List.append_nil] at p3;simp (disch := omega) only [R1, List.length_map, p3, go_sem]
   · obtain rfl : put = false := by simpa using hput
     simp only [Bool.false_eq_true, if_false] at p3;simp (disch := omega) only [R1, List.length_map, Ff, hcx, go_sem];rw [p3]; simp
structure SlI where
 f : Bool
 z : Nat
 l : List Bq
def SlI.pv (g : SlI) : PV := .sl g.f g.z (g.l.map Eb)
def SlI.ok (g : SlI) : Prop := g.l = [] ∨ g.z = 2
def SlI.nil : SlI := ⟨true, 0, []⟩
structure Evt where
 rep : Int
 seq : Nat
 dep : Vc
 kind : Int
 orep : Int
 oseq : Nat
 drep : Int
 dseq : Nat
 name : List UInt8
 gone : SlI
 base : SlI
 off : Int
 data : List UInt8
 ward : Int
def A9 (e : Evt) : List PV := [.i .i64 e.rep, .i .u32 e.seq] ++ vE e.dep ++ [.i .i64 e.kind, .i .i64 e.orep, .i .u32 e.oseq, .i .i64 e.drep, .i .u32 e.dseq, .s e.name, e.gone.pv, e.base.pv, .i .i64 e.off, .s e.data, .i .i64 e.ward]
theorem Ac (e : Evt) : (A9 e).length = 21 := by simp [A9, vE, Cu]
theorem Dc (e : Evt) (K : KK) : LoadK (some (A9 e)) 0 1 false K = K (.pv (.i .i64 e.rep)) [] := by
 simp only [LoadK, Hr, eq_iff_iff];exact ⟨fun h => h.2.2, fun h => ⟨by simp [A9, vE, Cu], .inr trivial, h⟩⟩
theorem Fx (e : Evt) (K : KK) : LoadK (some (A9 e)) 1 1 false K = K (.pv (.i .u32 e.seq)) [] := by
 simp only [LoadK, Hr, eq_iff_iff];exact ⟨fun h => h.2.2, fun h => ⟨by simp [A9, vE, Cu], .inr trivial, h⟩⟩
theorem Af (e : Evt) (K : KK) : LoadK (some (A9 e)) 10 1 false K = K (.pv (.i .i64 e.kind)) [] := by
 simp only [LoadK, Hr, eq_iff_iff];exact ⟨fun h => h.2.2, fun h => ⟨by simp [A9, vE, Cu], .inr trivial, h⟩⟩
theorem Dp (e : Evt) (K : KK) : LoadK (some (A9 e)) 15 1 false K = K (.pv (.s e.name)) [] := by
 simp only [LoadK, Hr, eq_iff_iff];exact ⟨fun h => h.2.2, fun h => ⟨by simp [A9, vE, Cu], .inr trivial, h⟩⟩
theorem Ga (e : Evt) (K : KK) : LoadK (some (A9 e)) 16 1 false K = K (.pv (e.gone.pv)) [] := by
 simp only [LoadK, Hr, eq_iff_iff];exact ⟨fun h => h.2.2, fun h => ⟨by simp [A9, vE, Cu], .inr trivial, h⟩⟩
theorem Fk (e : Evt) (K : KK) : LoadK (some (A9 e)) 17 1 false K = K (.pv (e.base.pv)) [] := by
 simp only [LoadK, Hr, eq_iff_iff];exact ⟨fun h => h.2.2, fun h => ⟨by simp [A9, vE, Cu], .inr trivial, h⟩⟩
theorem Ja (e : Evt) (K : KK) : LoadK (some (A9 e)) 18 1 false K = K (.pv (.i .i64 e.off)) [] := by
 simp only [LoadK, Hr, eq_iff_iff];exact ⟨fun h => h.2.2, fun h => ⟨by simp [A9, vE, Cu], .inr trivial, h⟩⟩
theorem Hg (e : Evt) (K : KK) : LoadK (some (A9 e)) 19 1 false K = K (.pv (.s e.data)) [] := by
 simp only [LoadK, Hr, eq_iff_iff];exact ⟨fun h => h.2.2, fun h => ⟨by simp [A9, vE, Cu], .inr trivial, h⟩⟩
theorem Up (e : Evt) (K : KK) : LoadK (some (A9 e)) 20 1 false K = K (.pv (.i .i64 e.ward)) [] := by
 simp only [LoadK, Hr, eq_iff_iff];exact ⟨fun h => h.2.2, fun h => ⟨by simp [A9, vE, Cu], .inr trivial, h⟩⟩
theorem Aq (e : Evt) (K : KK) : LoadK (some (A9 e)) 0 2 true K = K (.vec 2 ([.i .i64 e.rep, .i .u32 e.seq])) [] := by
 simp only [LoadK, Hr, eq_iff_iff];exact ⟨fun h => h.2.2, fun h => ⟨by simp [A9, vE, Cu], .inl trivial, h⟩⟩
theorem Fb (e : Evt) (K : KK) : LoadK (some (A9 e)) 2 8 true K = K (.vec 8 (vE e.dep)) [] := by
 simp only [LoadK, Hr, eq_iff_iff];exact ⟨fun h => h.2.2, fun h => ⟨by simp [A9, vE, Cu], .inl trivial, h⟩⟩
theorem A8 (e : Evt) (K : KK) : LoadK (some (A9 e)) 11 2 true K = K (.vec 2 ([.i .i64 e.orep, .i .u32 e.oseq])) [] := by
 simp only [LoadK, Hr, eq_iff_iff];exact ⟨fun h => h.2.2, fun h => ⟨by simp [A9, vE, Cu], .inl trivial, h⟩⟩
theorem Dl (e : Evt) (K : KK) : LoadK (some (A9 e)) 13 2 true K = K (.vec 2 ([.i .i64 e.drep, .i .u32 e.dseq])) [] := by
 simp only [LoadK, Hr, eq_iff_iff];exact ⟨fun h => h.2.2, fun h => ⟨by simp [A9, vE, Cu], .inl trivial, h⟩⟩
theorem Bf (e : Evt) (K : KK) : LoadK (some (A9 e)) 0 21 true K = K (.vec 21 (A9 e)) [] := Wp (Ac e) K
theorem H0 (e : Evt) {j : Nat} (h : j < 8) (K : KK) : LoadK (some (A9 e)) (2 + j) 1 false K = K (.pv (.i .u32 (e.dep j))) [] := by
 have : j = 0 ∨ j = 1 ∨ j = 2 ∨ j = 3 ∨ j = 4 ∨ j = 5 ∨ j = 6 ∨ j = 7 := by omega
 simp only [LoadK, Hr, eq_iff_iff];rcases this with rfl | rfl | rfl | rfl | rfl | rfl | rfl | rfl <;> exact ⟨fun h => h.2.2, fun h => ⟨by simp [A9, vE, Cu], .inr trivial, h⟩⟩
theorem Az8 (e : Evt) (r : Int) (q : Nat) : splice (A9 e) 11 [.i .i64 r, .i .u32 q] = A9 { e with orep := r, oseq := q } := rfl
theorem Az9 (e : Evt) (r : Int) (q : Nat) : splice (A9 e) 13 [.i .i64 r, .i .u32 q] = A9 { e with drep := r, dseq := q } := rfl
theorem Jz (e : Evt) (s : List UInt8) : splice (A9 e) 15 [.s s] = A9 { e with name := s } := rfl
theorem Au4 (e : Evt) (f : Bool) (z : Nat) (l : List Bq) : splice (A9 e) 16 [.sl f z (l.map Eb)] = A9 { e with gone := ⟨f, z, l⟩ } := rfl
theorem Au5 (e : Evt) (f : Bool) (z : Nat) (l : List Bq) : splice (A9 e) 17 [.sl f z (l.map Eb)] = A9 { e with base := ⟨f, z, l⟩ } := rfl
theorem Mo (e : Evt) (n : Int) : splice (A9 e) 18 [.i .i64 n] = A9 { e with off := n } := rfl
theorem J1 (e : Evt) (s : List UInt8) : splice (A9 e) 19 [.s s] = A9 { e with data := s } := rfl
theorem Jx (e : Evt) (n : Int) : splice (A9 e) 20 [.i .i64 n] = A9 { e with ward := n } := rfl
theorem Jy (e : Evt) : splice (A9 e) 11 [.i .i64 0, .i .u32 0] = A9 { e with orep := 0, oseq := 0 } := Az8 e 0 0
theorem J0 (e : Evt) : splice (A9 e) 13 [.i .i64 0, .i .u32 0] = A9 { e with drep := 0, dseq := 0 } := Az9 e 0 0
theorem Ia (e : Evt) : splice (A9 e) 16 [.sl true 0 []] = A9 { e with gone := .nil } := Au4 e true 0 []
theorem Ib (e : Evt) : splice (A9 e) 17 [.sl true 0 []] = A9 { e with base := .nil } := Au5 e true 0 []
theorem E1 (e e' : Evt) : splice (A9 e) 0 (A9 e') = A9 e' := rfl
attribute [go_sem] Dc Fx Af Dp Ga Fk Ja Hg Up Aq Fb A8 Dl Bf Ac SlI.pv D9 List.length_map
def Cr (e : Evt) : Evt :=
 if e.kind = 1 ∨ e.kind = 2 then { e with drep := 0, dseq := 0, name := [] }
 else if e.kind = 3 then { e with orep := 0, oseq := 0, base := .nil, off := 0, data := [] }
 else if e.kind = 4 then { e with orep := 0, oseq := 0, base := .nil, off := 0 }
 else if e.kind = 5 then { e with orep := 0, oseq := 0, base := .nil, data := [] }
 else if e.kind = 6 then { e with orep := 0, oseq := 0, gone := .nil }
 else if e.kind = 7 then { e with orep := 0, oseq := 0, gone := .nil, drep := 0, dseq := 0, name := [] }
 else if e.kind = 8 then { e with ward := 0 }
 else e
set_option maxHeartbeats 4000000 in
theorem A1q (e : Evt) {h d} : FunOk Tryz.prog 112 [.vec 21 (A9 e)] h d (.vec 21 (A9 (Cr e))) [] := by
 refine Ap Ag fn112 (by simp) rfl rfl fun F => ?_;have hl := Ac e;by_cases h1 : e.kind = 1
 · have eb : Cr e = { e with drep := 0, dseq := 0, name := [] } := by simp [Cr, h1]
   simp (disch := omega) only [ir112, Af, h1, J0, Jz, Jy, Ib, Ia, Mo, J1, Jx, Bf, Ac, eb, go_sem]
 by_cases h2 : e.kind = 2
 · have eb : Cr e = { e with drep := 0, dseq := 0, name := [] } := by simp [Cr, h2]
   simp (disch := omega) only [ir112, Af, h2, J0, Jz, Jy, Ib, Ia, Mo, J1, Jx, Bf, Ac, eb, go_sem]
 by_cases h3 : e.kind = 3
 · have eb : Cr e = { e with orep := 0, oseq := 0, base := .nil, off := 0, data := [] } := by simp [Cr, h3]
   simp (disch := omega) only [ir112, Af, h3, J0, Jz, Jy, Ib, Ia, Mo, J1, Jx, Bf, Ac, eb, go_sem]
 by_cases h4 : e.kind = 4
 · have eb : Cr e = { e with orep := 0, oseq := 0, base := .nil, off := 0 } := by simp [Cr, h4]
   simp (disch := omega) only [ir112, Af, h4, J0, Jz, Jy, Ib, Ia, Mo, J1, Jx, Bf, Ac, eb, go_sem]
 by_cases h5 : e.kind = 5
 · have eb : Cr e = { e with orep := 0, oseq := 0, base := .nil, data := [] } := by simp [Cr, h5]
   simp (disch := omega) only [ir112, Af, h5, J0, Jz, Jy, Ib, Ia, Mo, J1, Jx, Bf, Ac, eb, go_sem]
 by_cases h6 : e.kind = 6
 · have eb : Cr e = { e with orep := 0, oseq := 0, gone := .nil } := by simp [Cr, h6]
   simp (disch := omega) only [ir112, Af, h6, J0, Jz, Jy, Ib, Ia, Mo, J1, Jx, Bf, Ac, eb, go_sem]
 by_cases h7 : e.kind = 7
 · have eb : Cr e = { e with orep := 0, oseq := 0, gone := .nil, drep := 0, dseq := 0, name := [] } := by simp [Cr, h7]
   simp (disch := omega) only [ir112, Af, h7, J0, Jz, Jy, Ib, Ia, Mo, J1, Jx, Bf, Ac, eb, go_sem]
 by_cases h8 : e.kind = 8
 · have eb : Cr e = { e with ward := 0 } := by simp [Cr, h8]
   simp (disch := omega) only [ir112, Af, h8, J0, Jz, Jy, Ib, Ia, Mo, J1, Jx, Bf, Ac, eb, go_sem]
 have eb : Cr e = e := by simp [Cr, h1, h2, h3, h4, h5, h6, h7, h8]
 simp (disch := omega) only [ir112, Af, h1, h2, h3, h4, h5, h6, h7, h8, Bf, Ac, eb, go_sem]
end Go.Proofs.YthmjebkldgdeiaaGreat.Fw
namespace Go.Proofs.YthmjebkldgdeiaaGreat.Fw
open Go.RowKit Go.Proofs
def Cj (r : Int) (q : Nat) : Bool := decide (r = 0 ∧ q = 0)
theorem Sn (r : Int) (q : Nat) (K : KK) : LoadK (some [PV.i .i64 r, PV.i .u32 q]) 0 1 false K = K (.pv (.i .i64 r)) [] := Aa2 ..
theorem Sl (r : Int) (q : Nat) (K : KK) : LoadK (some [PV.i .i64 r, PV.i .u32 q]) 1 1 false K = K (.pv (.i .u32 q)) [] := by
 rw [Aiv]; exact Aa2 ..
theorem A2 (r : Int) (q : Nat) {h d} : FunOk Tryz.prog 117 [.vec 2 [.i .i64 r, .i .u32 q]] h d (.pv (.b (Cj r q))) [] := by
 refine Ap Ag fn117 (by simp) rfl rfl fun F => ?_;by_cases h1 : r = 0
 · by_cases h2 : q = 0
   · have e : Cj r q = true := decide_eq_true ⟨h1, h2⟩;simp (disch := omega) only [ir117, Sn, Sl, h1, h2, e, Int.natCast_zero, go_sem];rw [← h1, ← h2, e]
   · have e : Cj r q = false := decide_eq_false (by omega);have h3 : ¬ (q : Int) = 0 := by omega
     simp (disch := omega) only [ir117, Sn, Sl, h3, e, h1, go_sem];rw [← h1, e]
 · have e : Cj r q = false := decide_eq_false (by omega);simp (disch := omega) only [ir117, Sn, Sl, h1, e, go_sem]
theorem Ae (r : Int) (q : Nat) : Ec [K1.int .i64, K1.int .u32] [.i .i64 r, .i .u32 q] = True := eq_true rfl
theorem Av : Ec [K1.int .i64, K1.int .u32] [.i .i64 0, .i .u32 0] = True := eq_true rfl
theorem Au (r : Int) (q : Nat) : Qc [.i .i64 r, .i .u32 q] [.i .i64 0, .i .u32 0] = Cj r q := by
 by_cases h : r = 0 ∧ q = 0
 · rw [show Cj r q = true from decide_eq_true h];exact Gs (q' := 0) h
 · rw [show Cj r q = false from decide_eq_false h];exact Fj (q' := 0) h
def C6 (e : Evt) : Bool := Cj e.drep e.dseq || Bh e.dep e.drep e.dseq
theorem Aaq (e : Evt) {h d} : FunOk Tryz.prog 114 [.vec 21 (A9 e)] h d (.pv (.b (C6 e))) [] := by
 refine Ap Ag fn114 (by simp) rfl rfl fun F => ?_;have hl := Ac e;cases hz : Cj e.drep e.dseq with
 | true =>
   have eb : C6 e = true := by simp [C6, hz]
   simp (disch := omega) only [ir114, Dl, Ac, Ae, Av, Au, hz, eb, go_sem]
 | false =>
   have eb : C6 e = Bh e.dep e.drep e.dseq := by simp [C6, hz]
   simp (disch := omega) only [ir114, Dl, Fb, Ac, Ae, Av, Au, hz, eb, go_sem];refine Aa (Gi _ _ _) ?_;simp (disch := omega) only [go_sem]
def Cw (n : Int) : Bool := decide (0 ≤ n ∧ n ≤ 200)
theorem Wc (n : Int) {h d} : FunOk Tryz.prog 113 [.pv (.i .i64 n)] h d (.pv (.b (Cw n))) [] := by
 refine Ap Ag fn113 (by simp) rfl rfl fun F => ?_;by_cases h1 : 0 ≤ n
 · have e : Cw n = decide (n ≤ 200) := decide_eq_decide.2 (by omega);simp (disch := omega) only [ir113, h1, e, go_sem]
 · have e : Cw n = false := decide_eq_false (by omega);simp (disch := omega) only [ir113, h1, e, go_sem]
def At6 (a : Vc) (l : List Bq) : Prop := ∀ i, (h : i < l.length) → Bh a l[i].1 l[i].2 = true ∧ (0 < i → Cm l[i - 1].1 l[i - 1].2 l[i].1 l[i].2 = true)
open Classical in
noncomputable def G5 (a : Vc) (l : List Bq) : Bool := decide (At6 a l)
theorem Aia {a : Vc} {l : List Bq} (h : At6 a l) : G5 a l = true := by simp [G5, h]
theorem Uh {a : Vc} {l : List Bq} (h : ¬ At6 a l) : G5 a l = false := by simp [G5, h]
theorem El (x : Bq) (K : KK) : LoadK (some (Eb x)) 0 2 true K = K (.vec 2 [.i .i64 x.1, .i .u32 x.2]) [] := Wp (by rfl) K
def P1 (f : Bool) (z : Nat) (l : List Bq) (a : Vc) (k : Nat) : FS := mk [(15, .pv (.i .i64 k)), (14, .pv (.i .i64 l.length)), (13, .pv (.sl f z (l.map Eb))), (0, .pv (.sl f z (l.map Eb))), (5, .p 5 0)] [(5, some (.var (.vec 8 (vE a))))]
noncomputable def Eh (l : List Bq) (most : Int) (a : Vc) : Bool := decide ((l.length : Int) ≤ most) && G5 a l
theorem Yh {a : Vc} {l : List Bq} {k : Nat} (hk : ∀ i, (h : i < l.length) → i < k → Bh a l[i].1 l[i].2 = true ∧ (0 < i → Cm l[i - 1].1 l[i - 1].2 l[i].1 l[i].2 = true)) (hlt : k < l.length)
 (h1 : Bh a l[k].1 l[k].2 = true) (h2 : 0 < k → Cm l[k - 1].1 l[k - 1].2 l[k].1 l[k].2 = true) : ∀ i, (h : i < l.length) → i < k + 1 → Bh a l[i].1 l[i].2 = true ∧ (0 < i → Cm l[i - 1].1 l[i - 1].2 l[i].1 l[i].2 = true) := fun i h hi => by
 by_cases e : i = k
 · subst e; exact ⟨h1, h2⟩
 · exact hk i h (by omega)
set_option maxHeartbeats 2000000 in
theorem Ade {f : Bool} {z : Nat} {l : List Bq} {most : Int} {a : Vc} {h d} (hz : l = [] ∨ z = 2) (hn : l.length ≤ 1000) :
 FunOk Tryz.prog 116 [.pv (.sl f z (l.map Eb)), .pv (.i .i64 most), .vec 8 (vE a)] h d (.pv (.b (Eh l most a))) [] := by
 refine Ap Ag fn116 (by simp) rfl rfl fun F => ?_;by_cases hm : most < (l.length : Int)
 · have eb : Eh l most a = false := by
    have : ¬ (l.length : Int) ≤ most := by omega
    simp [Eh, this]
   simp (disch := omega) only [ir116, List.length_map, hm, eb, go_sem]
 have eb : Eh l most a = G5 a l := by
  have : (l.length : Int) ≤ most := by omega
  simp [Eh, this]
 rw [eb];simp (disch := omega) only [ir116, List.length_map, hm, go_sem];refine A1 Ag (P1 f z l a) (fun k => k ≤ l.length ∧ ∀ i, (h : i < l.length) → i < k → Bh a l[i].1 l[i].2 = true ∧ (0 < i → Cm l[i - 1].1 l[i - 1].2 l[i].1 l[i].2 = true)) (fun k => l.length - k) 0 (by simp) (Ak ?_ ?_) fun k hk => ?_
 · simp (disch := omega) only [List.length_map, go_sem]
 · simp (disch := omega) only [go_sem]
 obtain ⟨hk1, hk2⟩ := hk;by_cases hlt : k < l.length
 · have hz2 : z = 2 := hz.resolve_left fun e => by subst e; simp at hlt
   subst hz2;have he : (l.map Eb)[k]? = some (Eb l[k]) := by simp [hlt]
   have hst := Yh hk2 hlt;by_cases hh : Bh a l[k].1 l[k].2 = true
   · by_cases h0 : k = 0
     · subst h0;have e0 : (l.map Eb)[0]? = some (Eb l[0]) := he;simp (disch := omega) only [P1, List.length_map, he, e0, El, D9, Int.natCast_zero, go_sem];refine Aa (Gi _ _ _) ?_;simp (disch := omega) only [hh, Int.natCast_zero, go_sem];refine Ad (x := (0 : Nat)) (1 : Nat) _ _ rfl ⟨by omega, hst hh (by omega)⟩ (by omega) ?_ ?_
       · simp (disch := omega) only [go_sem]
       · simp (disch := omega) only [go_sem]
     · have hk' : k - 1 < l.length := by omega
       have he' : (l.map Eb)[k - 1]? = some (Eb l[k - 1]) := by simp [hk']
       have ek : ((k : Int) - 1).toNat = k - 1 := by omega
       have hpos : (0 : Int) < k := by omega
       by_cases hlt2 : Cm l[k - 1].1 l[k - 1].2 l[k].1 l[k].2 = true
       · simp (disch := omega) only [P1, List.length_map, he, he', ek, hpos, El, D9, go_sem];refine Aa (Gi _ _ _) ?_;simp (disch := omega) only [hh, he, he', ek, hpos, El, List.length_map, go_sem];refine Aa (Mw _ _ _ _) ?_;simp (disch := omega) only [hlt2, go_sem];refine Ad (k + 1) _ _ rfl ⟨by omega, hst hh fun _ => hlt2⟩ (by omega) ?_ ?_
         · simp (disch := omega) only [go_sem]
         · simp (disch := omega) only [go_sem]
       · have hlt3 : Cm l[k - 1].1 l[k - 1].2 l[k].1 l[k].2 = false := by simpa using hlt2
         have er := Uh (a := a) (l := l) fun h => hlt2 ((h k hlt).2 (by omega));simp (disch := omega) only [P1, List.length_map, he, he', ek, hpos, El, D9, go_sem];refine Aa (Gi _ _ _) ?_;simp (disch := omega) only [hh, he, he', ek, hpos, El, List.length_map, go_sem];refine Aa (Mw _ _ _ _) ?_;simp (disch := omega) only [hlt3, er, P1, go_sem]
   · have hh' : Bh a l[k].1 l[k].2 = false := by simpa using hh
     have er := Uh (a := a) (l := l) fun h => hh (h k hlt).1;simp (disch := omega) only [P1, List.length_map, he, El, D9, go_sem];refine Aa (Gi _ _ _) ?_;simp (disch := omega) only [hh', er, P1, go_sem]
 · obtain rfl : k = l.length := by omega
   have er := Aia (a := a) (l := l) fun i h => hk2 i h h;simp (disch := omega) only [P1, List.length_map, er, P1, go_sem]
def Lj (f : Bool) (z : Nat) (l : List Bq) (a : Vc) (k : Nat) : FS := mk [(5, .pv (.i .i64 k)), (0, .pv (.sl f z (l.map Eb))), (3, .p 3 0)] [(3, some (.var (.vec 8 (vE a))))]
set_option maxHeartbeats 2000000 in
theorem Api {f : Bool} {z : Nat} {l : List Bq} {a : Vc} {h d} (hz : l = [] ∨ z = 2) (hn : l.length ≤ 1000) :
 FunOk Tryz.prog 118 [.pv (.sl f z (l.map Eb)), .vec 8 (vE a)] h d (.pv (.b (G5 a l))) [] := by
 refine Ap Ag fn118 (by simp) rfl rfl fun F => ?_;simp (disch := omega) only [ir118, List.length_map, go_sem];refine A1 Ag (Lj f z l a) (fun k => k ≤ l.length ∧ ∀ i, (h : i < l.length) → i < k → Bh a l[i].1 l[i].2 = true ∧ (0 < i → Cm l[i - 1].1 l[i - 1].2 l[i].1 l[i].2 = true)) (fun k => l.length - k) 0 (by simp) (Ak ?_ ?_) fun k hk => ?_
 · simp (disch := omega) only [go_sem]
 · simp (disch := omega) only [go_sem]
 obtain ⟨hk1, hk2⟩ := hk;by_cases hlt : k < l.length
 · have hz2 : z = 2 := hz.resolve_left fun e => by subst e; simp at hlt
   subst hz2;have he : (l.map Eb)[k]? = some (Eb l[k]) := by simp [hlt]
   have hst := Yh hk2 hlt;by_cases hh : Bh a l[k].1 l[k].2 = true
   · by_cases h0 : k = 0
     · subst h0;have e0 : (l.map Eb)[0]? = some (Eb l[0]) := he;simp (disch := omega) only [Lj, List.length_map, he, e0, El, D9, Int.natCast_zero, go_sem];refine Aa (Kl _ _ _) ?_;simp (disch := omega) only [hh, Int.natCast_zero, go_sem];refine Ad (x := (0 : Nat)) (1 : Nat) _ _ rfl ⟨by omega, hst hh (by omega)⟩ (by omega) ?_ ?_
       · simp (disch := omega) only [go_sem]
       · simp (disch := omega) only [go_sem]
     · have hk' : k - 1 < l.length := by omega
       have he' : (l.map Eb)[k - 1]? = some (Eb l[k - 1]) := by simp [hk']
       have ek : ((k : Int) - 1).toNat = k - 1 := by omega
       have hpos : (0 : Int) < k := by omega
       by_cases hlt2 : Cm l[k - 1].1 l[k - 1].2 l[k].1 l[k].2 = true
       · simp (disch := omega) only [Lj, List.length_map, he, he', ek, hpos, El, D9, go_sem];refine Aa (Kl _ _ _) ?_;simp (disch := omega) only [hh, he, he', ek, hpos, El, List.length_map, go_sem];refine Aa (F8 _ _ _ _) ?_;simp (disch := omega) only [hlt2, go_sem];refine Ad (k + 1) _ _ rfl ⟨by omega, hst hh fun _ => hlt2⟩ (by omega) ?_ ?_
         · simp (disch := omega) only [go_sem]
         · simp (disch := omega) only [go_sem]
       · have hlt3 : Cm l[k - 1].1 l[k - 1].2 l[k].1 l[k].2 = false := by simpa using hlt2
         have er := Uh (a := a) (l := l) fun h => hlt2 ((h k hlt).2 (by omega));simp (disch := omega) only [Lj, List.length_map, he, he', ek, hpos, El, D9, go_sem];refine Aa (Kl _ _ _) ?_;simp (disch := omega) only [hh, he, he', ek, hpos, El, List.length_map, go_sem];refine Aa (F8 _ _ _ _) ?_;simp (disch := omega) only [hlt3, er, Lj, go_sem]
   · have hh' : Bh a l[k].1 l[k].2 = false := by simpa using hh
     have er := Uh (a := a) (l := l) fun h => hh (h k hlt).1;simp (disch := omega) only [Lj, List.length_map, he, El, D9, go_sem];refine Aa (Kl _ _ _) ?_;simp (disch := omega) only [hh', er, Lj, go_sem]
 · obtain rfl : k = l.length := by omega
   have er := Aia (a := a) (l := l) fun i h => hk2 i h h;simp (disch := omega) only [Lj, List.length_map, er, Lj, go_sem]
def Am (e : Evt) (o d g b f t w : Bool) : Bool := (o || Cj e.orep e.oseq) && ((d || (Cj e.drep e.dseq && decide (e.name = []))) && ((g || decide ((e.gone.l.length : Int) = 0)) && ((b || decide ((e.base.l.length : Int) = 0)) && ((f || decide (e.off = 0)) && ((t || decide (e.data = [])) && (w || decide (e.ward = 0)))))))
set_option maxHeartbeats 4000000 in
theorem Aij (e : Evt) {h d} : FunOk Tryz.prog 120 [.vec 21 (A9 e), .pv (.b false), .pv (.b true), .pv (.b false), .pv (.b false), .pv (.b false), .pv (.b false), .pv (.b false)] h d (.pv (.b (Am e false true false false false false false))) [] := by
 refine Ap Ag fn120 (by simp) rfl rfl fun F => ?_;have hl := Ac e;by_cases hz1' : Cj e.orep e.oseq = false
 · have hz1 := hz1';have eb : Am e false true false false false false false = false := by simp only [Am, hz1, go_sem, Bool.true_or]
   simp (disch := omega) only [ir120, Ac, hz1, eb, go_sem];refine Aa (A2 _ _) ?_;simp (disch := omega) only [Ac, hz1, eb, go_sem]
 have hz1 : Cj e.orep e.oseq = true := by simpa using hz1'
 by_cases hgo : (e.gone.l.length : Int) = 0;rotate_left
 · have eb : Am e false true false false false false false = false := by simp only [Am, hz1, hgo, go_sem, Bool.true_or]
   simp (disch := omega) only [ir120, Ac, hz1, hgo, eb, go_sem];refine Aa (A2 _ _) ?_;simp (disch := omega) only [Ac, hz1, hgo, eb, go_sem]
 by_cases hba : (e.base.l.length : Int) = 0;rotate_left
 · have eb : Am e false true false false false false false = false := by simp only [Am, hz1, hgo, hba, go_sem, Bool.true_or]
   simp (disch := omega) only [ir120, Ac, hz1, hgo, hba, eb, go_sem];refine Aa (A2 _ _) ?_;simp (disch := omega) only [Ac, hz1, hgo, hba, eb, go_sem]
 by_cases hof : e.off = 0;rotate_left
 · have eb : Am e false true false false false false false = false := by simp only [Am, hz1, hgo, hba, hof, go_sem, Bool.true_or]
   simp (disch := omega) only [ir120, Ac, hz1, hgo, hba, hof, eb, go_sem];refine Aa (A2 _ _) ?_;simp (disch := omega) only [Ac, hz1, hgo, hba, hof, eb, go_sem]
 by_cases hda : e.data = [];rotate_left
 · have eb : Am e false true false false false false false = false := by simp only [Am, hz1, hgo, hba, hof, hda, go_sem, Bool.true_or]
   simp (disch := omega) only [ir120, Ac, hz1, hgo, hba, hof, hda, eb, go_sem];refine Aa (A2 _ _) ?_;simp (disch := omega) only [Ac, hz1, hgo, hba, hof, hda, eb, go_sem]
 by_cases hwa : e.ward = 0;rotate_left
 · have eb : Am e false true false false false false false = false := by simp only [Am, hz1, hgo, hba, hof, hda, hwa, go_sem, Bool.true_or]
   simp (disch := omega) only [ir120, Ac, hz1, hgo, hba, hof, hda, hwa, eb, go_sem];refine Aa (A2 _ _) ?_;simp (disch := omega) only [Ac, hz1, hgo, hba, hof, hda, hwa, eb, go_sem]
 have eb : Am e false true false false false false false = true := by simp only [Am, hz1, hgo, hba, hof, hda, hwa, go_sem, Bool.true_or]
 simp (disch := omega) only [ir120, Ac, hz1, hgo, hba, hof, hda, hwa, eb, go_sem];refine Aa (A2 _ _) ?_;simp (disch := omega) only [Ac, hz1, hgo, hba, hof, hda, hwa, eb, go_sem]
set_option maxHeartbeats 4000000 in
theorem Af1 (e : Evt) {h d} : FunOk Tryz.prog 120 [.vec 21 (A9 e), .pv (.b true), .pv (.b false), .pv (.b false), .pv (.b true), .pv (.b true), .pv (.b true), .pv (.b false)] h d (.pv (.b (Am e true false false true true true false))) [] := by
 refine Ap Ag fn120 (by simp) rfl rfl fun F => ?_;have hl := Ac e;by_cases hz2' : Cj e.drep e.dseq = false
 · have hz2 := hz2';have eb : Am e true false false true true true false = false := by simp only [Am, hz2, go_sem, Bool.true_or]
   simp (disch := omega) only [ir120, Ac, hz2, eb, go_sem];refine Aa (A2 _ _) ?_;simp (disch := omega) only [Ac, hz2, eb, go_sem]
 have hz2 : Cj e.drep e.dseq = true := by simpa using hz2'
 by_cases hnm : e.name = [];rotate_left
 · have eb : Am e true false false true true true false = false := by simp only [Am, hz2, hnm, go_sem, Bool.true_or]
   simp (disch := omega) only [ir120, Ac, hz2, hnm, eb, go_sem];refine Aa (A2 _ _) ?_;simp (disch := omega) only [Ac, hz2, hnm, eb, go_sem]
 by_cases hgo : (e.gone.l.length : Int) = 0;rotate_left
 · have eb : Am e true false false true true true false = false := by simp only [Am, hz2, hnm, hgo, go_sem, Bool.true_or]
   simp (disch := omega) only [ir120, Ac, hz2, hnm, hgo, eb, go_sem];refine Aa (A2 _ _) ?_;simp (disch := omega) only [Ac, hz2, hnm, hgo, eb, go_sem]
 by_cases hwa : e.ward = 0;rotate_left
 · have eb : Am e true false false true true true false = false := by simp only [Am, hz2, hnm, hgo, hwa, go_sem, Bool.true_or]
   simp (disch := omega) only [ir120, Ac, hz2, hnm, hgo, hwa, eb, go_sem];refine Aa (A2 _ _) ?_;simp (disch := omega) only [Ac, hz2, hnm, hgo, hwa, eb, go_sem]
 have eb : Am e true false false true true true false = true := by simp only [Am, hz2, hnm, hgo, hwa, go_sem, Bool.true_or]
 simp (disch := omega) only [ir120, Ac, hz2, hnm, hgo, hwa, eb, go_sem];refine Aa (A2 _ _) ?_;simp (disch := omega) only [Ac, hz2, hnm, hgo, hwa, eb, go_sem]
set_option maxHeartbeats 4000000 in
theorem Aki (e : Evt) {h d} : FunOk Tryz.prog 120 [.vec 21 (A9 e), .pv (.b true), .pv (.b false), .pv (.b false), .pv (.b true), .pv (.b true), .pv (.b false), .pv (.b false)] h d (.pv (.b (Am e true false false true true false false))) [] := by
 refine Ap Ag fn120 (by simp) rfl rfl fun F => ?_;have hl := Ac e;by_cases hz2' : Cj e.drep e.dseq = false
 · have hz2 := hz2';have eb : Am e true false false true true false false = false := by simp only [Am, hz2, go_sem, Bool.true_or]
   simp (disch := omega) only [ir120, Ac, hz2, eb, go_sem];refine Aa (A2 _ _) ?_;simp (disch := omega) only [Ac, hz2, eb, go_sem]
 have hz2 : Cj e.drep e.dseq = true := by simpa using hz2'
 by_cases hnm : e.name = [];rotate_left
 · have eb : Am e true false false true true false false = false := by simp only [Am, hz2, hnm, go_sem, Bool.true_or]
   simp (disch := omega) only [ir120, Ac, hz2, hnm, eb, go_sem];refine Aa (A2 _ _) ?_;simp (disch := omega) only [Ac, hz2, hnm, eb, go_sem]
 by_cases hgo : (e.gone.l.length : Int) = 0;rotate_left
 · have eb : Am e true false false true true false false = false := by simp only [Am, hz2, hnm, hgo, go_sem, Bool.true_or]
   simp (disch := omega) only [ir120, Ac, hz2, hnm, hgo, eb, go_sem];refine Aa (A2 _ _) ?_;simp (disch := omega) only [Ac, hz2, hnm, hgo, eb, go_sem]
 by_cases hda : e.data = [];rotate_left
 · have eb : Am e true false false true true false false = false := by simp only [Am, hz2, hnm, hgo, hda, go_sem, Bool.true_or]
   simp (disch := omega) only [ir120, Ac, hz2, hnm, hgo, hda, eb, go_sem];refine Aa (A2 _ _) ?_;simp (disch := omega) only [Ac, hz2, hnm, hgo, hda, eb, go_sem]
 by_cases hwa : e.ward = 0;rotate_left
 · have eb : Am e true false false true true false false = false := by simp only [Am, hz2, hnm, hgo, hda, hwa, go_sem, Bool.true_or]
   simp (disch := omega) only [ir120, Ac, hz2, hnm, hgo, hda, hwa, eb, go_sem];refine Aa (A2 _ _) ?_;simp (disch := omega) only [Ac, hz2, hnm, hgo, hda, hwa, eb, go_sem]
 have eb : Am e true false false true true false false = true := by simp only [Am, hz2, hnm, hgo, hda, hwa, go_sem, Bool.true_or]
 simp (disch := omega) only [ir120, Ac, hz2, hnm, hgo, hda, hwa, eb, go_sem];refine Aa (A2 _ _) ?_;simp (disch := omega) only [Ac, hz2, hnm, hgo, hda, hwa, eb, go_sem]
set_option maxHeartbeats 4000000 in
theorem Akj (e : Evt) {h d} : FunOk Tryz.prog 120 [.vec 21 (A9 e), .pv (.b true), .pv (.b false), .pv (.b false), .pv (.b true), .pv (.b false), .pv (.b true), .pv (.b false)] h d (.pv (.b (Am e true false false true false true false))) [] := by
 refine Ap Ag fn120 (by simp) rfl rfl fun F => ?_;have hl := Ac e;by_cases hz2' : Cj e.drep e.dseq = false
 · have hz2 := hz2';have eb : Am e true false false true false true false = false := by simp only [Am, hz2, go_sem, Bool.true_or]
   simp (disch := omega) only [ir120, Ac, hz2, eb, go_sem];refine Aa (A2 _ _) ?_;simp (disch := omega) only [Ac, hz2, eb, go_sem]
 have hz2 : Cj e.drep e.dseq = true := by simpa using hz2'
 by_cases hnm : e.name = [];rotate_left
 · have eb : Am e true false false true false true false = false := by simp only [Am, hz2, hnm, go_sem, Bool.true_or]
   simp (disch := omega) only [ir120, Ac, hz2, hnm, eb, go_sem];refine Aa (A2 _ _) ?_;simp (disch := omega) only [Ac, hz2, hnm, eb, go_sem]
 by_cases hgo : (e.gone.l.length : Int) = 0;rotate_left
 · have eb : Am e true false false true false true false = false := by simp only [Am, hz2, hnm, hgo, go_sem, Bool.true_or]
   simp (disch := omega) only [ir120, Ac, hz2, hnm, hgo, eb, go_sem];refine Aa (A2 _ _) ?_;simp (disch := omega) only [Ac, hz2, hnm, hgo, eb, go_sem]
 by_cases hof : e.off = 0;rotate_left
 · have eb : Am e true false false true false true false = false := by simp only [Am, hz2, hnm, hgo, hof, go_sem, Bool.true_or]
   simp (disch := omega) only [ir120, Ac, hz2, hnm, hgo, hof, eb, go_sem];refine Aa (A2 _ _) ?_;simp (disch := omega) only [Ac, hz2, hnm, hgo, hof, eb, go_sem]
 by_cases hwa : e.ward = 0;rotate_left
 · have eb : Am e true false false true false true false = false := by simp only [Am, hz2, hnm, hgo, hof, hwa, go_sem, Bool.true_or]
   simp (disch := omega) only [ir120, Ac, hz2, hnm, hgo, hof, hwa, eb, go_sem];refine Aa (A2 _ _) ?_;simp (disch := omega) only [Ac, hz2, hnm, hgo, hof, hwa, eb, go_sem]
 have eb : Am e true false false true false true false = true := by simp only [Am, hz2, hnm, hgo, hof, hwa, go_sem, Bool.true_or]
 simp (disch := omega) only [ir120, Ac, hz2, hnm, hgo, hof, hwa, eb, go_sem];refine Aa (A2 _ _) ?_;simp (disch := omega) only [Ac, hz2, hnm, hgo, hof, hwa, eb, go_sem]
set_option maxHeartbeats 4000000 in
theorem Apk (e : Evt) {h d} : FunOk Tryz.prog 120 [.vec 21 (A9 e), .pv (.b true), .pv (.b false), .pv (.b true), .pv (.b false), .pv (.b false), .pv (.b false), .pv (.b false)] h d (.pv (.b (Am e true false true false false false false))) [] := by
 refine Ap Ag fn120 (by simp) rfl rfl fun F => ?_;have hl := Ac e;by_cases hz2' : Cj e.drep e.dseq = false
 · have hz2 := hz2';have eb : Am e true false true false false false false = false := by simp only [Am, hz2, go_sem, Bool.true_or]
   simp (disch := omega) only [ir120, Ac, hz2, eb, go_sem];refine Aa (A2 _ _) ?_;simp (disch := omega) only [Ac, hz2, eb, go_sem]
 have hz2 : Cj e.drep e.dseq = true := by simpa using hz2'
 by_cases hnm : e.name = [];rotate_left
 · have eb : Am e true false true false false false false = false := by simp only [Am, hz2, hnm, go_sem, Bool.true_or]
   simp (disch := omega) only [ir120, Ac, hz2, hnm, eb, go_sem];refine Aa (A2 _ _) ?_;simp (disch := omega) only [Ac, hz2, hnm, eb, go_sem]
 by_cases hba : (e.base.l.length : Int) = 0;rotate_left
 · have eb : Am e true false true false false false false = false := by simp only [Am, hz2, hnm, hba, go_sem, Bool.true_or]
   simp (disch := omega) only [ir120, Ac, hz2, hnm, hba, eb, go_sem];refine Aa (A2 _ _) ?_;simp (disch := omega) only [Ac, hz2, hnm, hba, eb, go_sem]
 by_cases hof : e.off = 0;rotate_left
 · have eb : Am e true false true false false false false = false := by simp only [Am, hz2, hnm, hba, hof, go_sem, Bool.true_or]
   simp (disch := omega) only [ir120, Ac, hz2, hnm, hba, hof, eb, go_sem];refine Aa (A2 _ _) ?_;simp (disch := omega) only [Ac, hz2, hnm, hba, hof, eb, go_sem]
 by_cases hda : e.data = [];rotate_left
 · have eb : Am e true false true false false false false = false := by simp only [Am, hz2, hnm, hba, hof, hda, go_sem, Bool.true_or]
   simp (disch := omega) only [ir120, Ac, hz2, hnm, hba, hof, hda, eb, go_sem];refine Aa (A2 _ _) ?_;simp (disch := omega) only [Ac, hz2, hnm, hba, hof, hda, eb, go_sem]
 by_cases hwa : e.ward = 0;rotate_left
 · have eb : Am e true false true false false false false = false := by simp only [Am, hz2, hnm, hba, hof, hda, hwa, go_sem, Bool.true_or]
   simp (disch := omega) only [ir120, Ac, hz2, hnm, hba, hof, hda, hwa, eb, go_sem];refine Aa (A2 _ _) ?_;simp (disch := omega) only [Ac, hz2, hnm, hba, hof, hda, hwa, eb, go_sem]
 have eb : Am e true false true false false false false = true := by simp only [Am, hz2, hnm, hba, hof, hda, hwa, go_sem, Bool.true_or]
 simp (disch := omega) only [ir120, Ac, hz2, hnm, hba, hof, hda, hwa, eb, go_sem];refine Aa (A2 _ _) ?_;simp (disch := omega) only [Ac, hz2, hnm, hba, hof, hda, hwa, eb, go_sem]
set_option maxHeartbeats 4000000 in
theorem Akh (e : Evt) {h d} : FunOk Tryz.prog 120 [.vec 21 (A9 e), .pv (.b true), .pv (.b true), .pv (.b true), .pv (.b false), .pv (.b false), .pv (.b false), .pv (.b false)] h d (.pv (.b (Am e true true true false false false false))) [] := by
 refine Ap Ag fn120 (by simp) rfl rfl fun F => ?_;have hl := Ac e;by_cases hba : (e.base.l.length : Int) = 0;rotate_left
 · have eb : Am e true true true false false false false = false := by simp only [Am, hba, go_sem, Bool.true_or]
   simp (disch := omega) only [ir120, Ac, hba, eb, go_sem]
 by_cases hof : e.off = 0;rotate_left
 · have eb : Am e true true true false false false false = false := by simp only [Am, hba, hof, go_sem, Bool.true_or]
   simp (disch := omega) only [ir120, Ac, hba, hof, eb, go_sem]
 by_cases hda : e.data = [];rotate_left
 · have eb : Am e true true true false false false false = false := by simp only [Am, hba, hof, hda, go_sem, Bool.true_or]
   simp (disch := omega) only [ir120, Ac, hba, hof, hda, eb, go_sem]
 by_cases hwa : e.ward = 0;rotate_left
 · have eb : Am e true true true false false false false = false := by simp only [Am, hba, hof, hda, hwa, go_sem, Bool.true_or]
   simp (disch := omega) only [ir120, Ac, hba, hof, hda, hwa, eb, go_sem]
 have eb : Am e true true true false false false false = true := by simp only [Am, hba, hof, hda, hwa, go_sem, Bool.true_or]
 simp (disch := omega) only [ir120, Ac, hba, hof, hda, hwa, eb, go_sem]
set_option maxHeartbeats 4000000 in
theorem Avu (e : Evt) {h d} : FunOk Tryz.prog 120 [.vec 21 (A9 e), .pv (.b false), .pv (.b false), .pv (.b false), .pv (.b false), .pv (.b false), .pv (.b false), .pv (.b true)] h d (.pv (.b (Am e false false false false false false true))) [] := by
 refine Ap Ag fn120 (by simp) rfl rfl fun F => ?_;have hl := Ac e;by_cases hz1' : Cj e.orep e.oseq = false
 · have hz1 := hz1';have eb : Am e false false false false false false true = false := by simp only [Am, hz1, go_sem, Bool.true_or]
   simp (disch := omega) only [ir120, Ac, hz1, eb, go_sem];refine Aa (A2 _ _) ?_;simp (disch := omega) only [Ac, hz1, eb, go_sem]
 have hz1 : Cj e.orep e.oseq = true := by simpa using hz1'
 by_cases hz2' : Cj e.drep e.dseq = false
 · have hz2 := hz2';have eb : Am e false false false false false false true = false := by simp only [Am, hz1, hz2, go_sem, Bool.true_or]
   simp (disch := omega) only [ir120, Ac, hz1, hz2, eb, go_sem];refine Aa (A2 _ _) ?_;simp (disch := omega) only [Ac, hz1, hz2, eb, go_sem];refine Aa (A2 _ _) ?_;simp (disch := omega) only [Ac, hz1, hz2, eb, go_sem]
 have hz2 : Cj e.drep e.dseq = true := by simpa using hz2'
 by_cases hnm : e.name = [];rotate_left
 · have eb : Am e false false false false false false true = false := by simp only [Am, hz1, hz2, hnm, go_sem, Bool.true_or]
   simp (disch := omega) only [ir120, Ac, hz1, hz2, hnm, eb, go_sem];refine Aa (A2 _ _) ?_;simp (disch := omega) only [Ac, hz1, hz2, hnm, eb, go_sem];refine Aa (A2 _ _) ?_;simp (disch := omega) only [Ac, hz1, hz2, hnm, eb, go_sem]
 by_cases hgo : (e.gone.l.length : Int) = 0;rotate_left
 · have eb : Am e false false false false false false true = false := by simp only [Am, hz1, hz2, hnm, hgo, go_sem, Bool.true_or]
   simp (disch := omega) only [ir120, Ac, hz1, hz2, hnm, hgo, eb, go_sem];refine Aa (A2 _ _) ?_;simp (disch := omega) only [Ac, hz1, hz2, hnm, hgo, eb, go_sem];refine Aa (A2 _ _) ?_;simp (disch := omega) only [Ac, hz1, hz2, hnm, hgo, eb, go_sem]
 by_cases hba : (e.base.l.length : Int) = 0;rotate_left
 · have eb : Am e false false false false false false true = false := by simp only [Am, hz1, hz2, hnm, hgo, hba, go_sem, Bool.true_or]
   simp (disch := omega) only [ir120, Ac, hz1, hz2, hnm, hgo, hba, eb, go_sem];refine Aa (A2 _ _) ?_;simp (disch := omega) only [Ac, hz1, hz2, hnm, hgo, hba, eb, go_sem];refine Aa (A2 _ _) ?_;simp (disch := omega) only [Ac, hz1, hz2, hnm, hgo, hba, eb, go_sem]
 by_cases hof : e.off = 0;rotate_left
 · have eb : Am e false false false false false false true = false := by simp only [Am, hz1, hz2, hnm, hgo, hba, hof, go_sem, Bool.true_or]
   simp (disch := omega) only [ir120, Ac, hz1, hz2, hnm, hgo, hba, hof, eb, go_sem];refine Aa (A2 _ _) ?_;simp (disch := omega) only [Ac, hz1, hz2, hnm, hgo, hba, hof, eb, go_sem];refine Aa (A2 _ _) ?_;simp (disch := omega) only [Ac, hz1, hz2, hnm, hgo, hba, hof, eb, go_sem]
 by_cases hda : e.data = [];rotate_left
 · have eb : Am e false false false false false false true = false := by simp only [Am, hz1, hz2, hnm, hgo, hba, hof, hda, go_sem, Bool.true_or]
   simp (disch := omega) only [ir120, Ac, hz1, hz2, hnm, hgo, hba, hof, hda, eb, go_sem];refine Aa (A2 _ _) ?_;simp (disch := omega) only [Ac, hz1, hz2, hnm, hgo, hba, hof, hda, eb, go_sem];refine Aa (A2 _ _) ?_;simp (disch := omega) only [Ac, hz1, hz2, hnm, hgo, hba, hof, hda, eb, go_sem]
 have eb : Am e false false false false false false true = true := by simp only [Am, hz1, hz2, hnm, hgo, hba, hof, hda, go_sem, Bool.true_or]
 simp (disch := omega) only [ir120, Ac, hz1, hz2, hnm, hgo, hba, hof, hda, eb, go_sem];refine Aa (A2 _ _) ?_;simp (disch := omega) only [Ac, hz1, hz2, hnm, hgo, hba, hof, hda, eb, go_sem];refine Aa (A2 _ _) ?_;simp (disch := omega) only [Ac, hz1, hz2, hnm, hgo, hba, hof, hda, eb, go_sem]
set_option maxHeartbeats 4000000 in
theorem Avv (e : Evt) {h d} : FunOk Tryz.prog 120 [.vec 21 (A9 e), .pv (.b false), .pv (.b false), .pv (.b false), .pv (.b false), .pv (.b false), .pv (.b false), .pv (.b false)] h d (.pv (.b (Am e false false false false false false false))) [] := by
 refine Ap Ag fn120 (by simp) rfl rfl fun F => ?_;have hl := Ac e;by_cases hz1' : Cj e.orep e.oseq = false
 · have hz1 := hz1';have eb : Am e false false false false false false false = false := by simp only [Am, hz1, go_sem, Bool.true_or]
   simp (disch := omega) only [ir120, Ac, hz1, eb, go_sem];refine Aa (A2 _ _) ?_;simp (disch := omega) only [Ac, hz1, eb, go_sem]
 have hz1 : Cj e.orep e.oseq = true := by simpa using hz1'
 by_cases hz2' : Cj e.drep e.dseq = false
 · have hz2 := hz2';have eb : Am e false false false false false false false = false := by simp only [Am, hz1, hz2, go_sem, Bool.true_or]
   simp (disch := omega) only [ir120, Ac, hz1, hz2, eb, go_sem];refine Aa (A2 _ _) ?_;simp (disch := omega) only [Ac, hz1, hz2, eb, go_sem];refine Aa (A2 _ _) ?_;simp (disch := omega) only [Ac, hz1, hz2, eb, go_sem]
 have hz2 : Cj e.drep e.dseq = true := by simpa using hz2'
 by_cases hnm : e.name = [];rotate_left
 · have eb : Am e false false false false false false false = false := by simp only [Am, hz1, hz2, hnm, go_sem, Bool.true_or]
   simp (disch := omega) only [ir120, Ac, hz1, hz2, hnm, eb, go_sem];refine Aa (A2 _ _) ?_;simp (disch := omega) only [Ac, hz1, hz2, hnm, eb, go_sem];refine Aa (A2 _ _) ?_;simp (disch := omega) only [Ac, hz1, hz2, hnm, eb, go_sem]
 by_cases hgo : (e.gone.l.length : Int) = 0;rotate_left
 · have eb : Am e false false false false false false false = false := by simp only [Am, hz1, hz2, hnm, hgo, go_sem, Bool.true_or]
   simp (disch := omega) only [ir120, Ac, hz1, hz2, hnm, hgo, eb, go_sem];refine Aa (A2 _ _) ?_;simp (disch := omega) only [Ac, hz1, hz2, hnm, hgo, eb, go_sem];refine Aa (A2 _ _) ?_;simp (disch := omega) only [Ac, hz1, hz2, hnm, hgo, eb, go_sem]
 by_cases hba : (e.base.l.length : Int) = 0;rotate_left
 · have eb : Am e false false false false false false false = false := by simp only [Am, hz1, hz2, hnm, hgo, hba, go_sem, Bool.true_or]
   simp (disch := omega) only [ir120, Ac, hz1, hz2, hnm, hgo, hba, eb, go_sem];refine Aa (A2 _ _) ?_;simp (disch := omega) only [Ac, hz1, hz2, hnm, hgo, hba, eb, go_sem];refine Aa (A2 _ _) ?_;simp (disch := omega) only [Ac, hz1, hz2, hnm, hgo, hba, eb, go_sem]
 by_cases hof : e.off = 0;rotate_left
 · have eb : Am e false false false false false false false = false := by simp only [Am, hz1, hz2, hnm, hgo, hba, hof, go_sem, Bool.true_or]
   simp (disch := omega) only [ir120, Ac, hz1, hz2, hnm, hgo, hba, hof, eb, go_sem];refine Aa (A2 _ _) ?_;simp (disch := omega) only [Ac, hz1, hz2, hnm, hgo, hba, hof, eb, go_sem];refine Aa (A2 _ _) ?_;simp (disch := omega) only [Ac, hz1, hz2, hnm, hgo, hba, hof, eb, go_sem]
 by_cases hda : e.data = [];rotate_left
 · have eb : Am e false false false false false false false = false := by simp only [Am, hz1, hz2, hnm, hgo, hba, hof, hda, go_sem, Bool.true_or]
   simp (disch := omega) only [ir120, Ac, hz1, hz2, hnm, hgo, hba, hof, hda, eb, go_sem];refine Aa (A2 _ _) ?_;simp (disch := omega) only [Ac, hz1, hz2, hnm, hgo, hba, hof, hda, eb, go_sem];refine Aa (A2 _ _) ?_;simp (disch := omega) only [Ac, hz1, hz2, hnm, hgo, hba, hof, hda, eb, go_sem]
 by_cases hwa : e.ward = 0;rotate_left
 · have eb : Am e false false false false false false false = false := by simp only [Am, hz1, hz2, hnm, hgo, hba, hof, hda, hwa, go_sem, Bool.true_or]
   simp (disch := omega) only [ir120, Ac, hz1, hz2, hnm, hgo, hba, hof, hda, hwa, eb, go_sem];refine Aa (A2 _ _) ?_;simp (disch := omega) only [Ac, hz1, hz2, hnm, hgo, hba, hof, hda, hwa, eb, go_sem];refine Aa (A2 _ _) ?_;simp (disch := omega) only [Ac, hz1, hz2, hnm, hgo, hba, hof, hda, hwa, eb, go_sem]
 have eb : Am e false false false false false false false = true := by simp only [Am, hz1, hz2, hnm, hgo, hba, hof, hda, hwa, go_sem, Bool.true_or]
 simp (disch := omega) only [ir120, Ac, hz1, hz2, hnm, hgo, hba, hof, hda, hwa, eb, go_sem];refine Aa (A2 _ _) ?_;simp (disch := omega) only [Ac, hz1, hz2, hnm, hgo, hba, hof, hda, hwa, eb, go_sem];refine Aa (A2 _ _) ?_;simp (disch := omega) only [Ac, hz1, hz2, hnm, hgo, hba, hof, hda, hwa, eb, go_sem]
inductive RdR where
 | skip
 | err (e : Int)
 | val (x : Int) (rest : List UInt8)
theorem Ab3 (n : Nat) : IntKind.u8.wrap (n : Int) = ((UInt8.ofNat n).toNat : Int) := by
 rw [UInt8.toNat_ofNat'];simp [IntKind.wrap, IntKind.signed, IntKind.bits]
theorem Ayy (l p l' p') : Am8 (.it l p) (.it l' p') = (l = l' ∧ p = p') := (rfl)
attribute [go_sem] Ayy
def Mg (b : UInt8) : Bool := decide ((97 ≤ b.toNat ∧ b.toNat ≤ 122) ∨ (65 ≤ b.toNat ∧ b.toNat ≤ 90) ∨ (48 ≤ b.toNat ∧ b.toNat ≤ 57) ∨ b.toNat = 46 ∨ b.toNat = 95 ∨ b.toNat = 45)
def Dg (s : List UInt8) : Bool := decide (1 ≤ s.length ∧ s.length ≤ 12 ∧ s ≠ [46] ∧ s ≠ [46, 46]) && s.all Mg
theorem Amf {s : List UInt8} {pos : Nat} (h : pos < s.length) (ha : (s.getD pos 0).toNat < 128) : Q6 s pos = ((s.getD pos 0).toNat, 1) := by
 have hs : pos < (⟨s.toArray⟩ : ByteArray).size := by simpa [ByteArray.size] using h
 have e : (⟨s.toArray⟩ : ByteArray)[pos]'hs = s.getD pos 0 := by
  rw [List.getD_eq_getElem?_getD, List.getElem?_eq_getElem h]; rfl
 have := decode_ascii ⟨s.toArray⟩ pos hs (by rw [e]; exact ha);unfold Q6;rw [this, e]
theorem Axv {s : List UInt8} {pos : Nat} (h : pos < s.length) (ha : ¬ (s.getD pos 0).toNat < 128) : 128 ≤ (Q6 s pos).1 ∧ (Q6 s pos).1 < 2147483648 := by
 have hs : pos < (⟨s.toArray⟩ : ByteArray).size := by simpa [ByteArray.size] using h
 have e : (⟨s.toArray⟩ : ByteArray).get! (pos + 0) = s.getD pos 0 := by
  show (⟨s.toArray⟩ : ByteArray).get! pos = _;have : (⟨s.toArray⟩ : ByteArray)[pos]'hs = s.getD pos 0 := by
   rw [List.getD_eq_getElem?_getD, List.getElem?_eq_getElem h]; rfl
  rw [← this];show (s.toArray)[pos]! = (s.toArray)[pos];rw [getElem!_pos]
 unfold Q6 Utf8.decode;simp only [e, ha, if_false];unfold Utf8.runeError;split
 · split
   · simp only; omega
   · simp
 · split
   · split
     · rename_i hc; simp only [Bool.and_eq_true, decide_eq_true_eq] at hc ⊢; omega
     · simp
   · split
     · split
       · rename_i hc; simp only [Bool.and_eq_true, decide_eq_true_eq] at hc ⊢; omega
       · simp
     · simp
theorem Asi (n : Nat) (h : 128 ≤ n) : (W7 n).length ≤ 4 ∧ 2 ≤ (W7 n).length ∧ 128 ≤ ((W7 n).getD ((W7 n).length - 1) 0).toNat := by
 have key : ∀ c : Nat, 128 ≤ c → ∀ l : List UInt8, l = (if c < 0x80 then [UInt8.ofNat c] else if c < 0x800 then [UInt8.ofNat (0xC0 + c / 64), UInt8.ofNat (0x80 + c % 64)] else if c < 0x10000 then [UInt8.ofNat (0xE0 + c / 4096), UInt8.ofNat (0x80 + c / 64 % 64), UInt8.ofNat (0x80 + c % 64)] else [UInt8.ofNat (0xF0 + c / 262144), UInt8.ofNat (0x80 + c / 4096 % 64), UInt8.ofNat (0x80 + c / 64 % 64), UInt8.ofNat (0x80 + c % 64)]) → l.length ≤ 4 ∧ 2 ≤ l.length ∧ 128 ≤ (l.getD (l.length - 1) 0).toNat := by
  intro c hc l hl;have hb : 128 ≤ (UInt8.ofNat (0x80 + c % 64)).toNat := by rw [UInt8.toNat_ofNat']; omega
  rw [if_neg (by omega)] at hl;split at hl
  · subst hl; exact ⟨by simp, by simp, hb⟩
  · split at hl
    · subst hl; exact ⟨by simp, by simp, hb⟩
    · subst hl; exact ⟨by simp, by simp, hb⟩
 refine key (if Utf8.valid (n : Int) then n else 0xFFFD) (by split <;> omega) _ ?_;unfold W7 Utf8.encode Utf8.runeError;simp only [Int.toNat_natCast];generalize (if Utf8.valid (n : Int) = true then n else 0xFFFD) = c;split
 · rfl
 · split
   · rfl
   · split <;> rfl
theorem A5v (s : List UInt8) (c : UInt8) {h} : Zs Tryz.prog 185 [.pv (.s s), .pv (.i .u8 c.toNat)] h (.pv (.i .i64 (Lib.indexByte s c))) := by
 intro F N ρ st a w hR hh vs hc;simp only [ConcL] at hc;obtain ⟨v, us, rfl, hv, u, us', rfl, hu, rfl⟩ := hc;have hv := M5 hv;have hu := Fl hu;subst hv; subst hu;refine ⟨_, ?_, Dq⟩;rw [run_callFunc_extern (fn := (Tryz.prog.funcs[185]?).getD default) (by kernel_rfl) (by kernel_rfl) (by kernel_rfl) (by kernel_rfl) (e := Extern.BytealgIndexByte.indexByte) (by kernel_rfl)];rw [Lib.run_indexByteString];simp
theorem A5w (s : List UInt8) (c : UInt8) {h d} : FunOk Tryz.prog 182 [.pv (.s s), .pv (.i .u8 c.toNat)] h d (.pv (.i .i64 (Lib.indexByte s c))) [] := by
 refine Ap Ag fn182 (by simp) rfl rfl fun F => ?_;simp (disch := omega) only [ir182, go_sem];refine Rb (A5v s c) ?_;simp (disch := omega) only [go_sem]
theorem A1n (s : List UInt8) (c : UInt8) {h d} : FunOk Tryz.prog 175 [.pv (.s s), .pv (.i .u8 c.toNat)] h d (.pv (.i .i64 (Lib.indexByte s c))) [] := by
 refine Ap Ag fn175 (by simp) rfl rfl fun F => ?_;simp (disch := omega) only [ir175, go_sem];refine Aa (A5w s c) ?_;simp (disch := omega) only [go_sem]
def Rx (n : Nat) : Bool := decide (n < 55296 ∨ 57343 < n ∧ n ≤ 1114111)
theorem Avr (n : Nat) {h d} : FunOk Tryz.prog 176 [.pv (.i .i32 n)] h d (.pv (.b (Rx n))) [] := by
 refine Ap Ag fn176 (by simp) rfl rfl fun F => ?_;have h0 : (0 : Int) ≤ n := by omega
 by_cases h1 : (n : Int) < 55296
 · have e : Rx n = true := decide_eq_true (by omega);simp (disch := omega) only [ir176, h0, h1, e, go_sem]
 by_cases h2 : (57343 : Int) < n
 · by_cases h3 : (n : Int) ≤ 1114111
   · have e : Rx n = true := decide_eq_true (by omega);simp (disch := omega) only [ir176, h0, h1, h2, h3, e, go_sem]
   · have e : Rx n = false := decide_eq_false (by omega);simp (disch := omega) only [ir176, h0, h1, h2, h3, e, go_sem]
 · have e : Rx n = false := decide_eq_false (by omega);simp (disch := omega) only [ir176, h0, h1, h2, e, go_sem]
def ixD (n : Nat) : Int := if n < 128 then Lib.indexByte [46, 95, 45] (UInt8.ofNat n) else -1
def Afh (k : Nat) : FS := mk [(175, .p 175 0), (0, .pv (.s [46, 95, 45]))] [(175, some (.it [46, 95, 45] k))]
def Ya (rs : List UInt8) (i : Int) (_ : Unit) : FS := mk [(9, .pv (.i .i64 i)), (8, .pv (.i .i64 i)), (7, .pv (.s rs)), (10, .pv (.i .i64 0)), (0, .pv (.s [46, 95, 45]))] []
theorem Al8 (n : Nat) (h : 128 ≤ n) : (∃ a b, W7 n = [a, b] ∧ 128 ≤ b.toNat) ∨ (∃ a b c, W7 n = [a, b, c] ∧ 128 ≤ c.toNat) ∨ (∃ a b c d, W7 n = [a, b, c, d] ∧ 128 ≤ d.toNat) := by
 obtain ⟨h1, h2, h3⟩ := Asi n h;generalize W7 n = l at *
 match l, h1, h2, h3 with
 | [a, b], _, _, h3 => exact .inl ⟨a, b, rfl, h3⟩
 | [a, b, c], _, _, h3 => exact .inr (.inl ⟨a, b, c, rfl, h3⟩)
 | [a, b, c, d], _, _, h3 => exact .inr (.inr ⟨a, b, c, d, rfl, h3⟩)
 | [], _, h2, _ => simp at h2
 | [a], _, h2, _ => simp at h2
 | a :: b :: c :: d :: e :: r, h1, _, _ => simp at h1
theorem Ai7 {s : List UInt8} {b : UInt8} (h : s = [95, 45] ∨ s = [45] ∨ s = []) (hb : 128 ≤ b.toNat) : Lib.indexByte s b = -1 := by
 have ne : ∀ c : UInt8, c.toNat < 128 → (c == b) = false := fun c hc => by
  rw [beq_eq_false_iff_ne]; intro e; subst e; omega
 rcases h with rfl | rfl | rfl <;> simp [Lib.indexByte, ne 95 (by decide), ne 45 (by decide)]
set_option maxHeartbeats 4000000 in
theorem Adc (n : Nat) (hn : n < 2147483648) {h d} : FunOk Tryz.prog 164 [.pv (.s [46, 95, 45]), .pv (.i .i32 n)] h d (.pv (.i .i64 (ixD n))) [] := by
 refine Ap Ag fn164 (by simp) rfl rfl fun F => ?_;have h0 : (0 : Int) ≤ n := by omega
 by_cases h1 : (n : Int) < 128
 · have e : ixD n = Lib.indexByte [46, 95, 45] (UInt8.ofNat n) := by unfold ixD; rw [if_pos (by omega)]
   have ew : IntKind.u8.wrap (n : Int) = ((UInt8.ofNat n).toNat : Int) := Ab3 _;simp (disch := omega) only [ir164, h0, h1, ew, go_sem];refine Aa (A1n _ _) ?_;simp (disch := omega) only [e, go_sem]
 have e : ixD n = -1 := by unfold ixD; rw [if_neg (by omega)]
 by_cases h2 : (n : Int) = 65533
 · simp (disch := omega) only [ir164, h0, h1, h2, go_sem];have hl3 : (([46, 95, 45] : List UInt8).length) = 3 := rfl;have d0 : Q6 [46, 95, 45] 0 = (46, 1) := by decide
   have d1 : Q6 [46, 95, 45] 1 = (95, 1) := by decide
   have d2 : Q6 [46, 95, 45] 2 = (45, 1) := by decide
   refine A1 Ag Afh (fun k => k ≤ 3) (fun k => 3 - k) 0 (by omega) (Ak ?_ ?_) fun k hk => ?_
   · simp (disch := omega) only [go_sem]
   · simp (disch := omega) only [go_sem]
   by_cases hlt : k < 3
   · have : k = 0 ∨ k = 1 ∨ k = 2 := by omega
     rcases this with rfl | rfl | rfl
     all_goals simp (disch := omega) only [Afh, hl3, d0, d1, d2, go_sem]
     · refine Ad (x := (0 : Nat)) (1 : Nat) _ _ rfl (by omega) (by omega) ?_ ?_
       · simp (disch := omega) only [go_sem]
       · simp (disch := omega) only [go_sem]
     · refine Ad (x := (1 : Nat)) (2 : Nat) _ _ rfl (by omega) (by omega) ?_ ?_
       · simp (disch := omega) only [go_sem]
       · simp (disch := omega) only [go_sem]
     · refine Ad (x := (2 : Nat)) (3 : Nat) _ _ rfl (by omega) (by omega) ?_ ?_
       · simp (disch := omega) only [go_sem]
       · simp (disch := omega) only [go_sem]
   · obtain rfl : k = 3 := by omega
     simp (disch := omega) only [Afh, hl3, e, go_sem]
 · simp (disch := omega) only [ir164, h0, h1, h2, go_sem];refine Aa (Avr n) ?_;cases hv : Rx n with
   | false => simp (disch := omega) only [hv, e, go_sem]
   | true =>
     have hl3 : (([46, 95, 45] : List UInt8).length : Int) = 3 := rfl;rcases Al8 n (by omega) with ⟨a, b, he, hb⟩ | ⟨a, b, c, he, hb⟩ | ⟨a, b, c, d, he, hb⟩
     ·
      have hlen : (([a, b] : List UInt8).length : Int) = 2 := rfl;have hg : ((([46, 95, 45] : List UInt8).getD (Int.toNat 1) 0).toNat : Int) = 95 := rfl;have hg' : ([a, b] : List UInt8).getD (Int.toNat 1) 0 = b := rfl;have hne : ¬ (95 : Int) = (b.toNat : Int) := by omega
      have hdr : List.drop ((1 : Int) + 1).toNat (List.take 3 ([46, 95, 45] : List UInt8)) = [45] := rfl;have hib : Lib.indexByte [45] b = -1 := Ai7 (by simp) hb;simp (disch := omega) only [hv, he, hlen, go_sem];refine A1 Ag (Ya [a, b] 1) (fun _ => True) (fun _ => 0) () trivial (Ak ?_ ?_) fun _ _ => ?_
      · simp (disch := omega) only [go_sem]
      · simp (disch := omega) only [go_sem]
      simp (disch := omega) only [Ya, hl3, hlen, hg, hg', hne, hdr, go_sem];refine Aa (A1n [45] b) ?_;simp (disch := omega) only [hib, e, go_sem]
     ·
      have hlen : (([a, b, c] : List UInt8).length : Int) = 3 := rfl;have hg : ((([46, 95, 45] : List UInt8).getD (Int.toNat 2) 0).toNat : Int) = 45 := rfl;have hg' : ([a, b, c] : List UInt8).getD (Int.toNat 2) 0 = c := rfl;have hne : ¬ (45 : Int) = (c.toNat : Int) := by omega
      have hdr : List.drop ((2 : Int) + 1).toNat (List.take 3 ([46, 95, 45] : List UInt8)) = [] := rfl;have hib : Lib.indexByte [] c = -1 := Ai7 (by simp) hb;simp (disch := omega) only [hv, he, hlen, go_sem];refine A1 Ag (Ya [a, b, c] 2) (fun _ => True) (fun _ => 0) () trivial (Ak ?_ ?_) fun _ _ => ?_
      · simp (disch := omega) only [go_sem]
      · simp (disch := omega) only [go_sem]
      simp (disch := omega) only [Ya, hl3, hlen, hg, hg', hne, hdr, go_sem];refine Aa (A1n [] c) ?_;simp (disch := omega) only [hib, e, go_sem]
     · have hlen : (([a, b, c, d] : List UInt8).length : Int) = 4 := rfl;simp (disch := omega) only [hv, he, hlen, go_sem];refine A1 Ag (Ya [a, b, c, d] 3) (fun _ => True) (fun _ => 0) () trivial (Ak ?_ ?_) fun _ _ => ?_
       · simp (disch := omega) only [go_sem]
       · simp (disch := omega) only [go_sem]
       simp (disch := omega) only [Ya, hl3, hlen, e, go_sem]
def Amc (n : Nat) : Bool := decide (n = 46 ∨ n = 95 ∨ n = 45)
theorem Aws (n : Nat) : decide (0 ≤ ixD n) = Amc n := by
 by_cases h : n < 128
 · have : ∀ m, m < 128 → decide (0 ≤ ixD m) = Amc m := by decide
   exact this n h
 · have e : ixD n = -1 := by unfold ixD; rw [if_neg h]
   rw [e];have : ¬ (n = 46 ∨ n = 95 ∨ n = 45) := by omega
   simp [Amc]; omega
theorem Jr (n : Nat) (hn : n < 2147483648) {h d} : FunOk Tryz.prog 143 [.pv (.s [46, 95, 45]), .pv (.i .i32 n)] h d (.pv (.b (Amc n))) [] := by
 refine Ap Ag fn143 (by simp) rfl rfl fun F => ?_;have e := Aws n;simp (disch := omega) only [ir143, go_sem];refine Aa (Adc n hn) ?_;simp (disch := omega) only [e, go_sem]
def Ads (n : Nat) : Bool := decide ((97 ≤ n ∧ n ≤ 122) ∨ (65 ≤ n ∧ n ≤ 90))
theorem Ada (n : Nat) {h d} : FunOk Tryz.prog 142 [.pv (.i .i32 n)] h d (.pv (.b (Ads n))) [] := by
 refine Ap Ag fn142 (by simp) rfl rfl fun F => ?_;have : n < 65 ∨ (65 ≤ n ∧ n ≤ 90) ∨ (91 ≤ n ∧ n ≤ 96) ∨ (97 ≤ n ∧ n ≤ 122) ∨ 123 ≤ n := by omega
 rcases this with h1 | h1 | h1 | h1 | h1
 · have e : Ads n = false := decide_eq_false (by omega);simp (disch := omega) only [ir142, e, go_sem]
 · have e : Ads n = true := decide_eq_true (by omega);simp (disch := omega) only [ir142, e, go_sem]
 · have e : Ads n = false := decide_eq_false (by omega);simp (disch := omega) only [ir142, e, go_sem]
 · have e : Ads n = true := decide_eq_true (by omega);simp (disch := omega) only [ir142, e, go_sem]
 · have e : Ads n = false := decide_eq_false (by omega);simp (disch := omega) only [ir142, e, go_sem]
theorem Wm {s : List UInt8} {k : Nat} (hk : k < s.length) (h : Mg (s.getD k 0) = false) : Dg s = false := by
 have hm : s.getD k 0 ∈ s := by rw [List.getD_eq_getElem?_getD, List.getElem?_eq_getElem hk]; exact List.getElem_mem hk
 unfold Dg;rw [show s.all Mg = false from by rw [List.all_eq_false]; exact ⟨_, hm, by rw [h]; decide⟩, Bool.and_false]
theorem Ys {s : List UInt8} (h1 : 1 ≤ s.length) (h2 : s.length ≤ 12) (h3 : s ≠ [46]) (h4 : s ≠ [46, 46]) (h : ∀ k, k < s.length → Mg (s.getD k 0) = true) : Dg s = true := by
 unfold Dg;rw [decide_eq_true ⟨h1, h2, h3, h4⟩, Bool.true_and, List.all_eq_true];intro b hb;obtain ⟨k, hk, rfl⟩ := List.getElem_of_mem hb;have := h k hk
 rwa [List.getD_eq_getElem?_getD, List.getElem?_eq_getElem hk] at this
theorem M1 {s : List UInt8} (h : ¬ (1 ≤ s.length ∧ s.length ≤ 12 ∧ s ≠ [46] ∧ s ≠ [46, 46])) : Dg s = false := by
 unfold Dg; rw [decide_eq_false h, Bool.false_and]
def Z7 (s : List UInt8) (k : Nat) : FS := mk [(22, .p 22 0), (0, .pv (.s s))] [(22, some (.it s k))]
set_option maxHeartbeats 4000000 in
theorem Afx (s : List UInt8) {h d} : FunOk Tryz.prog 115 [.pv (.s s)] h d (.pv (.b (Dg s))) [] := by
 refine Ap Ag fn115 (by simp) rfl rfl fun F => ?_;by_cases h1 : s = []
 · subst h1;have e : Dg [] = false := M1 (by simp);have hl0 : (([] : List UInt8).length : Int) = 0 := rfl;simp (disch := omega) only [ir115, hl0, e, go_sem]
 have h1' : 1 ≤ s.length := List.length_pos_iff.2 h1;by_cases h2 : 12 < (s.length : Int)
 · have e : Dg s = false := M1 (by omega);simp (disch := omega) only [ir115, h1, h2, e, go_sem]
 by_cases h3 : s = [46]
 · subst h3;have e : Dg [46] = false := M1 (fun h => h.2.2.1 rfl);have hl0 : (([46] : List UInt8).length : Int) = 1 := rfl;simp (disch := omega) only [ir115, h1, hl0, e, go_sem]
 by_cases h4 : s = [46, 46]
 · subst h4;have e : Dg [46, 46] = false := M1 (fun h => h.2.2.2 rfl);have hl0 : (([46, 46] : List UInt8).length : Int) = 2 := rfl;simp (disch := omega) only [ir115, h1, h3, hl0, e, go_sem]
 simp (disch := omega) only [ir115, h1, h2, h3, h4, go_sem];refine A1 Ag (Z7 s) (fun k => k ≤ s.length ∧ ∀ j, j < k → Mg (s.getD j 0) = true) (fun k => s.length - k) 0 (by simp) (Ak ?_ ?_) fun k hk => ?_
 · simp (disch := omega) only [go_sem]
 · simp (disch := omega) only [go_sem]
 obtain ⟨hk1, hk2⟩ := hk;by_cases hlt : k < s.length
 · by_cases ha : (s.getD k 0).toNat < 128
   · have hd := Amf hlt ha;have hgo : Mg (s.getD k 0) = true → (k + 1 ≤ s.length ∧ ∀ j, j < k + 1 → Mg (s.getD j 0) = true) := fun h => ⟨hlt, fun j hj => by
      by_cases e : j = k
      · subst e; exact h
      · exact hk2 j (by omega)⟩
     have hbad := fun h => Wm (s := s) hlt h;generalize hb : s.getD k 0 = b at *;simp (disch := omega) only [Z7, hd, go_sem];refine Aa (Ada _) ?_;cases hL : Ads b.toNat with
     | true =>
       have hL' : (97 ≤ b.toNat ∧ b.toNat ≤ 122) ∨ (65 ≤ b.toNat ∧ b.toNat ≤ 90) := of_decide_eq_true hL;simp (disch := omega) only [hL, go_sem];refine Ad (k + 1) _ _ rfl (hgo (decide_eq_true (by omega))) (by omega) ?_ ?_
       · simp (disch := omega) only [go_sem]
       · simp (disch := omega) only [go_sem]
     | false =>
       have hL' : ¬ ((97 ≤ b.toNat ∧ b.toNat ≤ 122) ∨ (65 ≤ b.toNat ∧ b.toNat ≤ 90)) := of_decide_eq_false hL;by_cases hdg : 48 ≤ b.toNat ∧ b.toNat ≤ 57
       · simp (disch := omega) only [hL, go_sem];refine Ad (k + 1) _ _ rfl (hgo (decide_eq_true (by omega))) (by omega) ?_ ?_
         · simp (disch := omega) only [go_sem]
         · simp (disch := omega) only [go_sem]
       · have ht : b.toNat < 48 ∨ (48 ≤ b.toNat ∧ 57 < b.toNat) := by omega
         cases hdt : Amc b.toNat with
         | true =>
           have hdt' : b.toNat = 46 ∨ b.toNat = 95 ∨ b.toNat = 45 := of_decide_eq_true hdt;have hg := hgo (decide_eq_true (by omega));rcases ht with ht | ht
           all_goals simp (disch := omega) only [hL, go_sem]
           all_goals refine Aa (Jr b.toNat (by omega)) ?_
           all_goals simp (disch := omega) only [hdt, go_sem]
           all_goals refine Ad (k + 1) _ _ rfl hg (by omega) ?_ ?_
           all_goals simp (disch := omega) only [go_sem]
         | false =>
           have hdt' : ¬ (b.toNat = 46 ∨ b.toNat = 95 ∨ b.toNat = 45) := of_decide_eq_false hdt;have hg := hbad (decide_eq_false (by omega));rcases ht with ht | ht
           all_goals simp (disch := omega) only [hL, go_sem]
           all_goals refine Aa (Jr b.toNat (by omega)) ?_
           all_goals simp (disch := omega) only [hdt, hg, go_sem]
   · obtain ⟨hd1, hd2⟩ := Axv hlt ha;have hg := Wm (s := s) hlt (decide_eq_false (by omega));generalize hc : (Q6 s k).1 = c at *;have hL : Ads c = false := decide_eq_false (by omega);have hdt : Amc c = false := decide_eq_false (by omega);simp (disch := omega) only [Z7, hc, go_sem];refine Aa (Ada _) ?_;simp (disch := omega) only [hL, go_sem];refine Aa (Jr c hd2) ?_;simp (disch := omega) only [hdt, hg, go_sem]
 · obtain rfl : k = s.length := by omega
   have e := Ys h1' (by omega) h3 h4 hk2;simp (disch := omega) only [Z7, e, go_sem]
def Uc (s : List UInt8) (k : Nat) : FS := mk [(3, .pv (.i .i64 k)), (0, .pv (.s s))] []
set_option maxHeartbeats 4000000 in
theorem Aar (s : List UInt8) {h d} : FunOk Tryz.prog 119 [.pv (.s s)] h d (.pv (.b (Dg s))) [] := by
 refine Ap Ag fn119 (by simp) rfl rfl fun F => ?_;by_cases h1 : s = []
 · subst h1;have e : Dg [] = false := M1 (by simp);have hl0 : (([] : List UInt8).length : Int) = 0 := rfl;simp (disch := omega) only [ir119, hl0, e, go_sem]
 have h1' : 1 ≤ s.length := List.length_pos_iff.2 h1;by_cases h2 : 12 < (s.length : Int)
 · have e : Dg s = false := M1 (by omega);simp (disch := omega) only [ir119, h1, h2, e, go_sem]
 by_cases h3 : s = [46]
 · subst h3;have e : Dg [46] = false := M1 (fun h => h.2.2.1 rfl);have hl0 : (([46] : List UInt8).length : Int) = 1 := rfl;simp (disch := omega) only [ir119, h1, hl0, e, go_sem]
 by_cases h4 : s = [46, 46]
 · subst h4;have e : Dg [46, 46] = false := M1 (fun h => h.2.2.2 rfl);have hl0 : (([46, 46] : List UInt8).length : Int) = 2 := rfl;simp (disch := omega) only [ir119, h1, h3, hl0, e, go_sem]
 simp (disch := omega) only [ir119, h1, h2, h3, h4, go_sem];refine A1 Ag (Uc s) (fun k => k ≤ s.length ∧ ∀ j, j < k → Mg (s.getD j 0) = true) (fun k => s.length - k) 0 (by simp) (Ak ?_ ?_) fun k hk => ?_
 · simp (disch := omega) only [go_sem]
 · simp (disch := omega) only [go_sem]
 obtain ⟨hk1, hk2⟩ := hk;by_cases hlt : k < s.length
 · have hgo : Mg (s.getD k 0) = true → (k + 1 ≤ s.length ∧ ∀ j, j < k + 1 → Mg (s.getD j 0) = true) := fun h => ⟨hlt, fun j hj => by
    by_cases e : j = k
    · subst e; exact h
    · exact hk2 j (by omega)⟩
   have hbad := fun h => Wm (s := s) hlt h;generalize hb : s.getD k 0 = b at *;by_cases hok : Mg b = true
   · have hok' := of_decide_eq_true hok;have hg := hgo hok;have : (97 ≤ b.toNat ∧ b.toNat ≤ 122) ∨ (65 ≤ b.toNat ∧ b.toNat ≤ 90) ∨ (48 ≤ b.toNat ∧ b.toNat ≤ 57) ∨ b.toNat = 46 ∨ b.toNat = 95 ∨ b.toNat = 45 := by omega
     rcases this with hc | hc | hc | hc | hc | hc
     all_goals simp (disch := omega) only [Uc, hb, hc, go_sem]
     all_goals refine Ad (k + 1) _ _ rfl hg (by omega) ?_ ?_
     all_goals simp (disch := omega) only [go_sem]
   · have hok0 : Mg b = false := by simpa using hok
     have hok' := of_decide_eq_false hok0;have hg := hbad hok0;have : b.toNat < 45 ∨ b.toNat = 47 ∨ (58 ≤ b.toNat ∧ b.toNat ≤ 64) ∨ (91 ≤ b.toNat ∧ b.toNat ≤ 94) ∨ b.toNat = 96 ∨ 123 ≤ b.toNat := by omega
     rcases this with hc | hc | hc | hc | hc | hc
     all_goals simp (disch := omega) only [Uc, hb, hc, hg, go_sem]
 · obtain rfl : k = s.length := by omega
   have e := Ys h1' (by omega) h3 h4 hk2;simp (disch := omega) only [Uc, e, go_sem]
end Go.Proofs.YthmjebkldgdeiaaGreat.Fw
namespace Go.Proofs.YthmjebkldgdeiaaGreat.Fw
open Go.RowKit Go.Proofs
def Iq (e : Evt) : Prop := 1 ≤ e.rep ∧ e.rep ≤ 8 ∧ 1 ≤ e.seq ∧ e.seq ≤ 1048576 ∧ e.dep (e.rep - 1).toNat + 1 = e.seq ∧ 1 ≤ e.kind ∧ e.kind ≤ 9
def Om (e : Evt) : Prop := ∀ i, i < 8 → e.dep i ≤ 1048576
def Cs (b : Evt) : Bool := Cj b.orep b.oseq && (Cj b.drep b.dseq && (decide (b.name = []) && (decide ((b.gone.l.length : Int) = 0) && (decide ((b.base.l.length : Int) = 0) && (decide (b.off = 0) && (decide (b.data = []) && decide (b.ward = 0)))))))
noncomputable def Gh (e : Evt) : Bool :=
 if e.kind = 1 ∨ e.kind = 2 then (C6 e && (Dg e.name))
 else if e.kind = 3 then (Bh e.dep e.orep e.oseq && (Eh e.base.l 1 e.dep && (Cw (e.off) && (decide ((1 : Int) ≤ (e.data.length : Int)) && (Cw ((e.data.length : Int)) && (Cw (e.off + (e.data.length : Int))))))))
 else if e.kind = 4 then (Bh e.dep e.orep e.oseq && (Eh e.base.l 1 e.dep && (Cw (e.off))))
 else if e.kind = 5 then (Bh e.dep e.orep e.oseq && (Eh e.base.l 8 e.dep && (decide ((2 : Int) ≤ (e.base.l.length : Int)) && (Cw ((e.data.length : Int))))))
 else if e.kind = 6 then (Bh e.dep e.orep e.oseq && (Eh e.gone.l 8 e.dep))
 else if e.kind = 7 then (Bh e.dep e.orep e.oseq && (Eh e.gone.l 8 e.dep && (C6 e && (Dg e.name))))
 else if e.kind = 8 then (decide (1 ≤ e.ward) && (decide (e.ward ≤ 4)))
 else true
open Classical in
noncomputable def Bo (e : Evt) : Bool := decide (Iq e) && (decide (Om e) && (Cs (Cr e) && Gh e))
theorem Ge {e : Evt} (h : ¬ Iq e) : Bo e = false := by simp [Bo, h]
theorem Ajh {e : Evt} (h : ¬ Om e) : Bo e = false := by simp [Bo, h]
theorem Axy {e : Evt} (h : Cs (Cr e) = false) : Bo e = false := by simp [Bo, h]
theorem Axz {e : Evt} (h1 : Iq e) (h2 : Om e) (h3 : Cs (Cr e) = true) : Bo e = Gh e := by simp [Bo, h1, h2, h3]
def ev (e : Evt) : Prop := e.gone.ok ∧ e.base.ok ∧ e.gone.l.length ≤ 1000 ∧ e.base.l.length ≤ 1000 ∧ e.data.length ≤ 100000
theorem Aa6 {e : Evt} (h : e.kind = 1) : Gh e = (C6 e && (Dg e.name)) := by simp [Gh, h]
theorem Ai1 {e : Evt} (h : e.kind = 2) : Gh e = (C6 e && (Dg e.name)) := by simp [Gh, h]
theorem J7 {e : Evt} (h : e.kind = 3) : Gh e = (Bh e.dep e.orep e.oseq && (Eh e.base.l 1 e.dep && (Cw (e.off) && (decide ((1 : Int) ≤ (e.data.length : Int)) && (Cw ((e.data.length : Int)) && (Cw (e.off + (e.data.length : Int)))))))) := by simp [Gh, h]
theorem N3 {e : Evt} (h : e.kind = 4) : Gh e = (Bh e.dep e.orep e.oseq && (Eh e.base.l 1 e.dep && (Cw (e.off)))) := by simp [Gh, h]
theorem N2 {e : Evt} (h : e.kind = 5) : Gh e = (Bh e.dep e.orep e.oseq && (Eh e.base.l 8 e.dep && (decide ((2 : Int) ≤ (e.base.l.length : Int)) && (Cw ((e.data.length : Int)))))) := by simp [Gh, h]
theorem Ur {e : Evt} (h : e.kind = 6) : Gh e = (Bh e.dep e.orep e.oseq && (Eh e.gone.l 8 e.dep)) := by simp [Gh, h]
theorem Uq {e : Evt} (h : e.kind = 7) : Gh e = (Bh e.dep e.orep e.oseq && (Eh e.gone.l 8 e.dep && (C6 e && (Dg e.name)))) := by simp [Gh, h]
theorem Ai0 {e : Evt} (h : e.kind = 8) : Gh e = (decide (1 ≤ e.ward) && (decide (e.ward ≤ 4))) := by simp [Gh, h]
theorem Aiz {e : Evt} (h : e.kind = 9) : Gh e = (true) := by simp [Gh, h]
def Ah5 (e : Evt) (k : Nat) : FS := mk [(55, .pv (.i .i64 k)), (54, .vec 8 (vE e.dep)), (1, .p 1 0)] [(1, some (.var (.vec 21 (A9 e))))]
set_option maxHeartbeats 16000000 in
theorem Av0 (e : Evt) (he : ev e) {h d} : FunOk Tryz.prog 82 [.vec 21 (A9 e)] h d (.pv (.b (Bo e))) [] := by
 refine Ap Ag fn82 (by simp) rfl rfl fun F => ?_;have hl := Ac e;obtain ⟨hg, hb, hgn, hbn, hdl⟩ := he;by_cases r1 : e.rep < 1
 · have eb := Ge (e := e) fun h => by have := h.1; omega
   simp (disch := omega) only [ir82, Dc, r1, eb, go_sem]
 by_cases r2 : 8 < e.rep
 · have eb := Ge (e := e) fun h => by have := h.2.1; omega
   simp (disch := omega) only [ir82, Dc, r1, r2, eb, go_sem]
 by_cases r3 : (e.seq : Int) < 1
 · have eb := Ge (e := e) fun h => by have := h.2.2.1; omega
   simp (disch := omega) only [ir82, Dc, Fx, r1, r2, r3, eb, go_sem]
 by_cases r4 : 1048576 < (e.seq : Int)
 · have eb := Ge (e := e) fun h => by have := h.2.2.2.1; omega
   simp (disch := omega) only [ir82, Dc, Fx, r1, r2, r3, r4, eb, go_sem]
 obtain ⟨k, hk⟩ : ∃ k : Nat, e.rep = (k : Int) + 1 := ⟨(e.rep - 1).toNat, by omega⟩
 have hk8 : k < 8 := by omega
 have ek : ((k : Int) + 1 - 1) = (k : Int) := by omega
 have ekn : (e.rep - 1).toNat = k := by omega
 by_cases r5 : (e.dep k : Int) = (e.seq : Int) - 1;rotate_left
 · have eb := Ge (e := e) fun h => by have := h.2.2.2.2.1; rw [ekn] at this; omega
   simp (disch := omega) only [ir82, Dc, Fx, H0, hk, ek, r3, r4, r5, eb, go_sem]
 by_cases r6 : e.kind < 1
 · have eb := Ge (e := e) fun h => by have := h.2.2.2.2.2.1; omega
   simp (disch := omega) only [ir82, Dc, Fx, Af, H0, hk, ek, r3, r4, r5, r6, eb, go_sem]
 by_cases r7 : 9 < e.kind
 · have eb := Ge (e := e) fun h => by have := h.2.2.2.2.2.2; omega
   simp (disch := omega) only [ir82, Dc, Fx, Af, H0, hk, ek, r3, r4, r5, r6, r7, eb, go_sem]
 have hB : Iq e := ⟨by omega, by omega, by omega, by omega, by rw [ekn]; omega, by omega, by omega⟩
 simp (disch := omega) only [ir82, Dc, Fx, Af, Fb, H0, hk, ek, r3, r4, r5, r6, r7, go_sem];refine A1 Ag (Ah5 e) (fun k => k ≤ 8 ∧ ∀ i, i < k → e.dep i ≤ 1048576) (fun k => 8 - k) 0 (by simp) (Ak ?_ ?_) fun j hj => ?_
 · simp (disch := omega) only [go_sem]
 · simp (disch := omega) only [go_sem]
 obtain ⟨hj1, hj2⟩ := hj;by_cases hlt : j < 8
 · by_cases hd : 1048576 < (e.dep j : Int)
   · have eb := Ajh (e := e) fun h => by have := h j hlt; omega
     simp (disch := omega) only [Ah5, hd, eb, go_sem]
   · simp (disch := omega) only [Ah5, hd, go_sem];refine Ad (j + 1) _ _ rfl ⟨by omega, fun i hi => ?_⟩ (by omega) ?_ ?_
     · by_cases e : i = j
       · subst e; omega
       · exact hj2 i (by omega)
     · simp (disch := omega) only [go_sem]
     · simp (disch := omega) only [go_sem]
 obtain rfl : j = 8 := by omega
 have hD : Om e := hj2;simp (disch := omega) only [Ah5, Bf, go_sem];refine Aa (A1q e) ?_;have cz := Axy (e := e);have ck := fun h3 => Axz (e := e) hB hD h3;have hbl := Ac (Cr e);generalize Cr e = b at *

 by_cases z1' : Cj b.orep b.oseq = false
 · have eb := cz (by simp only [Cs, z1', decide_true, decide_false, Bool.true_and, Bool.false_and, Bool.and_true, Bool.and_false, Bool.and_self]);simp (disch := omega) only [Ae, Av, Au, E1, hl, hbl, z1', eb, go_sem]
 have z1 : Cj b.orep b.oseq = true := by simpa using z1'
 by_cases z2' : Cj b.drep b.dseq = false
 · have eb := cz (by simp only [Cs, z1, z2', decide_true, decide_false, Bool.true_and, Bool.false_and, Bool.and_true, Bool.and_false, Bool.and_self]);simp (disch := omega) only [Ae, Av, Au, E1, hl, hbl, z1, z2', eb, go_sem]
 have z2 : Cj b.drep b.dseq = true := by simpa using z2'
 by_cases z3 : b.name = [];rotate_left
 · have eb := cz (by simp only [Cs, z1, z2, z3, decide_true, decide_false, Bool.true_and, Bool.false_and, Bool.and_true, Bool.and_false, Bool.and_self]);simp (disch := omega) only [Ae, Av, Au, E1, hl, hbl, z1, z2, z3, eb, go_sem]
 by_cases z4 : (b.gone.l.length : Int) = 0;rotate_left
 · have eb := cz (by simp only [Cs, z1, z2, z3, z4, decide_true, decide_false, Bool.true_and, Bool.false_and, Bool.and_true, Bool.and_false, Bool.and_self]);simp (disch := omega) only [Ae, Av, Au, E1, hl, hbl, z1, z2, z3, z4, eb, go_sem]
 by_cases z5 : (b.base.l.length : Int) = 0;rotate_left
 · have eb := cz (by simp only [Cs, z1, z2, z3, z4, z5, decide_true, decide_false, Bool.true_and, Bool.false_and, Bool.and_true, Bool.and_false, Bool.and_self]);simp (disch := omega) only [Ae, Av, Au, E1, hl, hbl, z1, z2, z3, z4, z5, eb, go_sem]
 by_cases z6 : b.off = 0;rotate_left
 · have eb := cz (by simp only [Cs, z1, z2, z3, z4, z5, z6, decide_true, decide_false, Bool.true_and, Bool.false_and, Bool.and_true, Bool.and_false, Bool.and_self]);simp (disch := omega) only [Ae, Av, Au, E1, hl, hbl, z1, z2, z3, z4, z5, z6, eb, go_sem]
 by_cases z7 : b.data = [];rotate_left
 · have eb := cz (by simp only [Cs, z1, z2, z3, z4, z5, z6, z7, decide_true, decide_false, Bool.true_and, Bool.false_and, Bool.and_true, Bool.and_false, Bool.and_self]);simp (disch := omega) only [Ae, Av, Au, E1, hl, hbl, z1, z2, z3, z4, z5, z6, z7, eb, go_sem]
 by_cases z8 : b.ward = 0;rotate_left
 · have eb := cz (by simp only [Cs, z1, z2, z3, z4, z5, z6, z7, z8, decide_true, decide_false, Bool.true_and, Bool.false_and, Bool.and_true, Bool.and_false, Bool.and_self]);simp (disch := omega) only [Ae, Av, Au, E1, hl, hbl, z1, z2, z3, z4, z5, z6, z7, z8, eb, go_sem]
 have ez := ck (by simp only [Cs, z1, z2, z3, z4, z5, z6, z7, z8, decide_true, decide_false, Bool.true_and, Bool.false_and, Bool.and_true, Bool.and_false, Bool.and_self]);have hkk : e.kind = 1 ∨ e.kind = 2 ∨ e.kind = 3 ∨ e.kind = 4 ∨ e.kind = 5 ∨ e.kind = 6 ∨ e.kind = 7 ∨ e.kind = 8 ∨ e.kind = 9 := by omega
 rcases hkk with hki | hki | hki | hki | hki | hki | hki | hki | hki
 · rw [Aa6 hki] at ez;simp (disch := omega) only [Ae, Av, Au, E1, hl, hbl, z1, z2, z3, z4, z5, z6, z7, z8, hki, go_sem];refine Aa (Aaq e) ?_;by_cases s0' : C6 e = false
   · simp only [s0', decide_true, decide_false, Bool.true_and, Bool.false_and, Bool.and_true, Bool.and_false, Bool.and_self] at ez;simp (disch := omega) only [Ae, Av, Au, s0', ez, go_sem]
   have s0 : C6 e = true := by simpa using s0'
   simp (disch := omega) only [Ae, Av, Au, s0, go_sem];refine Aa (Afx _) ?_;by_cases s1' : Dg e.name = false
   · simp only [s0, s1', decide_true, decide_false, Bool.true_and, Bool.false_and, Bool.and_true, Bool.and_false, Bool.and_self] at ez;simp (disch := omega) only [Ae, Av, Au, s0, s1', ez, go_sem]
   have s1 : Dg e.name = true := by simpa using s1'
   simp only [s0, s1, decide_true, decide_false, Bool.true_and, Bool.false_and, Bool.and_true, Bool.and_false, Bool.and_self] at ez;simp (disch := omega) only [Ae, Av, Au, s0, s1, ez, go_sem]
 · rw [Ai1 hki] at ez;simp (disch := omega) only [Ae, Av, Au, E1, hl, hbl, z1, z2, z3, z4, z5, z6, z7, z8, hki, go_sem];refine Aa (Aaq e) ?_;by_cases s0' : C6 e = false
   · simp only [s0', decide_true, decide_false, Bool.true_and, Bool.false_and, Bool.and_true, Bool.and_false, Bool.and_self] at ez;simp (disch := omega) only [Ae, Av, Au, s0', ez, go_sem]
   have s0 : C6 e = true := by simpa using s0'
   simp (disch := omega) only [Ae, Av, Au, s0, go_sem];refine Aa (Afx _) ?_;by_cases s1' : Dg e.name = false
   · simp only [s0, s1', decide_true, decide_false, Bool.true_and, Bool.false_and, Bool.and_true, Bool.and_false, Bool.and_self] at ez;simp (disch := omega) only [Ae, Av, Au, s0, s1', ez, go_sem]
   have s1 : Dg e.name = true := by simpa using s1'
   simp only [s0, s1, decide_true, decide_false, Bool.true_and, Bool.false_and, Bool.and_true, Bool.and_false, Bool.and_self] at ez;simp (disch := omega) only [Ae, Av, Au, s0, s1, ez, go_sem]
 · rw [J7 hki] at ez;simp (disch := omega) only [Ae, Av, Au, E1, hl, hbl, z1, z2, z3, z4, z5, z6, z7, z8, hki, go_sem];refine Aa (Gi _ _ _) ?_;by_cases s0' : Bh e.dep e.orep e.oseq = false
   · simp only [s0', decide_true, decide_false, Bool.true_and, Bool.false_and, Bool.and_true, Bool.and_false, Bool.and_self] at ez;simp (disch := omega) only [Ae, Av, Au, s0', ez, go_sem]
   have s0 : Bh e.dep e.orep e.oseq = true := by simpa using s0'
   simp (disch := omega) only [Ae, Av, Au, s0, go_sem];refine Aa (Ade (l := e.base.l) (most := 1) hb hbn) ?_;by_cases s1' : Eh e.base.l 1 e.dep = false
   · simp only [s0, s1', decide_true, decide_false, Bool.true_and, Bool.false_and, Bool.and_true, Bool.and_false, Bool.and_self] at ez;simp (disch := omega) only [Ae, Av, Au, s0, s1', ez, go_sem]
   have s1 : Eh e.base.l 1 e.dep = true := by simpa using s1'
   simp (disch := omega) only [Ae, Av, Au, s0, s1, go_sem];refine Aa (Wc (e.off)) ?_;by_cases s2' : Cw (e.off) = false
   · simp only [s0, s1, s2', decide_true, decide_false, Bool.true_and, Bool.false_and, Bool.and_true, Bool.and_false, Bool.and_self] at ez;simp (disch := omega) only [Ae, Av, Au, s0, s1, s2', ez, go_sem]
   have s2 : Cw (e.off) = true := by simpa using s2'
   have s2b := of_decide_eq_true s2;by_cases s3 : (1 : Int) ≤ (e.data.length : Int);rotate_left
   · simp only [s0, s1, s2, s3, decide_true, decide_false, Bool.true_and, Bool.false_and, Bool.and_true, Bool.and_false, Bool.and_self] at ez;simp (disch := omega) only [Ae, Av, Au, s0, s1, s2, s3, ez, go_sem]
   simp (disch := omega) only [Ae, Av, Au, s0, s1, s2, s3, go_sem];refine Aa (Wc ((e.data.length : Int))) ?_;by_cases s4' : Cw ((e.data.length : Int)) = false
   · simp only [s0, s1, s2, s3, s4', decide_true, decide_false, Bool.true_and, Bool.false_and, Bool.and_true, Bool.and_false, Bool.and_self] at ez;simp (disch := omega) only [Ae, Av, Au, s0, s1, s2, s3, s4', ez, go_sem]
   have s4 : Cw ((e.data.length : Int)) = true := by simpa using s4'
   have s4b := of_decide_eq_true s4;simp (disch := omega) only [Ae, Av, Au, s0, s1, s2, s3, s4, go_sem];refine Aa (Wc (e.off + (e.data.length : Int))) ?_;by_cases s5' : Cw (e.off + (e.data.length : Int)) = false
   · simp only [s0, s1, s2, s3, s4, s5', decide_true, decide_false, Bool.true_and, Bool.false_and, Bool.and_true, Bool.and_false, Bool.and_self] at ez;simp (disch := omega) only [Ae, Av, Au, s0, s1, s2, s3, s4, s5', ez, go_sem]
   have s5 : Cw (e.off + (e.data.length : Int)) = true := by simpa using s5'
   have s5b := of_decide_eq_true s5;simp only [s0, s1, s2, s3, s4, s5, decide_true, decide_false, Bool.true_and, Bool.false_and, Bool.and_true, Bool.and_false, Bool.and_self] at ez;simp (disch := omega) only [Ae, Av, Au, s0, s1, s2, s3, s4, s5, ez, go_sem]
 · rw [N3 hki] at ez;simp (disch := omega) only [Ae, Av, Au, E1, hl, hbl, z1, z2, z3, z4, z5, z6, z7, z8, hki, go_sem];refine Aa (Gi _ _ _) ?_;by_cases s0' : Bh e.dep e.orep e.oseq = false
   · simp only [s0', decide_true, decide_false, Bool.true_and, Bool.false_and, Bool.and_true, Bool.and_false, Bool.and_self] at ez;simp (disch := omega) only [Ae, Av, Au, s0', ez, go_sem]
   have s0 : Bh e.dep e.orep e.oseq = true := by simpa using s0'
   simp (disch := omega) only [Ae, Av, Au, s0, go_sem];refine Aa (Ade (l := e.base.l) (most := 1) hb hbn) ?_;by_cases s1' : Eh e.base.l 1 e.dep = false
   · simp only [s0, s1', decide_true, decide_false, Bool.true_and, Bool.false_and, Bool.and_true, Bool.and_false, Bool.and_self] at ez;simp (disch := omega) only [Ae, Av, Au, s0, s1', ez, go_sem]
   have s1 : Eh e.base.l 1 e.dep = true := by simpa using s1'
   simp (disch := omega) only [Ae, Av, Au, s0, s1, go_sem];refine Aa (Wc (e.off)) ?_;by_cases s2' : Cw (e.off) = false
   · simp only [s0, s1, s2', decide_true, decide_false, Bool.true_and, Bool.false_and, Bool.and_true, Bool.and_false, Bool.and_self] at ez;simp (disch := omega) only [Ae, Av, Au, s0, s1, s2', ez, go_sem]
   have s2 : Cw (e.off) = true := by simpa using s2'
   have s2b := of_decide_eq_true s2;simp only [s0, s1, s2, decide_true, decide_false, Bool.true_and, Bool.false_and, Bool.and_true, Bool.and_false, Bool.and_self] at ez;simp (disch := omega) only [Ae, Av, Au, s0, s1, s2, ez, go_sem]
 · rw [N2 hki] at ez;simp (disch := omega) only [Ae, Av, Au, E1, hl, hbl, z1, z2, z3, z4, z5, z6, z7, z8, hki, go_sem];refine Aa (Gi _ _ _) ?_;by_cases s0' : Bh e.dep e.orep e.oseq = false
   · simp only [s0', decide_true, decide_false, Bool.true_and, Bool.false_and, Bool.and_true, Bool.and_false, Bool.and_self] at ez;simp (disch := omega) only [Ae, Av, Au, s0', ez, go_sem]
   have s0 : Bh e.dep e.orep e.oseq = true := by simpa using s0'
   simp (disch := omega) only [Ae, Av, Au, s0, go_sem];refine Aa (Ade (l := e.base.l) (most := 8) hb hbn) ?_;by_cases s1' : Eh e.base.l 8 e.dep = false
   · simp only [s0, s1', decide_true, decide_false, Bool.true_and, Bool.false_and, Bool.and_true, Bool.and_false, Bool.and_self] at ez;simp (disch := omega) only [Ae, Av, Au, s0, s1', ez, go_sem]
   have s1 : Eh e.base.l 8 e.dep = true := by simpa using s1'
   by_cases s2 : (2 : Int) ≤ (e.base.l.length : Int);rotate_left
   · simp only [s0, s1, s2, decide_true, decide_false, Bool.true_and, Bool.false_and, Bool.and_true, Bool.and_false, Bool.and_self] at ez;simp (disch := omega) only [Ae, Av, Au, s0, s1, s2, ez, go_sem]
   simp (disch := omega) only [Ae, Av, Au, s0, s1, s2, go_sem];refine Aa (Wc ((e.data.length : Int))) ?_;by_cases s3' : Cw ((e.data.length : Int)) = false
   · simp only [s0, s1, s2, s3', decide_true, decide_false, Bool.true_and, Bool.false_and, Bool.and_true, Bool.and_false, Bool.and_self] at ez;simp (disch := omega) only [Ae, Av, Au, s0, s1, s2, s3', ez, go_sem]
   have s3 : Cw ((e.data.length : Int)) = true := by simpa using s3'
   have s3b := of_decide_eq_true s3;simp only [s0, s1, s2, s3, decide_true, decide_false, Bool.true_and, Bool.false_and, Bool.and_true, Bool.and_false, Bool.and_self] at ez;simp (disch := omega) only [Ae, Av, Au, s0, s1, s2, s3, ez, go_sem]
 · rw [Ur hki] at ez;simp (disch := omega) only [Ae, Av, Au, E1, hl, hbl, z1, z2, z3, z4, z5, z6, z7, z8, hki, go_sem];refine Aa (Gi _ _ _) ?_;by_cases s0' : Bh e.dep e.orep e.oseq = false
   · simp only [s0', decide_true, decide_false, Bool.true_and, Bool.false_and, Bool.and_true, Bool.and_false, Bool.and_self] at ez;simp (disch := omega) only [Ae, Av, Au, s0', ez, go_sem]
   have s0 : Bh e.dep e.orep e.oseq = true := by simpa using s0'
   simp (disch := omega) only [Ae, Av, Au, s0, go_sem];refine Aa (Ade (l := e.gone.l) (most := 8) hg hgn) ?_;by_cases s1' : Eh e.gone.l 8 e.dep = false
   · simp only [s0, s1', decide_true, decide_false, Bool.true_and, Bool.false_and, Bool.and_true, Bool.and_false, Bool.and_self] at ez;simp (disch := omega) only [Ae, Av, Au, s0, s1', ez, go_sem]
   have s1 : Eh e.gone.l 8 e.dep = true := by simpa using s1'
   simp only [s0, s1, decide_true, decide_false, Bool.true_and, Bool.false_and, Bool.and_true, Bool.and_false, Bool.and_self] at ez;simp (disch := omega) only [Ae, Av, Au, s0, s1, ez, go_sem]
 · rw [Uq hki] at ez;simp (disch := omega) only [Ae, Av, Au, E1, hl, hbl, z1, z2, z3, z4, z5, z6, z7, z8, hki, go_sem];refine Aa (Gi _ _ _) ?_;by_cases s0' : Bh e.dep e.orep e.oseq = false
   · simp only [s0', decide_true, decide_false, Bool.true_and, Bool.false_and, Bool.and_true, Bool.and_false, Bool.and_self] at ez;simp (disch := omega) only [Ae, Av, Au, s0', ez, go_sem]
   have s0 : Bh e.dep e.orep e.oseq = true := by simpa using s0'
   simp (disch := omega) only [Ae, Av, Au, s0, go_sem];refine Aa (Ade (l := e.gone.l) (most := 8) hg hgn) ?_;by_cases s1' : Eh e.gone.l 8 e.dep = false
   · simp only [s0, s1', decide_true, decide_false, Bool.true_and, Bool.false_and, Bool.and_true, Bool.and_false, Bool.and_self] at ez;simp (disch := omega) only [Ae, Av, Au, s0, s1', ez, go_sem]
   have s1 : Eh e.gone.l 8 e.dep = true := by simpa using s1'
   simp (disch := omega) only [Ae, Av, Au, s0, s1, go_sem];refine Aa (Aaq e) ?_;by_cases s2' : C6 e = false
   · simp only [s0, s1, s2', decide_true, decide_false, Bool.true_and, Bool.false_and, Bool.and_true, Bool.and_false, Bool.and_self] at ez;simp (disch := omega) only [Ae, Av, Au, s0, s1, s2', ez, go_sem]
   have s2 : C6 e = true := by simpa using s2'
   simp (disch := omega) only [Ae, Av, Au, s0, s1, s2, go_sem];refine Aa (Afx _) ?_;by_cases s3' : Dg e.name = false
   · simp only [s0, s1, s2, s3', decide_true, decide_false, Bool.true_and, Bool.false_and, Bool.and_true, Bool.and_false, Bool.and_self] at ez;simp (disch := omega) only [Ae, Av, Au, s0, s1, s2, s3', ez, go_sem]
   have s3 : Dg e.name = true := by simpa using s3'
   simp only [s0, s1, s2, s3, decide_true, decide_false, Bool.true_and, Bool.false_and, Bool.and_true, Bool.and_false, Bool.and_self] at ez;simp (disch := omega) only [Ae, Av, Au, s0, s1, s2, s3, ez, go_sem]
 · rw [Ai0 hki] at ez;by_cases s0 : 1 ≤ e.ward;rotate_left
   · simp only [s0, decide_true, decide_false, Bool.true_and, Bool.false_and, Bool.and_true, Bool.and_false, Bool.and_self] at ez;simp (disch := omega) only [Ae, Av, Au, E1, hl, hbl, z1, z2, z3, z4, z5, z6, z7, z8, hki, s0, ez, go_sem]
   by_cases s1 : e.ward ≤ 4;rotate_left
   · simp only [s0, s1, decide_true, decide_false, Bool.true_and, Bool.false_and, Bool.and_true, Bool.and_false, Bool.and_self] at ez;simp (disch := omega) only [Ae, Av, Au, E1, hl, hbl, z1, z2, z3, z4, z5, z6, z7, z8, hki, s0, s1, ez, go_sem]
   simp only [s0, s1, decide_true, decide_false, Bool.true_and, Bool.false_and, Bool.and_true, Bool.and_false, Bool.and_self] at ez;simp (disch := omega) only [Ae, Av, Au, E1, hl, hbl, z1, z2, z3, z4, z5, z6, z7, z8, hki, s0, s1, ez, go_sem]
 · rw [Aiz hki] at ez;simp (disch := omega) only [Ae, Av, Au, E1, hl, hbl, z1, z2, z3, z4, z5, z6, z7, z8, hki, ez, go_sem]
theorem Gq {e : Evt} (h1 : Iq e) (h2 : Om e) : Bo e = (Cs (Cr e) && Gh e) := by simp [Bo, h1, h2]
theorem Lf : Cj 0 0 = true := rfl
theorem Arj (l : List Bq) (n : Int) (a : Vc) : Eh l n a = (G5 a l && decide ((l.length : Int) ≤ n)) := by unfold Eh; rw [Bool.and_comm]
theorem Azc (f : Int) (s : List UInt8) : (Cw f && (decide ((1 : Int) ≤ (s.length : Int)) && (Cw (s.length : Int) && Cw (f + (s.length : Int))))) = (Cw f && (!decide (s = []) && decide ((s.length : Int) ≤ 200 - f))) := by
 have e1 : decide ((1 : Int) ≤ (s.length : Int)) = !decide (s = []) := by
  cases s with
  | nil => rfl
  | cons a s => simp; omega
 rw [e1];unfold Cw;by_cases h1 : 0 ≤ f ∧ f ≤ 200
 · rw [decide_eq_true h1, Bool.true_and, Bool.true_and];congr 1;rw [← Bool.decide_and];exact decide_eq_decide.2 (by omega)
 · rw [decide_eq_false h1, Bool.false_and, Bool.false_and]
theorem Aoh (s : List UInt8) : Cw (s.length : Int) = decide ((s.length : Int) ≤ 200) := decide_eq_decide.2 (by omega)
theorem Aue {e : Evt} (h : e.kind = 1) : Cs (Cr e) = Am e false true false false false false false := by simp [Cs, Cr, Am, h, Lf, SlI.nil, Bool.and_assoc]
theorem Ax8 {e : Evt} (h1 : Iq e) (h2 : Om e) (h : e.kind = 1) : Bo e = (Am e false true false false false false false && (C6 e && (Dg e.name))) := by rw [Gq h1 h2, Aue h, Aa6 h]
theorem Azl {e : Evt} (h : e.kind = 2) : Cs (Cr e) = Am e false true false false false false false := by simp [Cs, Cr, Am, h, Lf, SlI.nil, Bool.and_assoc]
theorem Ax7 {e : Evt} (h1 : Iq e) (h2 : Om e) (h : e.kind = 2) : Bo e = (Am e false true false false false false false && (C6 e && (Dg e.name))) := by rw [Gq h1 h2, Azl h, Ai1 h]
theorem A9r {e : Evt} (h : e.kind = 3) : Cs (Cr e) = Am e true false false true true true false := by simp [Cs, Cr, Am, h, Lf, SlI.nil, Bool.and_assoc]
theorem Ax6 {e : Evt} (h1 : Iq e) (h2 : Om e) (h : e.kind = 3) : Bo e = (Am e true false false true true true false && (Bh e.dep e.orep e.oseq && (G5 e.dep e.base.l && (decide ((e.base.l.length : Int) ≤ 1) && (Cw e.off && (!decide (e.data = []) && (decide ((e.data.length : Int) ≤ 200 - e.off)))))))) := by rw [Gq h1 h2, A9r h, J7 h]; simp only [Arj, Azc, Bool.and_assoc]
theorem A41 {e : Evt} (h : e.kind = 4) : Cs (Cr e) = Am e true false false true true false false := by simp [Cs, Cr, Am, h, Lf, SlI.nil, Bool.and_assoc]
theorem Ax5 {e : Evt} (h1 : Iq e) (h2 : Om e) (h : e.kind = 4) : Bo e = (Am e true false false true true false false && (Bh e.dep e.orep e.oseq && (G5 e.dep e.base.l && (decide ((e.base.l.length : Int) ≤ 1) && (Cw e.off))))) := by rw [Gq h1 h2, A41 h, N3 h]; simp only [Arj, Azc, Bool.and_assoc]
theorem A9q {e : Evt} (h : e.kind = 5) : Cs (Cr e) = Am e true false false true false true false := by simp [Cs, Cr, Am, h, Lf, SlI.nil, Bool.and_assoc]
theorem Ax4 {e : Evt} (h1 : Iq e) (h2 : Om e) (h : e.kind = 5) : Bo e = (Am e true false false true false true false && (Bh e.dep e.orep e.oseq && (G5 e.dep e.base.l && (decide ((2 : Int) ≤ (e.base.l.length : Int)) && (decide ((e.base.l.length : Int) ≤ 8) && (decide ((e.data.length : Int) ≤ 200))))))) := by rw [Gq h1 h2, A9q h, N2 h]; simp only [Arj, Aoh, Bool.and_assoc]; congr 3; cases decide ((e.base.l.length : Int) ≤ 8) <;> cases decide ((2 : Int) ≤ (e.base.l.length : Int)) <;> rfl
theorem A40 {e : Evt} (h : e.kind = 6) : Cs (Cr e) = Am e true false true false false false false := by simp [Cs, Cr, Am, h, Lf, SlI.nil, Bool.and_assoc]
theorem Ax3 {e : Evt} (h1 : Iq e) (h2 : Om e) (h : e.kind = 6) : Bo e = (Am e true false true false false false false && (Bh e.dep e.orep e.oseq && (Eh e.gone.l 8 e.dep))) := by rw [Gq h1 h2, A40 h, Ur h]
theorem A4z {e : Evt} (h : e.kind = 7) : Cs (Cr e) = Am e true true true false false false false := by simp [Cs, Cr, Am, h, Lf, SlI.nil, Bool.and_assoc]
theorem Ax2 {e : Evt} (h1 : Iq e) (h2 : Om e) (h : e.kind = 7) : Bo e = (Am e true true true false false false false && (Bh e.dep e.orep e.oseq && (Eh e.gone.l 8 e.dep && (C6 e && (Dg e.name))))) := by rw [Gq h1 h2, A4z h, Uq h]
theorem Azk {e : Evt} (h : e.kind = 8) : Cs (Cr e) = Am e false false false false false false true := by simp [Cs, Cr, Am, h, Lf, SlI.nil, Bool.and_assoc]
theorem Ax1 {e : Evt} (h1 : Iq e) (h2 : Om e) (h : e.kind = 8) : Bo e = (Am e false false false false false false true && (decide (1 ≤ e.ward) && (decide (e.ward ≤ 4)))) := by rw [Gq h1 h2, Azk h, Ai0 h]
theorem Azj {e : Evt} (h : e.kind = 9) : Cs (Cr e) = Am e false false false false false false false := by simp [Cs, Cr, Am, h, Lf, SlI.nil, Bool.and_assoc]
theorem Ax0 {e : Evt} (h1 : Iq e) (h2 : Om e) (h : e.kind = 9) : Bo e = (Am e false false false false false false false && (true)) := by rw [Gq h1 h2, Azj h, Aiz h]
def Aac (e : Evt) (k : Nat) : FS := mk [(3, .pv (.i .i64 k)), (1, .p 1 0)] [(1, some (.var (.vec 21 (A9 e))))]
theorem Azs {a b : Nat} (ha : a < 4294967296) (hb : 1 ≤ b ∧ b ≤ 1048576) (h : ¬ a + 1 = b) : ¬ IntKind.u32.wrap ((a : Int) + 1) = (b : Int) := by
 by_cases h1 : a + 1 < 4294967296
 · rw [Ab4 (by omega)]; omega
 · have : (a : Int) + 1 = 4294967296 := by omega
   rw [this];have : IntKind.u32.wrap 4294967296 = 0 := by decide
   rw [this]; omega
set_option maxHeartbeats 40000000 in
theorem Ap3 (e : Evt) (he : ev e) (hdep : ∀ i, i < 8 → e.dep i < 4294967296) {h d} : FunOk Tryz.prog 83 [.vec 21 (A9 e)] h d (.pv (.b (Bo e))) [] := by
 refine Ap Ag fn83 (by simp) rfl rfl fun F => ?_;have hl := Ac e;obtain ⟨hg, hb, hgn, hbn, hdl⟩ := he;by_cases r1 : e.rep < 1
 · have eb := Ge (e := e) fun h => by have := h.1; omega
   (try simp only [Ca, B9, B0, Bz, Bx, Bw, Bv, Bu]); simp (maxSteps := 10000000) (disch := omega) only [ir83, Dc, r1, eb, go_sem]
 by_cases r2 : 8 < e.rep
 · have eb := Ge (e := e) fun h => by have := h.2.1; omega
   (try simp only [Ca, B9, B0, Bz, Bx, Bw, Bv, Bu]); simp (maxSteps := 10000000) (disch := omega) only [ir83, Dc, r1, r2, eb, go_sem]
 by_cases r3 : (e.seq : Int) < 1
 · have eb := Ge (e := e) fun h => by have := h.2.2.1; omega
   (try simp only [Ca, B9, B0, Bz, Bx, Bw, Bv, Bu]); simp (maxSteps := 10000000) (disch := omega) only [ir83, Dc, Fx, r1, r2, r3, eb, go_sem]
 by_cases r4 : 1048576 < (e.seq : Int)
 · have eb := Ge (e := e) fun h => by have := h.2.2.2.1; omega
   (try simp only [Ca, B9, B0, Bz, Bx, Bw, Bv, Bu]); simp (maxSteps := 10000000) (disch := omega) only [ir83, Dc, Fx, r1, r2, r3, r4, eb, go_sem]
 obtain ⟨k, hk⟩ : ∃ k : Nat, e.rep = (k : Int) + 1 := ⟨(e.rep - 1).toNat, by omega⟩
 have hk8 : k < 8 := by omega
 have ekn : (e.rep - 1).toNat = k := by omega
 have egv : Ht e.dep ((k : Int) + 1) = e.dep k := by
  have e1 : ((k : Int) + 1 - 1).toNat = k := by omega
  simp [Ht, e1]; omega
 have hdk := hdep k hk8;by_cases r5 : e.dep k + 1 = e.seq;rotate_left
 · have eb := Ge (e := e) fun h => by have := h.2.2.2.2.1; rw [ekn] at this; omega
   have hw := Azs hdk (by omega) r5
   (try simp only [Ca, B9, B0, Bz, Bx, Bw, Bv, Bu]); simp (maxSteps := 10000000) (disch := omega) only [ir83, Dc, Fx, Fb, D9, hk, r3, r4, eb, go_sem]
   refine Aa (Pd _ _) ?_
   (try simp only [Ca, B9, B0, Bz, Bx, Bw, Bv, Bu]); simp (maxSteps := 10000000) (disch := omega) only [egv, hw, Fx, eb, go_sem]
 have r5' : (e.dep k : Int) + 1 = (e.seq : Int) := by omega
 (try simp only [Ca, B9, B0, Bz, Bx, Bw, Bv, Bu]); simp (maxSteps := 10000000) (disch := omega) only [ir83, Dc, Fx, Fb, D9, hk, r3, r4, go_sem]
 refine Aa (Pd _ _) ?_
 (try simp only [Ca, B9, B0, Bz, Bx, Bw, Bv, Bu]); simp (maxSteps := 10000000) (disch := omega) only [egv, r5', Fx, go_sem]
 refine A1 Ag (Aac e) (fun k => k ≤ 8 ∧ ∀ i, i < k → e.dep i ≤ 1048576) (fun k => 8 - k) 0 (by simp) (Ak ?_ ?_) fun j hj => ?_
 · (try simp only [Ca, B9, B0, Bz, Bx, Bw, Bv, Bu]); simp (maxSteps := 10000000) (disch := omega) only [go_sem]
 · (try simp only [Ca, B9, B0, Bz, Bx, Bw, Bv, Bu]); simp (maxSteps := 10000000) (disch := omega) only [go_sem]
 obtain ⟨hj1, hj2⟩ := hj;by_cases hlt : j < 8
 · by_cases hd : 1048576 < (e.dep j : Int)
   · have eb := Ajh (e := e) fun h => by have := h j hlt; omega
     (try simp only [Ca, B9, B0, Bz, Bx, Bw, Bv, Bu]); simp (maxSteps := 10000000) (disch := omega) only [Aac, H0, hd, eb, go_sem]
   · (try simp only [Ca, B9, B0, Bz, Bx, Bw, Bv, Bu]); simp (maxSteps := 10000000) (disch := omega) only [Aac, H0, hd, go_sem]
     refine Ad (j + 1) _ _ rfl ⟨by omega, fun i hi => ?_⟩ (by omega) ?_ ?_
     · by_cases e : i = j
       · subst e; omega
       · exact hj2 i (by omega)
     · (try simp only [Ca, B9, B0, Bz, Bx, Bw, Bv, Bu]); simp (maxSteps := 10000000) (disch := omega) only [go_sem]
     · (try simp only [Ca, B9, B0, Bz, Bx, Bw, Bv, Bu]); simp (maxSteps := 10000000) (disch := omega) only [go_sem]
 obtain rfl : j = 8 := by omega
 have hD : Om e := hj2
 (try simp only [Ca, B9, B0, Bz, Bx, Bw, Bv, Bu]); simp (maxSteps := 10000000) (disch := omega) only [Aac, Ac, go_sem]
 refine Aa (Kl _ _ _) ?_
 (try simp only [Ca, B9, B0, Bz, Bx, Bw, Bv, Bu]); simp (maxSteps := 10000000) (disch := omega) only [Ac, go_sem]
 refine Aa (A2 _ _) ?_;by_cases hz' : Cj e.drep e.dseq = false
 all_goals first
  | (have hpl : C6 e = Bh e.dep e.drep e.dseq := by simp only [C6, hz', Bool.false_or]
     (try simp only [Ca, B9, B0, Bz, Bx, Bw, Bv, Bu]); simp (maxSteps := 10000000) (disch := omega) only [hz', go_sem]
     refine Aa (Kl _ _ _) ?_)
  | (have hz : Cj e.drep e.dseq = true := by simpa using hz'
     have hpl : C6 e = true := by simp only [C6, hz, Bool.true_or]
     (try simp only [Ca, B9, B0, Bz, Bx, Bw, Bv, Bu]); simp (maxSteps := 10000000) (disch := omega) only [hz, go_sem])
 all_goals by_cases hgl0 : (e.gone.l.length : Int) ≤ 8
 all_goals first
  | (have hgl : Eh e.gone.l 8 e.dep = G5 e.dep e.gone.l := by simp only [Eh, hgl0, decide_true, Bool.true_and]
     (try simp only [Ca, B9, B0, Bz, Bx, Bw, Bv, Bu]); simp (maxSteps := 10000000) (disch := omega) only [hgl0, go_sem]
     refine Aa (Api (l := e.gone.l) hg hgn) ?_
     (try simp only [Ca, B9, B0, Bz, Bx, Bw, Bv, Bu]); simp (maxSteps := 10000000) (disch := omega) only [hgl0, go_sem])
  | (have hgl : Eh e.gone.l 8 e.dep = false := by simp only [Eh, hgl0, decide_false, Bool.false_and]
     (try simp only [Ca, B9, B0, Bz, Bx, Bw, Bv, Bu]); simp (maxSteps := 10000000) (disch := omega) only [hgl0, go_sem])
 all_goals refine Aa (Api (l := e.base.l) hb hbn) ?_
 all_goals by_cases ho1 : 0 ≤ e.off
 rotate_left
 all_goals by_cases ho2 : e.off ≤ 200
 all_goals try (exfalso; omega)
 all_goals first
  | (have hso : Cw e.off = true := decide_eq_true ⟨ho1, ho2⟩
     (try simp only [Ca, B9, B0, Bz, Bx, Bw, Bv, Bu]); simp (maxSteps := 10000000) (disch := omega) only [hgl0, ho1, ho2, go_sem])
  | (have hso : Cw e.off = false := decide_eq_false (by omega)
     (try simp only [Ca, B9, B0, Bz, Bx, Bw, Bv, Bu]); simp (maxSteps := 10000000) (disch := omega) only [hgl0, ho1, ho2, go_sem])
 all_goals
  by_cases hkr : 1 ≤ e.kind ∧ e.kind ≤ 9;rotate_left
  · have eb := Ge (e := e) fun h => by have := h.2.2.2.2.2; omega
    have hn1 : ¬ e.kind = 1 := by omega
    have hn2 : ¬ e.kind = 2 := by omega
    have hn3 : ¬ e.kind = 3 := by omega
    have hn4 : ¬ e.kind = 4 := by omega
    have hn5 : ¬ e.kind = 5 := by omega
    have hn6 : ¬ e.kind = 6 := by omega
    have hn7 : ¬ e.kind = 7 := by omega
    have hn8 : ¬ e.kind = 8 := by omega
    have hn9 : ¬ e.kind = 9 := by omega
    (try simp only [Ca, B9, B0, Bz, Bx, Bw, Bv, Bu]); simp (maxSteps := 10000000) (disch := omega) only [Ac, hn1, hn2, hn3, hn4, hn5, hn6, hn7, hn8, hn9, eb, go_sem]
  have hB : Iq e := ⟨by omega, by omega, by omega, by omega, by rw [ekn]; omega, by omega, by omega⟩
  have hkk : e.kind = 1 ∨ e.kind = 2 ∨ e.kind = 3 ∨ e.kind = 4 ∨ e.kind = 5 ∨ e.kind = 6 ∨ e.kind = 7 ∨ e.kind = 8 ∨ e.kind = 9 := by omega
  rcases hkk with hki | hki | hki | hki | hki | hki | hki | hki | hki
  · have ez := Ax8 hB hD hki;by_cases s0' : C6 e = false
    · first
       | exact absurd (hpl.symm.trans s0') (by decide)
       | (have s0b := hpl.symm.trans s0'
          simp only [s0', decide_true, decide_false, Bool.true_and, Bool.false_and, Bool.and_true, Bool.and_false, Bool.and_self, Bool.not_true, Bool.not_false] at ez
          (try simp only [Ca, B9, B0, Bz, Bx, Bw, Bv, Bu]); simp (maxSteps := 10000000) (disch := omega) only [Ac, hki, s0b, ez, go_sem])
    have s0 : C6 e = true := by simpa using s0'
    have s0b := hpl.symm.trans s0
    first
     | exact absurd s0b (by decide)
     | ((try simp only [Ca, B9, B0, Bz, Bx, Bw, Bv, Bu]); simp (maxSteps := 10000000) (disch := omega) only [Ac, hki, s0b, go_sem]
        refine Aa (Aar _) ?_;by_cases s1' : Dg e.name = false
        · simp only [s0, s1', decide_true, decide_false, Bool.true_and, Bool.false_and, Bool.and_true, Bool.and_false, Bool.and_self, Bool.not_true, Bool.not_false] at ez
          (try simp only [Ca, B9, B0, Bz, Bx, Bw, Bv, Bu]); simp (maxSteps := 10000000) (disch := omega) only [Ac, s0b, s1', ez, go_sem]
        have s1 : Dg e.name = true := by simpa using s1'
        (try simp only [Ca, B9, B0, Bz, Bx, Bw, Bv, Bu]); simp (maxSteps := 10000000) (disch := omega) only [Ac, s0b, s1, go_sem]
        refine Aa (Aij e) ?_;simp only [s0, s1, decide_true, decide_false, Bool.true_and, Bool.false_and, Bool.and_true, Bool.and_false, Bool.and_self, Bool.not_true, Bool.not_false] at ez
        (try simp only [Ca, B9, B0, Bz, Bx, Bw, Bv, Bu]); simp (maxSteps := 10000000) (disch := omega) only [s0b, s1, ez, go_sem])
  · have ez := Ax7 hB hD hki;by_cases s0' : C6 e = false
    · first
       | exact absurd (hpl.symm.trans s0') (by decide)
       | (have s0b := hpl.symm.trans s0'
          simp only [s0', decide_true, decide_false, Bool.true_and, Bool.false_and, Bool.and_true, Bool.and_false, Bool.and_self, Bool.not_true, Bool.not_false] at ez
          (try simp only [Ca, B9, B0, Bz, Bx, Bw, Bv, Bu]); simp (maxSteps := 10000000) (disch := omega) only [Ac, hki, s0b, ez, go_sem])
    have s0 : C6 e = true := by simpa using s0'
    have s0b := hpl.symm.trans s0
    first
     | exact absurd s0b (by decide)
     | ((try simp only [Ca, B9, B0, Bz, Bx, Bw, Bv, Bu]); simp (maxSteps := 10000000) (disch := omega) only [Ac, hki, s0b, go_sem]
        refine Aa (Aar _) ?_;by_cases s1' : Dg e.name = false
        · simp only [s0, s1', decide_true, decide_false, Bool.true_and, Bool.false_and, Bool.and_true, Bool.and_false, Bool.and_self, Bool.not_true, Bool.not_false] at ez
          (try simp only [Ca, B9, B0, Bz, Bx, Bw, Bv, Bu]); simp (maxSteps := 10000000) (disch := omega) only [Ac, s0b, s1', ez, go_sem]
        have s1 : Dg e.name = true := by simpa using s1'
        (try simp only [Ca, B9, B0, Bz, Bx, Bw, Bv, Bu]); simp (maxSteps := 10000000) (disch := omega) only [Ac, s0b, s1, go_sem]
        refine Aa (Aij e) ?_;simp only [s0, s1, decide_true, decide_false, Bool.true_and, Bool.false_and, Bool.and_true, Bool.and_false, Bool.and_self, Bool.not_true, Bool.not_false] at ez
        (try simp only [Ca, B9, B0, Bz, Bx, Bw, Bv, Bu]); simp (maxSteps := 10000000) (disch := omega) only [s0b, s1, ez, go_sem])
  · have ez := Ax6 hB hD hki;by_cases s0' : Bh e.dep e.orep e.oseq = false
    · simp only [s0', decide_true, decide_false, Bool.true_and, Bool.false_and, Bool.and_true, Bool.and_false, Bool.and_self, Bool.not_true, Bool.not_false] at ez
      (try simp only [Ca, B9, B0, Bz, Bx, Bw, Bv, Bu]); simp (maxSteps := 10000000) (disch := omega) only [Ac, hki, s0', ez, go_sem]
    have s0 : Bh e.dep e.orep e.oseq = true := by simpa using s0'
    by_cases s1' : G5 e.dep e.base.l = false
    · simp only [s0, s1', decide_true, decide_false, Bool.true_and, Bool.false_and, Bool.and_true, Bool.and_false, Bool.and_self, Bool.not_true, Bool.not_false] at ez
      (try simp only [Ca, B9, B0, Bz, Bx, Bw, Bv, Bu]); simp (maxSteps := 10000000) (disch := omega) only [Ac, hki, s0, s1', ez, go_sem]
    have s1 : G5 e.dep e.base.l = true := by simpa using s1'
    by_cases s2 : (e.base.l.length : Int) ≤ 1;rotate_left
    · simp only [s0, s1, s2, decide_true, decide_false, Bool.true_and, Bool.false_and, Bool.and_true, Bool.and_false, Bool.and_self, Bool.not_true, Bool.not_false] at ez
      (try simp only [Ca, B9, B0, Bz, Bx, Bw, Bv, Bu]); simp (maxSteps := 10000000) (disch := omega) only [Ac, hki, s0, s1, s2, ez, go_sem]
    by_cases s3' : Cw e.off = false
    · first
       | exact absurd (hso.symm.trans s3') (by decide)
       | (have s3b := hso.symm.trans s3'
          simp only [s0, s1, s2, s3', decide_true, decide_false, Bool.true_and, Bool.false_and, Bool.and_true, Bool.and_false, Bool.and_self, Bool.not_true, Bool.not_false] at ez
          (try simp only [Ca, B9, B0, Bz, Bx, Bw, Bv, Bu]); simp (maxSteps := 10000000) (disch := omega) only [Ac, hki, s0, s1, s2, s3b, ez, go_sem])
    have s3 : Cw e.off = true := by simpa using s3'
    have s3b := hso.symm.trans s3
    first
     | exact absurd s3b (by decide)
     | (by_cases s4 : e.data = []
        · simp only [s0, s1, s2, s3, s4, decide_true, decide_false, Bool.true_and, Bool.false_and, Bool.and_true, Bool.and_false, Bool.and_self, Bool.not_true, Bool.not_false] at ez
          (try simp only [Ca, B9, B0, Bz, Bx, Bw, Bv, Bu]); simp (maxSteps := 10000000) (disch := omega) only [Ac, hki, s0, s1, s2, s4, ez, go_sem]
        by_cases s5 : (e.data.length : Int) ≤ 200 - e.off;rotate_left
        · simp only [s0, s1, s2, s3, s4, s5, decide_true, decide_false, Bool.true_and, Bool.false_and, Bool.and_true, Bool.and_false, Bool.and_self, Bool.not_true, Bool.not_false] at ez
          (try simp only [Ca, B9, B0, Bz, Bx, Bw, Bv, Bu]); simp (maxSteps := 10000000) (disch := omega) only [Ac, hki, s0, s1, s2, s4, s5, ez, go_sem]
        (try simp only [Ca, B9, B0, Bz, Bx, Bw, Bv, Bu]); simp (maxSteps := 10000000) (disch := omega) only [Ac, hki, s0, s1, s2, s4, s5, go_sem]
        refine Aa (Af1 e) ?_;simp only [s0, s1, s2, s3, s4, s5, decide_true, decide_false, Bool.true_and, Bool.false_and, Bool.and_true, Bool.and_false, Bool.and_self, Bool.not_true, Bool.not_false] at ez
        (try simp only [Ca, B9, B0, Bz, Bx, Bw, Bv, Bu]); simp (maxSteps := 10000000) (disch := omega) only [s0, s1, s2, s4, s5, ez, go_sem])
  · have ez := Ax5 hB hD hki;by_cases s0' : Bh e.dep e.orep e.oseq = false
    · simp only [s0', decide_true, decide_false, Bool.true_and, Bool.false_and, Bool.and_true, Bool.and_false, Bool.and_self, Bool.not_true, Bool.not_false] at ez
      (try simp only [Ca, B9, B0, Bz, Bx, Bw, Bv, Bu]); simp (maxSteps := 10000000) (disch := omega) only [Ac, hki, s0', ez, go_sem]
    have s0 : Bh e.dep e.orep e.oseq = true := by simpa using s0'
    by_cases s1' : G5 e.dep e.base.l = false
    · simp only [s0, s1', decide_true, decide_false, Bool.true_and, Bool.false_and, Bool.and_true, Bool.and_false, Bool.and_self, Bool.not_true, Bool.not_false] at ez
      (try simp only [Ca, B9, B0, Bz, Bx, Bw, Bv, Bu]); simp (maxSteps := 10000000) (disch := omega) only [Ac, hki, s0, s1', ez, go_sem]
    have s1 : G5 e.dep e.base.l = true := by simpa using s1'
    by_cases s2 : (e.base.l.length : Int) ≤ 1;rotate_left
    · simp only [s0, s1, s2, decide_true, decide_false, Bool.true_and, Bool.false_and, Bool.and_true, Bool.and_false, Bool.and_self, Bool.not_true, Bool.not_false] at ez
      (try simp only [Ca, B9, B0, Bz, Bx, Bw, Bv, Bu]); simp (maxSteps := 10000000) (disch := omega) only [Ac, hki, s0, s1, s2, ez, go_sem]
    by_cases s3' : Cw e.off = false
    · first
       | exact absurd (hso.symm.trans s3') (by decide)
       | (have s3b := hso.symm.trans s3'
          simp only [s0, s1, s2, s3', decide_true, decide_false, Bool.true_and, Bool.false_and, Bool.and_true, Bool.and_false, Bool.and_self, Bool.not_true, Bool.not_false] at ez
          (try simp only [Ca, B9, B0, Bz, Bx, Bw, Bv, Bu]); simp (maxSteps := 10000000) (disch := omega) only [Ac, hki, s0, s1, s2, s3b, ez, go_sem])
    have s3 : Cw e.off = true := by simpa using s3'
    have s3b := hso.symm.trans s3
    first
     | exact absurd s3b (by decide)
     | ((try simp only [Ca, B9, B0, Bz, Bx, Bw, Bv, Bu]); simp (maxSteps := 10000000) (disch := omega) only [Ac, hki, s0, s1, s2, go_sem]
        refine Aa (Aki e) ?_;simp only [s0, s1, s2, s3, decide_true, decide_false, Bool.true_and, Bool.false_and, Bool.and_true, Bool.and_false, Bool.and_self, Bool.not_true, Bool.not_false] at ez
        (try simp only [Ca, B9, B0, Bz, Bx, Bw, Bv, Bu]); simp (maxSteps := 10000000) (disch := omega) only [s0, s1, s2, ez, go_sem])
  · have ez := Ax4 hB hD hki;by_cases s0' : Bh e.dep e.orep e.oseq = false
    · simp only [s0', decide_true, decide_false, Bool.true_and, Bool.false_and, Bool.and_true, Bool.and_false, Bool.and_self, Bool.not_true, Bool.not_false] at ez
      (try simp only [Ca, B9, B0, Bz, Bx, Bw, Bv, Bu]); simp (maxSteps := 10000000) (disch := omega) only [Ac, hki, s0', ez, go_sem]
    have s0 : Bh e.dep e.orep e.oseq = true := by simpa using s0'
    by_cases s1' : G5 e.dep e.base.l = false
    · simp only [s0, s1', decide_true, decide_false, Bool.true_and, Bool.false_and, Bool.and_true, Bool.and_false, Bool.and_self, Bool.not_true, Bool.not_false] at ez
      (try simp only [Ca, B9, B0, Bz, Bx, Bw, Bv, Bu]); simp (maxSteps := 10000000) (disch := omega) only [Ac, hki, s0, s1', ez, go_sem]
    have s1 : G5 e.dep e.base.l = true := by simpa using s1'
    by_cases s2 : (2 : Int) ≤ (e.base.l.length : Int);rotate_left
    · simp only [s0, s1, s2, decide_true, decide_false, Bool.true_and, Bool.false_and, Bool.and_true, Bool.and_false, Bool.and_self, Bool.not_true, Bool.not_false] at ez
      (try simp only [Ca, B9, B0, Bz, Bx, Bw, Bv, Bu]); simp (maxSteps := 10000000) (disch := omega) only [Ac, hki, s0, s1, s2, ez, go_sem]
    by_cases s3 : (e.base.l.length : Int) ≤ 8;rotate_left
    · simp only [s0, s1, s2, s3, decide_true, decide_false, Bool.true_and, Bool.false_and, Bool.and_true, Bool.and_false, Bool.and_self, Bool.not_true, Bool.not_false] at ez
      (try simp only [Ca, B9, B0, Bz, Bx, Bw, Bv, Bu]); simp (maxSteps := 10000000) (disch := omega) only [Ac, hki, s0, s1, s2, s3, ez, go_sem]
    by_cases s4 : (e.data.length : Int) ≤ 200;rotate_left
    · simp only [s0, s1, s2, s3, s4, decide_true, decide_false, Bool.true_and, Bool.false_and, Bool.and_true, Bool.and_false, Bool.and_self, Bool.not_true, Bool.not_false] at ez
      (try simp only [Ca, B9, B0, Bz, Bx, Bw, Bv, Bu]); simp (maxSteps := 10000000) (disch := omega) only [Ac, hki, s0, s1, s2, s3, s4, ez, go_sem]
    (try simp only [Ca, B9, B0, Bz, Bx, Bw, Bv, Bu]); simp (maxSteps := 10000000) (disch := omega) only [Ac, hki, s0, s1, s2, s3, s4, go_sem]
    refine Aa (Akj e) ?_;simp only [s0, s1, s2, s3, s4, decide_true, decide_false, Bool.true_and, Bool.false_and, Bool.and_true, Bool.and_false, Bool.and_self, Bool.not_true, Bool.not_false] at ez
    (try simp only [Ca, B9, B0, Bz, Bx, Bw, Bv, Bu]); simp (maxSteps := 10000000) (disch := omega) only [s0, s1, s2, s3, s4, ez, go_sem]
  · have ez := Ax3 hB hD hki;by_cases s0' : Bh e.dep e.orep e.oseq = false
    · simp only [s0', decide_true, decide_false, Bool.true_and, Bool.false_and, Bool.and_true, Bool.and_false, Bool.and_self, Bool.not_true, Bool.not_false] at ez
      (try simp only [Ca, B9, B0, Bz, Bx, Bw, Bv, Bu]); simp (maxSteps := 10000000) (disch := omega) only [Ac, hki, s0', ez, go_sem]
    have s0 : Bh e.dep e.orep e.oseq = true := by simpa using s0'
    by_cases s1' : Eh e.gone.l 8 e.dep = false
    · first
       | exact absurd (hgl.symm.trans s1') (by decide)
       | (have s1b := hgl.symm.trans s1'
          simp only [s0, s1', decide_true, decide_false, Bool.true_and, Bool.false_and, Bool.and_true, Bool.and_false, Bool.and_self, Bool.not_true, Bool.not_false] at ez
          (try simp only [Ca, B9, B0, Bz, Bx, Bw, Bv, Bu]); simp (maxSteps := 10000000) (disch := omega) only [Ac, hki, s0, s1b, ez, go_sem])
    have s1 : Eh e.gone.l 8 e.dep = true := by simpa using s1'
    have s1b := hgl.symm.trans s1
    first
     | exact absurd s1b (by decide)
     | ((try simp only [Ca, B9, B0, Bz, Bx, Bw, Bv, Bu]); simp (maxSteps := 10000000) (disch := omega) only [Ac, hki, s0, s1b, go_sem]
        refine Aa (Apk e) ?_;simp only [s0, s1, decide_true, decide_false, Bool.true_and, Bool.false_and, Bool.and_true, Bool.and_false, Bool.and_self, Bool.not_true, Bool.not_false] at ez
        (try simp only [Ca, B9, B0, Bz, Bx, Bw, Bv, Bu]); simp (maxSteps := 10000000) (disch := omega) only [s0, s1b, ez, go_sem])
  · have ez := Ax2 hB hD hki;by_cases s0' : Bh e.dep e.orep e.oseq = false
    · simp only [s0', decide_true, decide_false, Bool.true_and, Bool.false_and, Bool.and_true, Bool.and_false, Bool.and_self, Bool.not_true, Bool.not_false] at ez
      (try simp only [Ca, B9, B0, Bz, Bx, Bw, Bv, Bu]); simp (maxSteps := 10000000) (disch := omega) only [Ac, hki, s0', ez, go_sem]
    have s0 : Bh e.dep e.orep e.oseq = true := by simpa using s0'
    by_cases s1' : Eh e.gone.l 8 e.dep = false
    · first
       | exact absurd (hgl.symm.trans s1') (by decide)
       | (have s1b := hgl.symm.trans s1'
          simp only [s0, s1', decide_true, decide_false, Bool.true_and, Bool.false_and, Bool.and_true, Bool.and_false, Bool.and_self, Bool.not_true, Bool.not_false] at ez
          (try simp only [Ca, B9, B0, Bz, Bx, Bw, Bv, Bu]); simp (maxSteps := 10000000) (disch := omega) only [Ac, hki, s0, s1b, ez, go_sem])
    have s1 : Eh e.gone.l 8 e.dep = true := by simpa using s1'
    have s1b := hgl.symm.trans s1
    first
     | exact absurd s1b (by decide)
     | (by_cases s2' : C6 e = false
        · first
           | exact absurd (hpl.symm.trans s2') (by decide)
           | (have s2b := hpl.symm.trans s2'
              simp only [s0, s1, s2', decide_true, decide_false, Bool.true_and, Bool.false_and, Bool.and_true, Bool.and_false, Bool.and_self, Bool.not_true, Bool.not_false] at ez
              (try simp only [Ca, B9, B0, Bz, Bx, Bw, Bv, Bu]); simp (maxSteps := 10000000) (disch := omega) only [Ac, hki, s0, s1b, s2b, ez, go_sem])
        have s2 : C6 e = true := by simpa using s2'
        have s2b := hpl.symm.trans s2
        first
         | exact absurd s2b (by decide)
         | ((try simp only [Ca, B9, B0, Bz, Bx, Bw, Bv, Bu]); simp (maxSteps := 10000000) (disch := omega) only [Ac, hki, s0, s1b, s2b, go_sem]
            refine Aa (Aar _) ?_;by_cases s3' : Dg e.name = false
            · simp only [s0, s1, s2, s3', decide_true, decide_false, Bool.true_and, Bool.false_and, Bool.and_true, Bool.and_false, Bool.and_self, Bool.not_true, Bool.not_false] at ez
              (try simp only [Ca, B9, B0, Bz, Bx, Bw, Bv, Bu]); simp (maxSteps := 10000000) (disch := omega) only [Ac, s0, s1b, s2b, s3', ez, go_sem]
            have s3 : Dg e.name = true := by simpa using s3'
            (try simp only [Ca, B9, B0, Bz, Bx, Bw, Bv, Bu]); simp (maxSteps := 10000000) (disch := omega) only [Ac, s0, s1b, s2b, s3, go_sem]
            refine Aa (Akh e) ?_;simp only [s0, s1, s2, s3, decide_true, decide_false, Bool.true_and, Bool.false_and, Bool.and_true, Bool.and_false, Bool.and_self, Bool.not_true, Bool.not_false] at ez
            (try simp only [Ca, B9, B0, Bz, Bx, Bw, Bv, Bu]); simp (maxSteps := 10000000) (disch := omega) only [s0, s1b, s2b, s3, ez, go_sem]))
  · have ez := Ax1 hB hD hki;by_cases s0 : 1 ≤ e.ward;rotate_left
    · simp only [s0, decide_true, decide_false, Bool.true_and, Bool.false_and, Bool.and_true, Bool.and_false, Bool.and_self, Bool.not_true, Bool.not_false] at ez
      (try simp only [Ca, B9, B0, Bz, Bx, Bw, Bv, Bu]); simp (maxSteps := 10000000) (disch := omega) only [Ac, hki, s0, ez, go_sem]
    by_cases s1 : e.ward ≤ 4;rotate_left
    · simp only [s0, s1, decide_true, decide_false, Bool.true_and, Bool.false_and, Bool.and_true, Bool.and_false, Bool.and_self, Bool.not_true, Bool.not_false] at ez
      (try simp only [Ca, B9, B0, Bz, Bx, Bw, Bv, Bu]); simp (maxSteps := 10000000) (disch := omega) only [Ac, hki, s0, s1, ez, go_sem]
    (try simp only [Ca, B9, B0, Bz, Bx, Bw, Bv, Bu]); simp (maxSteps := 10000000) (disch := omega) only [Ac, hki, s0, s1, go_sem]
    refine Aa (Avu e) ?_;simp only [s0, s1, decide_true, decide_false, Bool.true_and, Bool.false_and, Bool.and_true, Bool.and_false, Bool.and_self, Bool.not_true, Bool.not_false] at ez
    (try simp only [Ca, B9, B0, Bz, Bx, Bw, Bv, Bu]); simp (maxSteps := 10000000) (disch := omega) only [s0, s1, ez, go_sem]
  · have ez := Ax0 hB hD hki
    (try simp only [Ca, B9, B0, Bz, Bx, Bw, Bv, Bu]); simp (maxSteps := 10000000) (disch := omega) only [Ac, hki, go_sem]
    refine Aa (Avv e) ?_;simp only [decide_true, decide_false, Bool.true_and, Bool.false_and, Bool.and_true, Bool.and_false, Bool.and_self, Bool.not_true, Bool.not_false] at ez
    (try simp only [Ca, B9, B0, Bz, Bx, Bw, Bv, Bu]); simp (maxSteps := 10000000) (disch := omega) only [ez, go_sem]
end Go.Proofs.YthmjebkldgdeiaaGreat.Fw
namespace Go.Proofs.YthmjebkldgdeiaaGreat.Fw
open Go.RowKit Go.Proofs
def zs (n : Nat) : List UInt8 := List.replicate n 0
theorem Rp (n : Nat) : (zs n).length = n := by simp [zs]
theorem Ahs (n : Nat) : zs (n + 1) = zs n ++ [0] := by simp [zs, List.replicate_succ']
theorem Azi : zs 0 = [] := rfl
theorem A5g (l : List UInt8) : Bg l ++ [[.i .u8 0]] = Bg (l ++ [0]) := by
 rw [← Tx]; rfl
def Z2 (n : Int) (k : Nat) : FS := mk [(4, .pv (.i .i64 k)), (3, .pv (.s (zs k))), (0, .pv (.i .i64 n))] []
theorem Aig (n : Int) (hn : n ≤ 1000) {h d} : FunOk Tryz.prog 165 [.pv (.i .i64 n)] h d (.pv (.s (zs n.toNat))) [] := by
 refine Ap Ag fn165 (by simp) rfl rfl fun F => ?_;simp (disch := omega) only [ir165, go_sem];refine A1 Ag (Z2 n) (fun k => k ≤ n.toNat) (fun k => n.toNat - k) 0 (by omega) (Ak ?_ ?_) fun k hk => ?_
 · simp (disch := omega) only [Azi, go_sem]
 · simp (disch := omega) only [go_sem]
 have hl := Rp k;by_cases hlt : (k : Int) < n
 · simp (disch := omega) only [Z2, hl, go_sem];refine Ad (k + 1) _ _ rfl (by omega) (by omega) ?_ ?_
   · simp (disch := omega) only [Ahs, go_sem]
   · simp (disch := omega) only [go_sem]
 · obtain rfl : k = n.toNat := by omega
   simp (disch := omega) only [Z2, go_sem]
def Iw (data : List UInt8) (o : Nat) (s : List UInt8) : List UInt8 :=
 (data ++ zs (o + s.length - data.length)).take o ++ s ++ (data ++ zs (o + s.length - data.length)).drop (o + s.length)
def D5 (data : List UInt8) (off : Int) (s : List UInt8) : Prop := off < 0 ∨ 200 < off ∨ 200 < (data.length : Int) ∨ 200 - off < s.length
open Classical in
noncomputable def Mt (data : List UInt8) (off : Int) (s : List UInt8) : SV := if D5 data off s then .tup [.pv (.s []), .pv (.i .i64 4)] else .tup [.pv (.s (Iw data off.toNat s)), .pv (.i .i64 0)]
theorem Ek {data off s} (h : D5 data off s) : Mt data off s = .tup [.pv (.s []), .pv (.i .i64 4)] := by unfold Mt; rw [if_pos h]
theorem Jf {data off s} (h : ¬ D5 data off s) : Mt data off s = .tup [.pv (.s (Iw data off.toNat s)), .pv (.i .i64 0)] := by unfold Mt; rw [if_neg h]
def Z3 (data s : List UInt8) (o k : Nat) : FS := mk [(8, .os 60), (2, .pv (.s s)), (1, .pv (.i .i64 o))] [(60, some (.row 1 (Bg (data ++ zs k))))]
set_option maxHeartbeats 2000000 in
theorem Aih (data s : List UInt8) (off : Int) {h d} : FunOk Tryz.prog 161 [.pv (.s data), .pv (.i .i64 off), .pv (.s s)] h d (Mt data off s) [] := by
 refine Ap Ag fn161 (by simp) rfl (by unfold Mt; split <;> rfl) fun F => ?_;by_cases h1 : off < 0
 · rw [Ek (.inl h1)];simp (disch := omega) only [ir161, go_sem]
 by_cases h2 : 200 < off
 · rw [Ek (.inr (.inl h2))];simp (disch := omega) only [ir161, go_sem]
 by_cases h3 : 200 < (data.length : Int)
 · rw [Ek (.inr (.inr (.inl h3)))];simp (disch := omega) only [ir161, go_sem]
 by_cases h4 : 200 - off < (s.length : Int)
 · rw [Ek (.inr (.inr (.inr h4)))];simp (disch := omega) only [ir161, go_sem]
 have hok : ¬ D5 data off s := by unfold D5; omega
 obtain ⟨o, rfl⟩ : ∃ o : Nat, off = o := ⟨off.toNat, by omega⟩
 rw [Jf hok];simp (disch := omega) only [ir161, go_sem];refine A1 Ag (Z3 data s o) (fun k => k ≤ o + s.length - data.length) (fun k => o + s.length - data.length - k) 0 (by omega) (D2 28 60 (by decide) rfl (Ak ?_ ?_)) fun k hk => ?_
 · simp (disch := omega) only [go_sem]
 · simp (disch := omega) only [Azi, go_sem]
 have hl : (data ++ zs k).length = data.length + k := by simp [zs]
 by_cases hlt : data.length + k < o + s.length
 · simp (disch := omega) only [Z3, hl, A5g, go_sem];refine ⟨k + 1, by omega, by omega, D2 38 60 (by decide) rfl (Ak ?_ ?_)⟩
   · simp (disch := omega) only [go_sem]
   · simp (disch := omega) only [Ahs, List.append_assoc, go_sem]
 · obtain rfl : k = o + s.length - data.length := by omega
   have hp : Iw data o s = (data ++ zs (o + s.length - data.length)).take o ++ s ++ (data ++ zs (o + s.length - data.length)).drop (o + s.length) := rfl;generalize hX : data ++ zs (o + s.length - data.length) = X at *;have hle : o + s.length ≤ X.length := by omega
   have e1 : min s.length (X.length - o) = s.length := by omega
   have e2 : s.take (X.length - o) = s := List.take_of_length_le (by omega);simp (disch := omega) only [Z3, hX, e1, e2, hp, go_sem]
set_option maxHeartbeats 2000000 in
theorem Ac9 (data s : List UInt8) (off : Int) (hs : s.length ≤ 1000) {h d} : FunOk Tryz.prog 149 [.pv (.s data), .pv (.i .i64 off), .pv (.s s)] h d (Mt data off s) [] := by
 refine Ap Ag fn149 (by simp) rfl (by unfold Mt; split <;> rfl) fun F => ?_;by_cases h1 : off < 0
 · rw [Ek (.inl h1)];simp (disch := omega) only [ir149, go_sem]
 by_cases h2 : 200 < off
 · rw [Ek (.inr (.inl h2))];simp (disch := omega) only [ir149, go_sem]
 by_cases h3 : 200 < (data.length : Int)
 · rw [Ek (.inr (.inr (.inl h3)))];simp (disch := omega) only [ir149, go_sem]
 by_cases h4 : 200 < off + (s.length : Int)
 · rw [Ek (.inr (.inr (.inr (by omega))))];simp (disch := omega) only [ir149, go_sem]
 have hok : ¬ D5 data off s := by unfold D5; omega
 obtain ⟨o, rfl⟩ : ∃ o : Nat, off = o := ⟨off.toNat, by omega⟩
 rw [Jf hok];simp (disch := omega) only [ir149, go_sem];refine Aa (Aig _ (by omega)) ?_;have hp : Iw data o s = (data ++ zs (o + s.length - data.length)).take o ++ s ++ (data ++ zs (o + s.length - data.length)).drop (o + s.length) := rfl;have e1 : ((o : Int) + (s.length : Int) - (data.length : Int)).toNat = o + s.length - data.length := by omega
 have e2 : ((o : Int) + (s.length : Int)).toNat = o + s.length := by omega
 have hl : (data ++ zs (o + s.length - data.length)).length = data.length + (o + s.length - data.length) := by simp [zs]
 have hz := Rp (o + s.length - data.length);rw [e1];generalize hX : data ++ zs (o + s.length - data.length) = X at *;simp (disch := omega) only [hX, e2, hp, List.length_append, List.length_take, List.length_drop, hz, go_sem]
def Oj (data : List UInt8) (n : Nat) : List UInt8 := if n < data.length then data.take n else data ++ zs (n - data.length)
open Classical in
noncomputable def Ts (data : List UInt8) (n : Int) : SV := if n < 0 ∨ 200 < n then .tup [.pv (.s []), .pv (.i .i64 4)] else .tup [.pv (.s (Oj data n.toNat)), .pv (.i .i64 0)]
theorem Ji {data n} (h : n < 0 ∨ 200 < n) : Ts data n = .tup [.pv (.s []), .pv (.i .i64 4)] := by unfold Ts; rw [if_pos h]
theorem La {data n} (h : ¬ (n < 0 ∨ 200 < n)) : Ts data n = .tup [.pv (.s (Oj data n.toNat)), .pv (.i .i64 0)] := by unfold Ts; rw [if_neg h]
theorem A9p (n : Nat) : List.replicate n [PV.i .u8 0] = Bg (zs n) := by simp [zs, Bg]
set_option maxHeartbeats 2000000 in
theorem Ay8 (data : List UInt8) (n : Int) (hd : data.length ≤ 1000) {h d} : FunOk Tryz.prog 160 [.pv (.s data), .pv (.i .i64 n)] h d (Ts data n) [] := by
 refine Ap Ag fn160 (by simp) rfl (by unfold Ts; split <;> rfl) fun F => ?_;by_cases h1 : n < 0
 · rw [Ji (.inl h1)];simp (disch := omega) only [ir160, go_sem]
 by_cases h2 : 200 < n
 · rw [Ji (.inr h2)];simp (disch := omega) only [ir160, go_sem]
 rw [La (by omega)];obtain ⟨o, rfl⟩ : ∃ o : Nat, n = o := ⟨n.toNat, by omega⟩
 by_cases hlt : o < data.length
 · have e : Oj data o = data.take o := by unfold Oj; rw [if_pos hlt]
   simp (disch := omega) only [ir160, e, go_sem]
 · have e : Oj data o = data ++ zs (o - data.length) := by unfold Oj; rw [if_neg hlt]
   have e1 : ((o : Int) - (data.length : Int)).toNat = o - data.length := by omega
   have hz := Rp (o - data.length);simp (disch := omega) only [ir160, e, e1, A9p, hz, go_sem]
set_option maxHeartbeats 2000000 in
theorem Ap1 (data : List UInt8) (n : Int) (hd : data.length ≤ 1000) {h d} : FunOk Tryz.prog 148 [.pv (.s data), .pv (.i .i64 n)] h d (Ts data n) [] := by
 refine Ap Ag fn148 (by simp) rfl (by unfold Ts; split <;> rfl) fun F => ?_;by_cases h1 : n < 0
 · rw [Ji (.inl h1)];simp (disch := omega) only [ir148, go_sem]
 by_cases h2 : 200 < n
 · rw [Ji (.inr h2)];simp (disch := omega) only [ir148, go_sem]
 rw [La (by omega)];obtain ⟨o, rfl⟩ : ∃ o : Nat, n = o := ⟨n.toNat, by omega⟩
 have hz := Rp (o - data.length);have e1 : ((o : Int) - (data.length : Int)).toNat = o - data.length := by omega
 have e : (data ++ zs (o - data.length)).take o = Oj data o := by
  unfold Oj;split
  · rw [show o - data.length = 0 by omega, Azi, List.append_nil]
  · exact List.take_of_length_le (by simp [zs]; omega)
 simp (disch := omega) only [ir148, go_sem];refine Aa (Aig _ (by omega)) ?_;simp (disch := omega) only [e1, e, hz, List.length_append, go_sem]
theorem A5u {m n lo hi : Nat} {es fs : List (List PV)} {h} (hm : h m = some (.row 11 fs)) (hn : h n = some (.row 11 es)) (hne : m ≠ n) (hfs : fs ≠ []) (hes : es ≠ []) (hlt : lo < hi) : Zs Tryz.prog 173 [.os m, .ov n 11 lo hi] h (.pv (.b false)) := by
 intro F N ρ s a w hR hh vs hc;simp only [ConcL] at hc;obtain ⟨v, us, rfl, hv, u, us', rfl, hu, rfl⟩ := hc;have hsm := (hh m (by simp [A6, tn])).trans hm;have hsn := (hh n (by simp [A6, tn])).trans hn;refine ⟨.bool false, ?_, E5⟩;rw [run_callFunc_extern (fn := (Tryz.prog.funcs[173]?).getD default) (by kernel_rfl) (by kernel_rfl) (by kernel_rfl) (by kernel_rfl) (e := Extern.SlicesOverlaps.overlaps #[114, 114] #[4]) (by kernel_rfl)];rw [Jp (tS := 114) (e := 155) (by kernel_rfl) (by kernel_rfl) (by decide) hR hsm hsn hne hfs hes hlt hv hu];rfl
set_option maxHeartbeats 4000000 in
theorem Adb (es : List (List PV)) (cs : List PV) (i : Nat) (hi : i ≤ es.length) (hb : es.length ≤ 1000) (hes : ∀ c ∈ es, c.length = 11) (hcs : cs.length = 11) {h d} (h1 : h 16 = some (.row 11 es)) (h2 : h 55 = some (.row 11 [cs])) : FunOk Tryz.prog 163 [.os 16, .pv (.i .i64 i), .os 55] h d (.os d) [.del 16, .del 55, .new d (.row 11 (es.take i ++ cs :: es.drop i))] := by
 refine Abh Ag fn163 (by simp) rfl fun F => ?_;simp only [C1];by_cases he : i = es.length
 · subst he;have e1 : es.take es.length ++ cs :: es.drop es.length = es ++ [cs] := by simp
   rw [e1];simp (disch := omega) only [ir163, h1, h2, go_sem]
 · have hne : es ≠ [] := by intro e; subst e; simp at hi; exact he (by simpa using hi)
   simp (disch := omega) only [ir163, h1, h2, go_sem];intro c hc;by_cases hcap : c < es.length + 1
   · have hp : ((c : Int) < (es.length : Int) + ((1 : Nat) : Int)) = True := eq_true (by omega);have ek : ((es.length : Int) + ((1 : Nat) : Int) - (i : Int)).toNat = es.length + 1 - i := by omega
     (try simp only [Ca, B9, B0, Bz, Bx, Bw, Bv, Bu]); simp (disch := omega) only [hp, ek, go_sem]
     generalize hT : List.take i es ++ List.replicate (es.length + 1 - i) _ = T;have hTl : T.length = es.length + 1 := by rw [← hT]; simp; omega
     have t1 : T.take i = es.take i := by
      rw [← hT, List.take_append_of_le_length (by simp; omega), List.take_take, Nat.min_self]
     have hi' : (es.take i).length = i := by simp; omega
     have m1 : min 1 (es.length + 1 - i) = 1 := by omega
     have m2 : [cs].take (es.length + 1 - i) = [cs] := List.take_of_length_le (by simp; omega);have hU : (es.take i ++ [cs] ++ T.drop (i + 1)).length = es.length + 1 := by simp [hTl]; omega
     have e1 : ((i : Int) + ((1 : Nat) : Int)).toNat = i + 1 := by omega
     have u1 : (es.take i ++ [cs] ++ T.drop (i + 1)).take (i + 1) = es.take i ++ [cs] := by
      rw [List.take_append_of_le_length (by simp; omega)];exact List.take_of_length_le (by simp; omega)
     have u2 : (es.take es.length).drop i = es.drop i := by rw [List.take_length]
     have u3 : min (es.drop i).length (es.length + 1 - (i + 1)) = es.length - i := by simp
     have u4 : (es.drop i).take (es.length + 1 - (i + 1)) = es.drop i := List.take_of_length_le (by simp);have u5 : (es.take i ++ [cs] ++ T.drop (i + 1)).drop (i + 1 + (es.length - i)) = [] := List.drop_of_length_le (by rw [hU]; omega);have u6 : es.take i ++ cs :: es.drop i = es.take i ++ [cs] ++ es.drop i := by simp
     simp only [hTl, t1, m1, m2, e1, List.length_singleton];simp only [hU, u1, u2, u3, u4, u5, u6, List.append_nil];exact ⟨by omega, by omega, trivial⟩
   · have hp : ((c : Int) < (es.length : Int) + ((1 : Nat) : Int)) = False := eq_false (by omega)
     (try simp only [Ca, B9, B0, Bz, Bx, Bw, Bv, Bu]); simp (disch := omega) only [hp, go_sem]
     intro g hg hgs;have hg1 : g.length = 1 := by omega
     have e1 : ((i : Int) + ((1 : Nat) : Int)).toNat = i + 1 := by omega
     have hE : (es ++ g).length = es.length + 1 := by simp [hg1]
     refine ⟨by omega, ?_⟩;rw [e1];refine Rb (A5u (es := es ++ g) (fs := [cs]) rfl rfl (by decide) (by simp) (by simp [hne]) (by omega)) ?_;have v1 : ((es ++ g).take (es ++ g).length).drop i = (es ++ g).drop i := by rw [List.take_length]
     have v2 : min ((es ++ g).drop i).length ((es ++ g).length - (i + 1)) = es.length - i := by simp [hg1]; omega
     have v3 : ((es ++ g).drop i).take ((es ++ g).length - (i + 1)) = es.drop i := by
      rw [hE, List.drop_append_of_le_length hi, show es.length + 1 - (i + 1) = (es.drop i).length from by simp];exact List.take_left
     have v4 : (es ++ g).drop (i + 1 + (es.length - i)) = [] := List.drop_of_length_le (by omega);have v5 : ((es ++ g).take (i + 1) ++ es.drop i).length = es.length + 1 := by simp [hg1]; omega
     have v6 : ((es ++ g).take (i + 1) ++ es.drop i).take i = es.take i := by
      rw [List.take_append_of_le_length (by simp; omega), List.take_take, Nat.min_eq_left (by omega), List.take_append_of_le_length hi]
     have v7 : ((es ++ g).take (i + 1) ++ es.drop i).drop (i + 1) = es.drop i := by
      rw [List.drop_append_of_le_length (by simp; omega), List.drop_of_length_le (by simp; omega), List.nil_append]
     have m1 : min 1 (es.length + 1 - i) = 1 := by omega
     have m2 : [cs].take (es.length + 1 - i) = [cs] := List.take_of_length_le (by simp; omega);have u6 : es.take i ++ cs :: es.drop i = es.take i ++ [cs] ++ es.drop i := by simp
     simp (disch := omega) only [e1, v1, v2, v3, v4, v5, v6, v7, m1, m2, u6, go_sem]
theorem Avz {x : SV} {f : Bool} {z : Nat} {es : List (List PV)} {h d} (hx : Cn h [x] = [.pv (.sl f z es)]) (hl : Be [x] = true) (hz : es = [] ∨ z = 11) (hb : es.length ≤ 1000) (hs : SV.closedL [x] = true) :
 FunOk Tryz.prog 95 [x] h d (.os d) [.new d (.row 11 es)] := by
 refine Ad9 Ag fn95 (by simp) hl (.inl hs) fun F => ?_;rw [hx];simp (disch := omega) only [ir95, go_sem];intro b hb';cases b
 · simp (disch := omega) only [go_sem]
 · have he : es = [] := by
    cases es with
    | nil => rfl
    | cons c l => exact absurd (hb' (by simp)) (by simp)
   subst he
   (try simp only [Ca, B9, B0, Bz, Bx, Bw, Bv, Bu]); simp (disch := omega) only [go_sem]
   decide
structure Ver where
 rep : Int
 seq : Nat
 data : List UInt8
 gone : Vc
def Bc (v : Ver) : List PV := .i .i64 v.rep :: .i .u32 v.seq :: .s v.data :: vE v.gone
def Pu : List Ver → Int → Nat → Nat → Nat × Bool
 | [], _, _, k => (k, false)
 | v :: l, r, q, k => if v.rep = r ∧ v.seq = q then (k, true) else if Cm r q v.rep v.seq = true then (k, false) else Pu l r q (k + 1)
theorem C2 (v : Ver) (K : KK) : LoadK (some (Bc v)) 0 2 true K = K (.vec 2 [.i .i64 v.rep, .i .u32 v.seq]) [] := by
 simp only [LoadK, Hr, eq_iff_iff];exact ⟨fun h => h.2.2, fun h => ⟨by simp [Bc], .inl trivial, h⟩⟩
theorem Km (v : Ver) (K : KK) : LoadK (some (Bc v)) 0 11 true K = K (.vec 11 (Bc v)) [] := by
 simp only [LoadK, Hr, eq_iff_iff];have e : ((Bc v).drop 0).take 11 = Bc v := List.take_of_length_le (by simp [Bc, vE, Cu]);rw [e];exact ⟨fun h => h.2.2, fun h => ⟨by simp [Bc, vE, Cu], .inl trivial, h⟩⟩
theorem Gz (r : Int) (q : Nat) : Ec [K1.int .i64, K1.int .u32] [.i .i64 r, .i .u32 q] = True := eq_true rfl
def Au2 (f : Bool) (l : List Ver) (r : Int) (q k : Nat) : FS := mk [(10, .pv (.i .i64 k)), (9, .pv (.i .i64 l.length)), (8, .pv (.sl f 11 (l.map Bc))), (3, .p 3 0), (0, .pv (.sl f 11 (l.map Bc)))] [(3, some (.var (.vec 2 [.i .i64 r, .i .u32 q])))]
set_option maxHeartbeats 1000000 in
theorem A1r {x : SV} {f : Bool} {l : List Ver} (r : Int) (q : Nat) {h d} (hx : Cn h [x, .vec 2 [.i .i64 r, .i .u32 q]] = [.pv (.sl f 11 (l.map Bc)), .vec 2 [.i .i64 r, .i .u32 q]]) (hl : Be [x, .vec 2 [.i .i64 r, .i .u32 q]] = true) (hn : l.length ≤ 1000) :
 FunOk Tryz.prog 162 [x, .vec 2 [.i .i64 r, .i .u32 q]] h d (.tup [.pv (.i .i64 (Pu l r q 0).1), .pv (.b (Pu l r q 0).2)]) [] := by
 refine Ci Ag fn162 (by simp) hl rfl fun F => ?_;rw [hx];simp (disch := omega) only [ir162, List.length_map, go_sem];refine A1 Ag (Au2 f l r q) (fun k => k ≤ l.length ∧ Pu l r q 0 = Pu (l.drop k) r q k) (fun k => l.length - k) 0 (by simp) (Ak ?_ ?_) fun k hk => ?_
 · simp (disch := omega) only [go_sem]
 · simp (disch := omega) only [go_sem]
 obtain ⟨hk1, hk2⟩ := hk;by_cases hlt : k < l.length
 · have hd : l.drop k = l[k] :: l.drop (k + 1) := List.drop_eq_getElem_cons hlt;have he : (l.map Bc)[k]? = some (Bc l[k]) := by simp [hlt]
   rw [hd] at hk2;generalize l[k] = v at *;simp only [Pu] at hk2;by_cases hid : v.rep = r ∧ v.seq = q
   · rw [if_pos hid] at hk2;have hp := Gs hid;simp (disch := omega) only [Au2, List.length_map, he, Km, C2, Gz, hp, hk2, go_sem]
   · rw [if_neg hid] at hk2;have hp := Fj hid;simp (disch := omega) only [Au2, List.length_map, he, Km, C2, Gz, hp, go_sem];refine Aa (Mw _ _ _ _) ?_;by_cases hl : Cm r q v.rep v.seq = true
     · rw [if_pos hl] at hk2;simp (disch := omega) only [hl, hk2, go_sem]
     · rw [if_neg hl] at hk2;have hl' : Cm r q v.rep v.seq = false := by simpa using hl
       simp (disch := omega) only [hl', go_sem];refine Ad (k + 1) _ _ rfl ⟨by omega, hk2⟩ (by omega) ?_ ?_
       · simp (disch := omega) only [List.length_map, go_sem]
       · simp (disch := omega) only [go_sem]
 · have : k = l.length := by omega
   subst this;rw [List.drop_length] at hk2;simp only [Pu] at hk2;rw [hk2]
   (try simp only [Ca, B9, B0, Bz, Bx, Bw, Bv, Bu]); simp (disch := omega) only [Au2, List.length_map, go_sem]
theorem M3 (v : Ver) (K : KK) : LoadK (some (Bc v)) 3 8 true K = K (.vec 8 (vE v.gone)) [] := by
 simp only [LoadK, Hr, eq_iff_iff];have e : ((Bc v).drop 3).take 8 = vE v.gone := List.take_of_length_le (by simp [Bc, vE, Cu]);rw [e];exact ⟨fun h => h.2.2, fun h => ⟨by simp [Bc, vE, Cu], .inl trivial, h⟩⟩
theorem Hb (v : Ver) : (Bc v).length = 11 := by simp [Bc, vE, Cu]
theorem X7 (l : List Ver) : ∀ c ∈ l.map Bc, c.all PV.flat = true := by
 intro c hc;obtain ⟨v, _, rfl⟩ := List.mem_map.1 hc;simp [Bc, vE, Cu, PV.flat]
theorem Ar5 (v : Ver) : Ec [K1.int .i64, K1.int .u32, .str, .int .u32, .int .u32, .int .u32, .int .u32, .int .u32, .int .u32, .int .u32, .int .u32] (Bc v) = True := eq_true rfl
theorem Ac1 (c : List PV) : Qc c c = true := by simp [Qc]
def Afe (f g : Bool) (l m : List Ver) (k : Nat) : FS := mk [(5, .pv (.i .i64 k)), (0, .pv (.sl f 11 (l.map Bc))), (1, .pv (.sl g 11 (m.map Bc)))] []
theorem A1f {x y : SV} {f g : Bool} {l m : List Ver} {h d} (hx : Cn h [x, y] = [.pv (.sl f 11 (l.map Bc)), .pv (.sl g 11 (m.map Bc))]) (hl : Be [x, y] = true) (he : l.map Bc = m.map Bc) (hn : l.length ≤ 1000) :
 FunOk Tryz.prog 64 [x, y] h d (.pv (.b true)) [] := by
 refine Ci Ag fn64 (by simp) hl rfl fun F => ?_;have hlen : l.length = m.length := by simpa using congrArg List.length he
 rw [hx];simp (disch := omega) only [ir64, List.length_map, hlen, go_sem];refine A1 Ag (Afe f g l m) (fun k => k ≤ m.length) (fun k => m.length - k) 0 (by simp) (Ak ?_ ?_) fun k hk => ?_
 · simp (disch := omega) only [go_sem]
 · simp (disch := omega) only [go_sem]
 by_cases hlt : k < m.length
 · have h2 : (m.map Bc)[k]? = some (Bc m[k]) := by simp [hlt]
   have h1 : (l.map Bc)[k]? = some (Bc m[k]) := by rw [he]; exact h2
   generalize m[k] = v at *;have hp := Ac1 (Bc v);have hf := Ar5 v;simp (disch := omega) only [Afe, List.length_map, hlen, h1, h2, Km, hp, hf, go_sem];refine Ad (k + 1) _ _ rfl (by omega) (by omega) ?_ ?_
   · simp (disch := omega) only [go_sem]
   · simp (disch := omega) only [go_sem]
 · simp (disch := omega) only [Afe, List.length_map, hlen, go_sem]
def Bs : List Ver → Int → Nat → Option Ver
 | [], _, _ => none
 | v :: l, r, q => if v.rep = r ∧ v.seq = q then some v else Bs l r q
def Ah4 (f : Bool) (l : List Ver) (r : Int) (q k : Nat) : FS := mk [(5, .pv (.i .i64 k)), (0, .pv (.sl f 11 (l.map Bc))), (3, .p 3 0)] [(3, some (.var (.vec 2 [.i .i64 r, .i .u32 q])))]
theorem Ay7 {x : SV} {f : Bool} {l : List Ver} (r : Int) (q : Nat) {h d} (hx : Cn h [x, .vec 2 [.i .i64 r, .i .u32 q]] = [.pv (.sl f 11 (l.map Bc)), .vec 2 [.i .i64 r, .i .u32 q]]) (hl : Be [x, .vec 2 [.i .i64 r, .i .u32 q]] = true) (hn : l.length ≤ 1000) :
 FunOk Tryz.prog 150 [x, .vec 2 [.i .i64 r, .i .u32 q]] h d (.pv (.b (Bs l r q).isSome)) [] := by
 refine Ci Ag fn150 (by simp) hl rfl fun F => ?_;rw [hx];simp (disch := omega) only [ir150, List.length_map, go_sem];refine A1 Ag (Ah4 f l r q) (fun k => k ≤ l.length ∧ Bs l r q = Bs (l.drop k) r q) (fun k => l.length - k) 0 (by simp) (Ak ?_ ?_) fun k hk => ?_
 · simp (disch := omega) only [go_sem]
 · simp (disch := omega) only [go_sem]
 obtain ⟨hk1, hk2⟩ := hk;by_cases hlt : k < l.length
 · have hd : l.drop k = l[k] :: l.drop (k + 1) := List.drop_eq_getElem_cons hlt;have he : (l.map Bc)[k]? = some (Bc l[k]) := by simp [hlt]
   rw [hd] at hk2;generalize l[k] = v at *;simp only [Bs] at hk2;by_cases hid : v.rep = r ∧ v.seq = q
   · rw [if_pos hid] at hk2;have hp := Gs hid;simp (disch := omega) only [Ah4, List.length_map, he, C2, Gz, hp, hk2, Option.isSome_some, go_sem]
   · rw [if_neg hid] at hk2;have hp := Fj hid;simp (disch := omega) only [Ah4, List.length_map, he, C2, Gz, hp, go_sem];refine Ad (k + 1) _ _ rfl ⟨by omega, hk2⟩ (by omega) ?_ ?_
     · simp (disch := omega) only [go_sem]
     · simp (disch := omega) only [go_sem]
 · have : k = l.length := by omega
   subst this;rw [List.drop_length] at hk2;simp only [Bs] at hk2;rw [hk2];simp (disch := omega) only [Ah4, List.length_map, Option.isSome_none, go_sem]
def Mq (v : Ver) (r : Int) (q : Nat) : Prop := v.rep = r ∧ v.seq = q
instance (v : Ver) (r : Int) (q : Nat) : Decidable (Mq v r q) := inferInstanceAs (Decidable (_ ∧ _))
theorem Pj (v : Ver) (K : KK) : LoadK (some (Bc v)) 2 1 false K = K (.pv (.s v.data)) [] := by
 simp only [LoadK, Hr, eq_iff_iff];exact ⟨fun h => h.2.2, fun h => ⟨by simp [Bc], .inr trivial, h⟩⟩
theorem Qv {r : Int} {q : Nat} {r' : Int} {q' : Nat} : Cm r q r' q' = true ↔ (q < q' ∨ q = q' ∧ r < r') := by simp [Cm]
theorem Pl {r : Int} {q : Nat} {r' : Int} {q' : Nat} {r'' : Int} {q'' : Nat} (h : Cm r q r' q' = true) (k : Cm r' q' r'' q'' = true) : Cm r q r'' q'' = true := by
 rw [Qv] at *; omega
theorem Abf {r : Int} {q : Nat} {r' : Int} {q' : Nat} (h : Cm r q r' q' = true) : ¬ (r = r' ∧ q = q') := by
 rw [Qv] at h; omega
theorem Aw1 {r : Int} {q : Nat} {r' : Int} {q' : Nat} (h : Cm r q r' q' = true) : ¬ Cm r' q' r q = true := by
 rw [Qv] at *; omega
theorem Ark {r : Int} {q : Nat} {r' : Int} {q' : Nat} (h : ¬ (r = r' ∧ q = q')) (k : ¬ Cm r q r' q' = true) : Cm r' q' r q = true := by
 rw [Qv] at *; omega
def Cv (l : List Ver) : Prop := l.Pairwise fun a b => Cm a.rep a.seq b.rep b.seq = true
theorem Ip : ∀ {l : List Ver} {r q k i}, Pu l r q k = (i, true) → k ≤ i ∧ ∃ v, l[i - k]? = some v ∧ Mq v r q ∧ Bs l r q = some v
 | [], r, q, k, i, h => by simp [Pu] at h
 | v :: l, r, q, k, i, h => by
   simp only [Pu] at h;split at h
   · rename_i hs;cases h;exact ⟨Nat.le_refl _, v, by simp, hs, by simp [Bs, hs]⟩
   · rename_i hs;split at h
     · cases h
     · obtain ⟨h1, u, h2, h3, h4⟩ := Ip h;refine ⟨by omega, u, ?_, h3, by simp only [Bs]; rw [if_neg hs]; exact h4⟩;rw [show i - k = (i - (k + 1)) + 1 by omega, List.getElem?_cons_succ]; exact h2
theorem H4 : ∀ {l : List Ver} {r q k i}, Cv l → Pu l r q k = (i, false) → k ≤ i ∧ i - k ≤ l.length ∧ Bs l r q = none ∧ (∀ v ∈ l, ¬ Mq v r q) ∧ (∀ v ∈ l.take (i - k), Cm v.rep v.seq r q = true) ∧ ∀ v ∈ l.drop (i - k), Cm r q v.rep v.seq = true
 | [], r, q, k, i, _, h => by simp only [Pu] at h; cases h; simp [Bs]
 | v :: l, r, q, k, i, hs, h => by
   obtain ⟨h1, h2⟩ := List.pairwise_cons.1 hs;simp only [Pu] at h;split at h
   · cases h
   · rename_i hn;split at h
     · rename_i hlt;cases h;have hall : ∀ u ∈ v :: l, Cm r q u.rep u.seq = true := fun u hu => by
        rcases List.mem_cons.1 hu with rfl | hu
        · exact hlt
        · exact Pl hlt (h1 u hu)
       have hno : ∀ u ∈ v :: l, ¬ Mq u r q := fun u hu e => Abf (hall u hu) ⟨e.1.symm, e.2.symm⟩;refine ⟨Nat.le_refl _, by simp, ?_, hno, by simp, by simpa using hall⟩;have : ∀ m : List Ver, (∀ u ∈ m, ¬ Mq u r q) → Bs m r q = none := fun m hm => by
        induction m with
        | nil => rfl
        | cons u m ih => simp only [Bs]; rw [if_neg (show ¬ (u.rep = r ∧ u.seq = q) from hm u List.mem_cons_self)]; exact ih fun x hx => hm x (List.mem_cons_of_mem _ hx)
       exact this _ hno
     · rename_i hge;obtain ⟨g1, g2, g3, g4, g5, g6⟩ := H4 h2 h;have e : i - k = (i - (k + 1)) + 1 := by omega
       refine ⟨by omega, by rw [e]; simpa using g2, by simp only [Bs]; rw [if_neg hn]; exact g3, fun u hu => ?_, ?_, ?_⟩
       · rcases List.mem_cons.1 hu with rfl | hu
         · exact hn
         · exact g4 u hu
       · rw [e, List.take_succ_cons];intro u hu;rcases List.mem_cons.1 hu with rfl | hu
         · exact Ark (fun e => hn ⟨e.1.symm, e.2.symm⟩) hge
         · exact g5 u hu
       · rw [e, List.drop_succ_cons]; exact g6
theorem Pm {l : List Ver} {r : Int} {q : Nat} : Bs l r q = none ↔ ∀ v ∈ l, ¬ Mq v r q := by
 induction l with
 | nil => simp [Bs]
 | cons u m ih =>
   simp only [Bs];by_cases h : u.rep = r ∧ u.seq = q
   · rw [if_pos h];exact ⟨fun e => (nomatch e), fun e => absurd h (e u List.mem_cons_self)⟩
   · rw [if_neg h, ih];simp only [List.mem_cons, forall_eq_or_imp];exact ⟨fun e => ⟨h, e⟩, fun e => e.2⟩
theorem Y9 {l : List Ver} {r : Int} {q : Nat} {v : Ver} (h : Bs l r q = some v) : v ∈ l ∧ Mq v r q := by
 induction l with
 | nil => simp [Bs] at h
 | cons u m ih =>
   simp only [Bs] at h;by_cases e : u.rep = r ∧ u.seq = q
   · rw [if_pos e] at h; cases h; exact ⟨List.mem_cons_self, e⟩
   · rw [if_neg e] at h; exact ⟨List.mem_cons_of_mem _ (ih h).1, (ih h).2⟩
def Dw (l : List Ver) (r : Int) (q : Nat) : List UInt8 × Int := if r = 0 ∧ q = 0 then ([], 0) else match Bs l r q with
 | some v => (v.data, 0)
 | none => ([], 2)
theorem Q8 {l : List Ver} {r : Int} {q : Nat} (h : r = 0 ∧ q = 0) : Dw l r q = ([], 0) := by simp [Dw, h]
theorem L6 {l : List Ver} {r : Int} {q : Nat} {v : Ver} (h : ¬ (r = 0 ∧ q = 0)) (k : Bs l r q = some v) : Dw l r q = (v.data, 0) := by unfold Dw; rw [if_neg h, k]
theorem Q7 {l : List Ver} {r : Int} {q : Nat} (h : ¬ (r = 0 ∧ q = 0)) (k : Bs l r q = none) : Dw l r q = ([], 2) := by unfold Dw; rw [if_neg h, k]
theorem A1a : Qc [.i .i64 0, .i .u32 0] [.i .i64 0, .i .u32 0] = true := by simp [Qc]
theorem A1b {r : Int} {q : Nat} (h : ¬ (r = 0 ∧ q = 0)) : Qc [.i .i64 r, .i .u32 q] [.i .i64 0, .i .u32 0] = false := Fj (q' := 0) fun e => h e
theorem Ajb : Ec [K1.int .i64, K1.int .u32] [.i .i64 0, .i .u32 0] = True := eq_true rfl
set_option maxHeartbeats 1000000 in
theorem Ap0 {x : SV} {f : Bool} {l : List Ver} (r : Int) (q : Nat) {h d} (hx : Cn h [x, .vec 2 [.i .i64 r, .i .u32 q]] = [.pv (.sl f 11 (l.map Bc)), .vec 2 [.i .i64 r, .i .u32 q]]) (hl : Be [x, .vec 2 [.i .i64 r, .i .u32 q]] = true) (hs : Cv l) (hn : l.length ≤ 1000) :
 FunOk Tryz.prog 159 [x, .vec 2 [.i .i64 r, .i .u32 q]] h d (.tup [.pv (.s (Dw l r q).1), .pv (.i .i64 (Dw l r q).2)]) [] := by
 refine Ci Ag fn159 (by simp) hl rfl fun F => ?_;rw [hx];by_cases hz : r = 0 ∧ q = 0
 · have e := Q8 (l := l) hz;rw [e];obtain ⟨rfl, rfl⟩ := hz;have e1 := A1a;have e2 := Ajb
   (try simp only [Ca, B9, B0, Bz, Bx, Bw, Bv, Bu]); simp (disch := omega) only [ir159, e1, e2, Int.natCast_zero, go_sem]
 · have hp := A1b hz;simp (disch := omega) only [ir159, Ajb, Gz, hp, go_sem];refine Aa (A1r (l := l) r q rfl rfl hn) ?_;rcases ha : Pu l r q 0 with ⟨i, b⟩
   cases b with
   | true =>
     obtain ⟨_, v, h2, h3, h4⟩ := Ip ha;rw [L6 hz h4];have he : (l.map Bc)[i]? = some (Bc v) := by rw [List.getElem?_map, show l[i]? = some v from by simpa using h2]; rfl
     have hi : i < l.length := by
      have := (List.getElem?_eq_some_iff.1 h2).1; simpa using this
     (try simp only [Ca, B9, B0, Bz, Bx, Bw, Bv, Bu]); simp (disch := omega) only [List.length_map, he, Pj, go_sem]
   | false =>
     obtain ⟨_, _, h3, _⟩ := H4 hs ha;rw [Q7 hz h3]
     (try simp only [Ca, B9, B0, Bz, Bx, Bw, Bv, Bu]); simp (disch := omega) only [go_sem]
def Jv (f : Bool) (l : List Ver) (r : Int) (q k : Nat) : FS := mk [(6, .pv (.i .i64 k)), (0, .pv (.sl f 11 (l.map Bc))), (3, .p 3 0)] [(3, some (.var (.vec 2 [.i .i64 r, .i .u32 q])))]
set_option maxHeartbeats 1000000 in
theorem Aim {x : SV} {f : Bool} {l : List Ver} (r : Int) (q : Nat) {h d} (hx : Cn h [x, .vec 2 [.i .i64 r, .i .u32 q]] = [.pv (.sl f 11 (l.map Bc)), .vec 2 [.i .i64 r, .i .u32 q]]) (hl : Be [x, .vec 2 [.i .i64 r, .i .u32 q]] = true) (hn : l.length ≤ 1000) :
 FunOk Tryz.prog 93 [x, .vec 2 [.i .i64 r, .i .u32 q]] h d (.tup [.pv (.s (Dw l r q).1), .pv (.i .i64 (Dw l r q).2)]) [] := by
 refine Ci Ag fn93 (by simp) hl rfl fun F => ?_;rw [hx];by_cases hz : r = 0 ∧ q = 0
 · have e := Q8 (l := l) hz;rw [e];obtain ⟨rfl, rfl⟩ := hz
   (try simp only [Ca, B9, B0, Bz, Bx, Bw, Bv, Bu]); simp (disch := omega) only [ir93, Int.natCast_zero, go_sem]
 · have hk : ∀ K : Prop, K → K := fun _ h => h;by_cases hr : r = 0
   · subst hr;have hq : ¬ (q : Int) = 0 := by omega
     simp (disch := omega) only [ir93, hq, go_sem];refine A1 Ag (Jv f l 0 q) (fun k => k ≤ l.length ∧ Bs l 0 q = Bs (l.drop k) 0 q) (fun k => l.length - k) 0 (by simp) (Ak ?_ ?_) fun k hk => ?_
     · simp (disch := omega) only [go_sem]
     · simp (disch := omega) only [go_sem]
     obtain ⟨hk1, hk2⟩ := hk;by_cases hlt : k < l.length
     · have hd : l.drop k = l[k] :: l.drop (k + 1) := List.drop_eq_getElem_cons hlt;have he : (l.map Bc)[k]? = some (Bc l[k]) := by simp [hlt]
       rw [hd] at hk2;generalize l[k] = v at *;simp only [Bs] at hk2;by_cases hid : v.rep = 0 ∧ v.seq = q
       · rw [if_pos hid] at hk2;have hp := Gs hid;rw [L6 hz hk2]
         (try simp only [Ca, B9, B0, Bz, Bx, Bw, Bv, Bu]); simp (disch := omega) only [Jv, List.length_map, he, C2, Gz, hp, Pj, go_sem]
       · rw [if_neg hid] at hk2;have hp := Fj hid;simp (disch := omega) only [Jv, List.length_map, he, C2, Gz, hp, go_sem];refine Ad (k + 1) _ _ rfl ⟨by omega, hk2⟩ (by omega) ?_ ?_
         · simp (disch := omega) only [go_sem]
         · simp (disch := omega) only [go_sem]
     · obtain rfl : k = l.length := by omega
       rw [List.drop_length] at hk2;rw [Q7 hz hk2]
       (try simp only [Ca, B9, B0, Bz, Bx, Bw, Bv, Bu]); simp (disch := omega) only [Jv, List.length_map, go_sem]
   · simp (disch := omega) only [ir93, hr, go_sem];refine A1 Ag (Jv f l r q) (fun k => k ≤ l.length ∧ Bs l r q = Bs (l.drop k) r q) (fun k => l.length - k) 0 (by simp) (Ak ?_ ?_) fun k hk => ?_
     · simp (disch := omega) only [go_sem]
     · simp (disch := omega) only [go_sem]
     obtain ⟨hk1, hk2⟩ := hk;by_cases hlt : k < l.length
     · have hd : l.drop k = l[k] :: l.drop (k + 1) := List.drop_eq_getElem_cons hlt;have he : (l.map Bc)[k]? = some (Bc l[k]) := by simp [hlt]
       rw [hd] at hk2;generalize l[k] = v at *;simp only [Bs] at hk2;by_cases hid : v.rep = r ∧ v.seq = q
       · rw [if_pos hid] at hk2;have hp := Gs hid;rw [L6 hz hk2]
         (try simp only [Ca, B9, B0, Bz, Bx, Bw, Bv, Bu]); simp (disch := omega) only [Jv, List.length_map, he, C2, Gz, hp, Pj, go_sem]
       · rw [if_neg hid] at hk2;have hp := Fj hid;simp (disch := omega) only [Jv, List.length_map, he, C2, Gz, hp, go_sem];refine Ad (k + 1) _ _ rfl ⟨by omega, hk2⟩ (by omega) ?_ ?_
         · simp (disch := omega) only [go_sem]
         · simp (disch := omega) only [go_sem]
     · obtain rfl : k = l.length := by omega
       rw [List.drop_length] at hk2;rw [Q7 hz hk2]
       (try simp only [Ca, B9, B0, Bz, Bx, Bw, Bv, Bu]); simp (disch := omega) only [Jv, List.length_map, go_sem]
theorem Qo (b : Bq) (K : KK) : LoadK (some (Eb b)) 0 2 true K = K (.vec 2 [.i .i64 b.1, .i .u32 b.2]) [] := by
 simp only [LoadK, Hr, eq_iff_iff];exact ⟨fun h => h.2.2, fun h => ⟨by simp [Eb], .inl trivial, h⟩⟩
def Eu (v : Ver) (r : Int) (q : Nat) : Ver := { v with gone := Ba v.gone r q }
def Du (l : List Ver) (bs : List Bq) (r : Int) (q : Nat) : List Ver := l.map fun x => if (x.rep, x.seq) ∈ bs then Eu x r q else x
theorem U9 (g : Vc) (r : Int) (q : Nat) : Ba (Ba g r q) r q = Ba g r q := by
 unfold Ba;split
 · funext i;simp only [E7];split <;> simp
 · rfl
theorem N0 (l : List Ver) (r : Int) (q : Nat) : Du l [] r q = l := by simp [Du]
theorem Yv (l : List Ver) (bs) (r : Int) (q : Nat) : (Du l bs r q).length = l.length := by simp [Du]
theorem Gt (x : Ver) (bs : List Bq) (r : Int) (q : Nat) : (if (x.rep, x.seq) ∈ bs then Eu x r q else x).rep = x.rep ∧ (if (x.rep, x.seq) ∈ bs then Eu x r q else x).seq = x.seq := by split <;> exact ⟨rfl, rfl⟩
theorem Qk {l : List Ver} {bs} {r : Int} {q : Nat} (h : Cv l) : Cv (Du l bs r q) := by
 unfold Du Cv;rw [List.pairwise_map];refine List.Pairwise.imp (fun {a b} hab => ?_) h;rw [(Gt a bs r q).1, (Gt a bs r q).2, (Gt b bs r q).1, (Gt b bs r q).2]; exact hab
theorem Aep (bs : List Bq) (r : Int) (q : Nat) (r' : Int) (q' : Nat) : ∀ (l : List Ver) (k : Nat), Pu (Du l bs r q) r' q' k = Pu l r' q' k
 | [], k => rfl
 | x :: l, k => by
   have ih := Aep bs r q r' q' l (k + 1);unfold Du at ih ⊢;simp only [List.map_cons, Pu, ih, (Gt x bs r q).1, (Gt x bs r q).2]
theorem Acn {l : List Ver} (h : Cv l) {i j : Nat} {a b : Ver} (hi : l[i]? = some a) (hj : l[j]? = some b) (he : a.rep = b.rep ∧ a.seq = b.seq) : i = j := by
 obtain ⟨h1, rfl⟩ := List.getElem?_eq_some_iff.1 hi;obtain ⟨h2, rfl⟩ := List.getElem?_eq_some_iff.1 hj;rcases Nat.lt_trichotomy i j with h3 | h3 | h3
 · exact absurd he (Abf (List.pairwise_iff_getElem.1 h i j h1 h2 h3))
 · exact h3
 · exact absurd ⟨he.1.symm, he.2.symm⟩ (Abf (List.pairwise_iff_getElem.1 h j i h2 h1 h3))
theorem Aqs {l : List Ver} (h : Cv l) {bs : List Bq} {b : Bq} {r : Int} {q : Nat} {i : Nat} {u : Ver} (hi : (Du l bs r q)[i]? = some u) (hu : Mq u b.1 b.2) :
 (Du l bs r q).set i (Eu u r q) = Du l (bs ++ [b]) r q := by
 apply List.ext_getElem?;intro j;have hi' := hi;unfold Du at hi';rw [List.getElem?_map] at hi';obtain ⟨x, hx, rfl⟩ := Option.map_eq_some_iff.1 hi';have hxi : (x.rep, x.seq) = b := by
  have h1 := (Gt x bs r q).1;have h2 := (Gt x bs r q).2;obtain ⟨g1, g2⟩ := hu;rw [h1] at g1; rw [h2] at g2;rw [g1, g2]
 by_cases hij : i = j
 · subst hij;rw [List.getElem?_set_self (List.getElem?_eq_some_iff.1 hi).1];unfold Du;rw [List.getElem?_map, hx];simp only [Option.map_some, List.mem_append, List.mem_singleton, hxi, or_true, if_true, Option.some.injEq];split
   · simp only [Eu, U9]
   · rfl
 · rw [List.getElem?_set_ne hij];unfold Du;rw [List.getElem?_map, List.getElem?_map];cases hy : l[j]? with
   | none => rfl
   | some y =>
     have hne : ¬ (y.rep, y.seq) = b := fun e => hij (Acn h hx hy (by rw [← e] at hxi; simpa using hxi));simp only [Option.map_some, List.mem_append, List.mem_singleton, hne, or_false]
def Di (l : List Ver) (bs : List Bq) : Prop := ∃ b ∈ bs, Bs l b.1 b.2 = none
def Fo (l : List Ver) (bs : List Bq) (v : Ver) : List Ver := (Du l bs v.rep v.seq).take (Pu l v.rep v.seq 0).1 ++ v :: (Du l bs v.rep v.seq).drop (Pu l v.rep v.seq 0).1
theorem Jk (u : Ver) (g : Vc) : splice (Bc u) 3 (vE g) = Bc { u with gone := g } := by
 simp [splice, Bc, vE, Cu]
def An4 (f : Bool) (l : List Ver) (g : Bool) (bs : List Bq) (v : Ver) (k : Nat) : FS := mk [(19, .pv (.i .i64 k)), (18, .pv (.i .i64 bs.length)), (17, .pv (.sl g 2 (bs.map Eb))), (8, .os 16), (5, .p 5 0)]
 [(5, some (.var (.vec 11 (Bc v)))), (16, some (.row 11 ((Du l (bs.take k) v.rep v.seq).map Bc)))]
set_option maxHeartbeats 2000000 in
theorem Ajj {F : Fr} {f : Bool} {l : List Ver} {g : Bool} {bs : List Bq} {v : Ver} {R : SV → (Nat → Option Blk) → Prop} (hs : Cv l) (hn : l.length ≤ 900) (hbn : bs.length ≤ 900)
 (h1 : Di l bs → ∀ h, R (.tup [.pv (.sl true 0 []), .pv (.i .i64 2)]) h)
 (h2 : ¬ Di l bs → (Bs l v.rep v.seq).isSome = true → ∀ h, R (.tup [.pv (.sl true 0 []), .pv (.i .i64 11)]) h)
 (h3 : ¬ Di l bs → Bs l v.rep v.seq = none → ∀ h n, h n = some (.row 11 ((Fo l bs v).map Bc)) → R (.tup [.os n, .pv (.i .i64 0)]) h) :
 sx (Q4 Tryz.prog F 57) ir141 (Ol [.t 6, .t 7] R) (mk (C9 0 [.pv (.sl f 11 (l.map Bc)), .pv (.sl g 2 (bs.map Eb)), .vec 11 (Bc v)]) []) := by
 have hv := Hb v;simp (disch := omega) only [ir141, List.length_map, go_sem];refine Aa (Avz (es := l.map Bc) rfl rfl (.inr rfl) (by simp; omega) rfl) ?_;simp (disch := omega) only [List.length_map, go_sem];refine A1 Ag (An4 f l g bs v) (fun k => k ≤ bs.length ∧ ∀ b ∈ bs.take k, Bs l b.1 b.2 ≠ none) (fun k => bs.length - k) 0 (by simp) (Ak ?_ ?_) fun k hk => ?_
 · simp (disch := omega) only [go_sem]
 · simp (disch := omega) only [List.take_zero, N0, go_sem]
 obtain ⟨hk1, hk2⟩ := hk;have hsM := Qk (bs := bs.take k) (r := v.rep) (q := v.seq) hs;have hlM := Yv l (bs.take k) v.rep v.seq;have haM := fun r q => Aep (bs.take k) v.rep v.seq r q l 0;by_cases hlt : k < bs.length
 · have he : (bs.map Eb)[k]? = some (Eb bs[k]) := by simp [hlt]
   have ht : bs.take (k + 1) = bs.take k ++ [bs[k]] := by rw [List.take_add_one, List.getElem?_eq_getElem hlt]; rfl
   have hb : bs[k] ∈ bs := List.getElem_mem hlt;generalize bs[k] = b at *;simp (disch := omega) only [An4, List.length_map, he, Qo, go_sem];refine Aa (A1r (l := Du l (bs.take k) v.rep v.seq) b.1 b.2 rfl rfl (by omega)) ?_;rcases ha : Pu (Du l (bs.take k) v.rep v.seq) b.1 b.2 0 with ⟨i, is⟩
   have ha' := ha;rw [haM] at ha';cases is with
   | false =>
     obtain ⟨_, _, g3, _⟩ := H4 hs ha'
     (try simp only [Ca, B9, B0, Bz, Bx, Bw, Bv, Bu]); simp (disch := omega) only [go_sem]
     exact h1 ⟨b, hb, g3⟩ _
   | true =>
     obtain ⟨_, u, g2, g3, g4⟩ := Ip ha;obtain ⟨_, u', _, _, g5⟩ := Ip ha';have hu : (Du l (bs.take k) v.rep v.seq)[i]? = some u := by simpa using g2
     have hi : i < (Du l (bs.take k) v.rep v.seq).length := (List.getElem?_eq_some_iff.1 hu).1;have heu : ((Du l (bs.take k) v.rep v.seq).map Bc)[i]? = some (Bc u) := by rw [List.getElem?_map, hu]; rfl
     have hm := Aqs (b := b) hs hu g3;have hgd : ((Du l (bs.take k) v.rep v.seq).map Bc).getD i [] = Bc u := by rw [List.getD_eq_getElem?_getD, heu]; rfl
     (try simp only [Ca, B9, B0, Bz, Bx, Bw, Bv, Bu]); simp (disch := omega) only [List.length_map, heu, M3, C2, go_sem]
     refine Aa (Aao _ _ _) ?_;have hw : splice (Bc u) 3 (vE (Ba u.gone v.rep v.seq)) = Bc (Eu u v.rep v.seq) := Jk _ _;simp (disch := omega) only [List.length_map, heu, hgd, hw, go_sem];refine Ad (k + 1) _ _ rfl ⟨by omega, fun c hc => ?_⟩ (by omega) ?_ ?_
     · rw [ht] at hc;rcases List.mem_append.1 hc with hc | hc
       · exact hk2 c hc
       · simp at hc; subst hc; rw [g5]; simp
     · simp (disch := omega) only [List.length_map, go_sem]
     · simp (disch := omega) only [go_sem];rw [ht, ← hm, List.map_set]
 · obtain rfl : k = bs.length := by omega
   have hmiss : ¬ Di l bs := fun ⟨b, hb, e⟩ => hk2 b (by rw [List.take_length]; exact hb) e;rw [List.take_length] at hsM hlM haM;have e := List.take_length (l := bs);simp (disch := omega) only [An4, e, C2, go_sem];refine Aa (A1r (l := Du l bs v.rep v.seq) v.rep v.seq rfl rfl (by omega)) ?_;rcases ha : Pu (Du l bs v.rep v.seq) v.rep v.seq 0 with ⟨i, is⟩
   have ha' := ha;rw [haM] at ha';cases is with
   | true =>
     obtain ⟨_, u', _, _, g5⟩ := Ip ha'
     (try simp only [Ca, B9, B0, Bz, Bx, Bw, Bv, Bu]); simp (disch := omega) only [go_sem]
     exact h2 hmiss (by rw [g5]; rfl) _
   | false =>
     obtain ⟨_, g2, g3, _⟩ := H4 hs ha'
     (try simp only [Ca, B9, B0, Bz, Bx, Bw, Bv, Bu]); simp (disch := omega) only [hv, go_sem]
     refine Aa (Adb ((Du l bs v.rep v.seq).map Bc) (Bc v) i (by simp [hlM]; omega) (by simp [hlM]; omega) (by intro c hc; obtain ⟨x, _, rfl⟩ := List.mem_map.1 hc; exact Hb x) hv rfl rfl) ?_;simp (disch := omega) only [go_sem];refine h3 hmiss g3 _ _ ?_;simp (disch := omega) only [go_sem];simp [Fo, ha', List.map_take, List.map_drop]
theorem Af3 {x y : SV} {f g : Bool} {l : List Ver} {bs : List Bq} {v : Ver} {h d} (hx : Cn h [x, y, .vec 11 (Bc v)] = [.pv (.sl f 11 (l.map Bc)), .pv (.sl g 2 (bs.map Eb)), .vec 11 (Bc v)]) (hl : Be [x, y, .vec 11 (Bc v)] = true)
 (hs : Cv l) (hn : l.length ≤ 900) (hbn : bs.length ≤ 900) (hm : Di l bs) :
 FunOk Tryz.prog 141 [x, y, .vec 11 (Bc v)] h d (.tup [.pv (.sl true 0 []), .pv (.i .i64 2)]) [] := by
 refine Ci Ag fn141 (by simp) hl rfl fun F => ?_;rw [hx];exact Ajj hs hn hbn (fun _ _ => rfl) (fun h => absurd hm h) (fun h => absurd hm h)
def Kw (M : List Ver) (v : Ver) (p k : Nat) : List Ver := if p < k then (M.take k).take p ++ v :: (M.take k).drop p else M.take k
theorem Ao7 (M : List Ver) (v : Ver) (p k : Nat) (hk : k ≤ M.length) : (Kw M v p k).length ≤ k + 1 := by
 unfold Kw; split <;> simp <;> omega
def Aae (f : Bool) (l : List Ver) (g : Bool) (bs : List Bq) (v : Ver) (k : Nat) : FS := mk [(8, .pv (.i .i64 k)), (0, .pv (.sl f 11 (l.map Bc))), (1, .pv (.sl g 2 (bs.map Eb))), (5, .p 5 0)]
 [(5, some (.var (.vec 11 (Bc v))))]
def Nu (f : Bool) (l : List Ver) (g : Bool) (bs : List Bq) (v : Ver) (M : List Ver) (p k : Nat) : FS := mk [(13, .pv (.i .i64 k)), (12, .pv (.b (decide (p < k)))), (11, .os 16), (0, .pv (.sl f 11 (l.map Bc))), (1, .pv (.sl g 2 (bs.map Eb))), (5, .p 5 0)]
 [(5, some (.var (.vec 11 (Bc v)))), (16, some (.row 11 ((Kw M v p k).map Bc)))]
def Gr (f : Bool) (l : List Ver) (g : Bool) (bs : List Bq) (v : Ver) (k : Nat) (b : Bool) (o : List Ver) (x : Ver) (j : Nat) : FS := mk [(15, .pv (.i .i64 j)), (14, .p 14 0), (13, .pv (.i .i64 k)), (12, .pv (.b b)), (11, .os 16), (0, .pv (.sl f 11 (l.map Bc))), (1, .pv (.sl g 2 (bs.map Eb))), (5, .p 5 0)]
 [(5, some (.var (.vec 11 (Bc v)))), (16, some (.row 11 (o.map Bc))), (14, some (.var (.vec 11 (Bc (if (x.rep, x.seq) ∈ bs.take j then Eu x v.rep v.seq else x)))))]
theorem Wv (x : Ver) (c : Prop) [Decidable c] (r : Int) (q : Nat) : Bc { (if c then Eu x r q else x) with gone := Cz (if c then Eu x r q else x).gone (Qg r q) } = Bc (Eu x r q) := by
 have h1 : (if c then Eu x r q else x).rep = x.rep := by split <;> rfl
 have h2 : (if c then Eu x r q else x).seq = x.seq := by split <;> rfl
 have h3 : (if c then Eu x r q else x).data = x.data := by split <;> rfl
 have h4 : ∀ i, i < 8 → Cz (if c then Eu x r q else x).gone (Qg r q) i = (Ba x.gone r q) i := by
  intro i hi;rw [← Ab5 _ _ _ i hi];split
  · simp only [Eu, U9]
  · rfl
 show _ = Bc { x with gone := Ba x.gone r q };simp only [Bc, h1, h2, h3, Lg h4]
theorem Avo {M : List Ver} {v : Ver} {p k : Nat} {x : Ver} (h : p < k) (hx : M[k]? = some x) : Kw M v p (k + 1) = Kw M v p k ++ [x] := by
 have hk : k < M.length := (List.getElem?_eq_some_iff.1 hx).1;unfold Kw;rw [if_pos h, if_pos (by omega), List.take_add_one, hx];simp only [Option.toList_some];rw [List.take_append_of_le_length (by simp; omega), List.drop_append_of_le_length (by simp; omega)];simp
theorem Avq {M : List Ver} {v : Ver} {k : Nat} {x : Ver} (hx : M[k]? = some x) : Kw M v k (k + 1) = Kw M v k k ++ [v] ++ [x] := by
 have hk : k < M.length := (List.getElem?_eq_some_iff.1 hx).1;have hl : (M.take k).length = k := by simp; omega
 unfold Kw;rw [if_neg (Nat.lt_irrefl k), if_pos (by omega), List.take_add_one, hx];simp only [Option.toList_some];rw [List.take_append_of_le_length (by omega), List.take_of_length_le (by omega), List.drop_append_of_le_length (by omega), List.drop_of_length_le (by omega)];simp
theorem Avp {M : List Ver} {v : Ver} {p k : Nat} {x : Ver} (h : k < p) (hx : M[k]? = some x) : Kw M v p (k + 1) = Kw M v p k ++ [x] := by
 unfold Kw;rw [if_neg (by omega), if_neg (by omega), List.take_add_one, hx]; rfl
set_option maxHeartbeats 4000000 in
theorem At4 {F : Fr} {f : Bool} {l : List Ver} {g : Bool} {bs : List Bq} {v : Ver} {R : SV → (Nat → Option Blk) → Prop} (hs : Cv l) (hn : l.length ≤ 900) (hbn : bs.length ≤ 900)
 (h1 : Di l bs → ∀ h, R (.tup [.pv (.sl true 0 []), .pv (.i .i64 2)]) h)
 (h2 : ¬ Di l bs → (Bs l v.rep v.seq).isSome = true → ∀ h, R (.tup [.pv (.sl true 0 []), .pv (.i .i64 11)]) h)
 (h3 : ¬ Di l bs → Bs l v.rep v.seq = none → ∀ h n, h n = some (.row 11 ((Fo l bs v).map Bc)) → R (.tup [.os n, .pv (.i .i64 0)]) h) :
 sx (Q4 Tryz.prog F 118) ir134 (Ol [.t 6, .t 7] R) (mk (C9 0 [.pv (.sl f 11 (l.map Bc)), .pv (.sl g 2 (bs.map Eb)), .vec 11 (Bc v)]) []) := by
 have hv := Hb v;simp (disch := omega) only [ir134, List.length_map, go_sem];refine A1 Ag (Aae f l g bs v) (fun k => k ≤ bs.length ∧ ∀ b ∈ bs.take k, Bs l b.1 b.2 ≠ none) (fun k => bs.length - k) 0 (by simp) (Ak ?_ ?_) fun k hk => ?_
 · simp (disch := omega) only [go_sem]
 · simp (disch := omega) only [go_sem]
 obtain ⟨hk1, hk2⟩ := hk;by_cases hlt : k < bs.length
 · have he : (bs.map Eb)[k]? = some (Eb bs[k]) := by simp [hlt]
   have ht : bs.take (k + 1) = bs.take k ++ [bs[k]] := by rw [List.take_add_one, List.getElem?_eq_getElem hlt]; rfl
   have hb : bs[k] ∈ bs := List.getElem_mem hlt;generalize bs[k] = b at *;have c0 : LoadK (some (Eb b)) 0 1 false = fun K => K (.pv (.i .i64 b.1)) [] := by
    funext K; simp only [LoadK, Hr, eq_iff_iff]; exact ⟨fun h => h.2.2, fun h => ⟨by simp [Eb], .inr trivial, h⟩⟩
   have c1 : LoadK (some (Eb b)) 1 1 false = fun K => K (.pv (.i .u32 b.2)) [] := by
    funext K; simp only [LoadK, Hr, eq_iff_iff]; exact ⟨fun h => h.2.2, fun h => ⟨by simp [Eb], .inr trivial, h⟩⟩
   simp (disch := omega) only [Aae, List.length_map, he, Qo, go_sem];refine Aa (Aim (l := l) b.1 b.2 rfl rfl (by omega)) ?_;have go : Bs l b.1 b.2 ≠ none → (k + 1 ≤ bs.length ∧ ∀ c ∈ bs.take (k + 1), Bs l c.1 c.2 ≠ none) := fun hne => ⟨by omega, fun c hc => by
    rw [ht] at hc;rcases List.mem_append.1 hc with hc | hc
    · exact hk2 c hc
    · simp at hc; subst hc; exact hne⟩
   by_cases hz : b.1 = 0 ∧ b.2 = 0
   · obtain ⟨b1, b2⟩ := b;obtain ⟨rfl, rfl⟩ : b1 = 0 ∧ b2 = 0 := hz;rw [Q8 ⟨rfl, rfl⟩]
     (try simp only [Ca, B9, B0, Bz, Bx, Bw, Bv, Bu]); simp (disch := omega) only [List.length_map, he, c0, c1, Qo, Int.natCast_zero, go_sem]
     refine Aa (Ay7 (l := l) 0 0 rfl rfl (by omega)) ?_;cases hf : Bs l 0 0 with
     | none =>
       simp (disch := omega) only [Option.isSome_none, go_sem];exact h1 ⟨_, hb, hf⟩ _
     | some u =>
       simp (disch := omega) only [Option.isSome_some, go_sem];refine Ad (k + 1) _ _ rfl (go (by rw [hf]; simp)) (by omega) ?_ ?_
       · simp (disch := omega) only [go_sem]
       · simp (disch := omega) only [go_sem]
   · cases hf : Bs l b.1 b.2 with
     | none =>
       rw [Q7 hz hf]
       (try simp only [Ca, B9, B0, Bz, Bx, Bw, Bv, Bu]); simp (disch := omega) only [go_sem]
       exact h1 ⟨b, hb, hf⟩ _
     | some u =>
       rw [L6 hz hf];by_cases hz1 : b.1 = 0
       · have hz2 : ¬ (b.2 : Int) = 0 := by omega
         (try simp only [Ca, B9, B0, Bz, Bx, Bw, Bv, Bu]); simp (disch := omega) only [List.length_map, he, c0, c1, hz1, hz2, go_sem]
         refine Ad (k + 1) _ _ rfl (go (by rw [hf]; simp)) (by omega) ?_ ?_
         · simp (disch := omega) only [go_sem]
         · simp (disch := omega) only [go_sem]
       · (try simp only [Ca, B9, B0, Bz, Bx, Bw, Bv, Bu]); simp (disch := omega) only [List.length_map, he, c0, c1, hz1, go_sem]
         refine Ad (k + 1) _ _ rfl (go (by rw [hf]; simp)) (by omega) ?_ ?_
         · simp (disch := omega) only [go_sem]
         · simp (disch := omega) only [go_sem]
 · obtain rfl : k = bs.length := by omega
   have hmiss : ¬ Di l bs := fun ⟨b, hb, e⟩ => hk2 b (by rw [List.take_length]; exact hb) e;have e := List.take_length (l := bs);simp (disch := omega) only [Aae, List.length_map, C2, go_sem];refine Aa (Ay7 (l := l) v.rep v.seq rfl rfl (by omega)) ?_;cases hf : Bs l v.rep v.seq with
   | some u =>
     simp (disch := omega) only [Option.isSome_some, go_sem];exact h2 hmiss (by rw [hf]; rfl) _
   | none =>
     obtain ⟨p, hp⟩ : ∃ p, Pu l v.rep v.seq 0 = (p, false) := by
      rcases ha : Pu l v.rep v.seq 0 with ⟨p, b⟩
      cases b with
      | false => exact ⟨p, rfl⟩
      | true => obtain ⟨_, u, _, _, h4⟩ := Ip ha; rw [hf] at h4; cases h4
     obtain ⟨_, g2, _, g4, g5, g6⟩ := H4 hs hp;rw [Nat.sub_zero] at g2 g5 g6;have h3' := h3 hmiss hf;simp only [Fo, hp] at h3';have hM : ∀ k x, l[k]? = some x → (Du l bs v.rep v.seq)[k]? = some (if (x.rep, x.seq) ∈ bs then Eu x v.rep v.seq else x) := fun k x hx => by unfold Du; rw [List.getElem?_map, hx]; rfl
     have hMl := Yv l bs v.rep v.seq;generalize Du l bs v.rep v.seq = M at *;simp (disch := omega) only [Option.isSome_none, go_sem];refine A1 Ag (Nu f l g bs v M p) (fun k => k ≤ l.length) (fun k => l.length - k) 0 (by simp) (Rr 11 16 11 rfl (by omega) (Ak ?_ ?_)) fun k hk => ?_
     · simp (disch := omega) only [Nat.not_lt_zero, go_sem]
     · simp (disch := omega) only [go_sem];simp [Kw]
     by_cases hlt : k < l.length
     · have he : (l.map Bc)[k]? = some (Bc l[k]) := by simp [hlt]
       have hx := hM k l[k] (List.getElem?_eq_getElem hlt);have ho := Ao7 M v p k (by omega);have hl5 : p > k → Cm v.rep v.seq l[k].rep l[k].seq = false := fun h => by
        have := Aw1 (g5 l[k] (List.mem_take_iff_getElem.2 ⟨k, by omega, rfl⟩));simpa using this
       have hl6 : p = k → Cm v.rep v.seq l[k].rep l[k].seq = true := fun h => g6 l[k] (by
        subst h;rw [List.drop_eq_getElem_cons hlt]; exact List.mem_cons_self)
       generalize l[k] = x at *;have hxl := Hb x;rcases Nat.lt_trichotomy p k with hpk | hpk | hpk
       · have e1 : decide (p < k) = true := by simp [hpk]
         have e2 : decide (p < k + 1) = true := by simp; omega
         have eo := Avo (v := v) hpk hx;simp (disch := omega) only [Nu, e1, List.length_map, he, Km, hxl, go_sem];refine A1 Ag (Gr f l g bs v k true (Kw M v p k) x) (fun j => j ≤ bs.length) (fun j => bs.length - j) 0 (by simp) (Ak ?_ ?_) fun j hj => ?_
         · simp (disch := omega) only [go_sem]
         · simp (disch := omega) only [List.take_zero, List.not_mem_nil, go_sem]
         have ex := Gt x (bs.take j) v.rep v.seq;by_cases hj2 : j < bs.length
         · have hbe : (bs.map Eb)[j]? = some (Eb bs[j]) := by simp [hj2]
           have ht : bs.take (j + 1) = bs.take j ++ [bs[j]] := by rw [List.take_add_one, List.getElem?_eq_getElem hj2]; rfl
           generalize bs[j] = b at *;have hjn := Wv x ((x.rep, x.seq) ∈ bs.take j) v.rep v.seq;have hsp := Jk (if (x.rep, x.seq) ∈ bs.take j then Eu x v.rep v.seq else x) (Cz (if (x.rep, x.seq) ∈ bs.take j then Eu x v.rep v.seq else x).gone (Qg v.rep v.seq));by_cases hb : b.1 = x.rep ∧ b.2 = x.seq
           · have hp := Gs hb;have hb' : (x.rep, x.seq) = b := by rw [← hb.1, ← hb.2]
             simp (disch := omega) only [Gr, List.length_map, hbe, Qo, C2, ex.1, ex.2, Gz, hp, M3, go_sem];refine Aa (Ui _ _ _) ?_;simp (disch := omega) only [hsp, hjn, go_sem];refine Ad (j + 1) _ _ rfl (by omega) (by omega) ?_ ?_
             · simp (disch := omega) only [go_sem]
             · simp (disch := omega) only [ht, hb', List.mem_append, List.mem_singleton, go_sem]
           · have hp := Fj hb;have hb' : ¬ (x.rep, x.seq) = b := fun e => hb (by rw [← e]; exact ⟨rfl, rfl⟩);simp (disch := omega) only [Gr, List.length_map, hbe, Qo, C2, ex.1, ex.2, Gz, hp, go_sem];refine Ad (j + 1) _ _ rfl (by omega) (by omega) ?_ ?_
             · simp (disch := omega) only [go_sem]
             · simp (disch := omega) only [ht, hb', List.mem_append, List.mem_singleton, or_false, go_sem]
         · obtain rfl : j = bs.length := by omega
           have e := List.take_length (l := bs);have hxl2 := Hb (if (x.rep, x.seq) ∈ bs then Eu x v.rep v.seq else x);simp (disch := omega) only [Gr, e, List.length_map, Km, hxl2, List.length_append, List.length_singleton, go_sem];refine ⟨k + 1, by omega, by omega, D2 110 16 (by decide) rfl (Ak ?_ ?_)⟩
           · simp (disch := omega) only [e2, go_sem]
           · simp (disch := omega) only [eo, List.map_append, List.map_cons, List.map_nil, go_sem]
       · subst hpk;have e1 : decide (p < p) = false := by simp
         have e2 : decide (p < p + 1) = true := by simp
         have eo := Avq (v := v) hx;have hl7 := hl6 rfl;simp (disch := omega) only [Nu, e1, List.length_map, he, C2, go_sem];refine Aa (F8 _ _ _ _) ?_;simp (disch := omega) only [hl7, hv, List.length_map, he, Km, hxl, go_sem];refine A1 Ag (Gr f l g bs v p true (Kw M v p p ++ [v]) x) (fun j => j ≤ bs.length) (fun j => bs.length - j) 0 (by simp) (D2 83 16 (by decide) rfl (Ak ?_ ?_)) fun j hj => ?_
         · simp (disch := omega) only [go_sem]
         · simp (disch := omega) only [List.take_zero, List.not_mem_nil, List.map_append, List.map_cons, List.map_nil, go_sem]
         have ex := Gt x (bs.take j) v.rep v.seq;by_cases hj2 : j < bs.length
         · have hbe : (bs.map Eb)[j]? = some (Eb bs[j]) := by simp [hj2]
           have ht : bs.take (j + 1) = bs.take j ++ [bs[j]] := by rw [List.take_add_one, List.getElem?_eq_getElem hj2]; rfl
           generalize bs[j] = b at *;have hjn := Wv x ((x.rep, x.seq) ∈ bs.take j) v.rep v.seq;have hsp := Jk (if (x.rep, x.seq) ∈ bs.take j then Eu x v.rep v.seq else x) (Cz (if (x.rep, x.seq) ∈ bs.take j then Eu x v.rep v.seq else x).gone (Qg v.rep v.seq));by_cases hb : b.1 = x.rep ∧ b.2 = x.seq
           · have hp := Gs hb;have hb' : (x.rep, x.seq) = b := by rw [← hb.1, ← hb.2]
             simp (disch := omega) only [Gr, List.length_map, hbe, Qo, C2, ex.1, ex.2, Gz, hp, M3, go_sem];refine Aa (Ui _ _ _) ?_;simp (disch := omega) only [hsp, hjn, go_sem];refine Ad (j + 1) _ _ rfl (by omega) (by omega) ?_ ?_
             · simp (disch := omega) only [go_sem]
             · simp (disch := omega) only [ht, hb', List.mem_append, List.mem_singleton, go_sem]
           · have hp := Fj hb;have hb' : ¬ (x.rep, x.seq) = b := fun e => hb (by rw [← e]; exact ⟨rfl, rfl⟩);simp (disch := omega) only [Gr, List.length_map, hbe, Qo, C2, ex.1, ex.2, Gz, hp, go_sem];refine Ad (j + 1) _ _ rfl (by omega) (by omega) ?_ ?_
             · simp (disch := omega) only [go_sem]
             · simp (disch := omega) only [ht, hb', List.mem_append, List.mem_singleton, or_false, go_sem]
         · obtain rfl : j = bs.length := by omega
           have e := List.take_length (l := bs);have hxl2 := Hb (if (x.rep, x.seq) ∈ bs then Eu x v.rep v.seq else x);simp (disch := omega) only [Gr, e, List.length_map, Km, hxl2, List.length_append, List.length_singleton, go_sem];refine ⟨p + 1, by omega, by omega, D2 110 16 (by decide) rfl (Ak ?_ ?_)⟩
           · simp (disch := omega) only [e2, go_sem]
           · simp (disch := omega) only [eo, List.map_append, List.map_cons, List.map_nil, go_sem]
       · have e1 : decide (p < k) = false := by simp; omega
         have e2 : decide (p < k + 1) = false := by simp; omega
         have eo := Avp (v := v) hpk hx;have hl7 := hl5 hpk;simp (disch := omega) only [Nu, e1, List.length_map, he, C2, go_sem];refine Aa (F8 _ _ _ _) ?_;simp (disch := omega) only [hl7, hv, List.length_map, he, Km, hxl, go_sem];refine A1 Ag (Gr f l g bs v k false (Kw M v p k) x) (fun j => j ≤ bs.length) (fun j => bs.length - j) 0 (by simp) (Ak ?_ ?_) fun j hj => ?_
         · simp (disch := omega) only [go_sem]
         · simp (disch := omega) only [List.take_zero, List.not_mem_nil, go_sem]
         have ex := Gt x (bs.take j) v.rep v.seq;by_cases hj2 : j < bs.length
         · have hbe : (bs.map Eb)[j]? = some (Eb bs[j]) := by simp [hj2]
           have ht : bs.take (j + 1) = bs.take j ++ [bs[j]] := by rw [List.take_add_one, List.getElem?_eq_getElem hj2]; rfl
           generalize bs[j] = b at *;have hjn := Wv x ((x.rep, x.seq) ∈ bs.take j) v.rep v.seq;have hsp := Jk (if (x.rep, x.seq) ∈ bs.take j then Eu x v.rep v.seq else x) (Cz (if (x.rep, x.seq) ∈ bs.take j then Eu x v.rep v.seq else x).gone (Qg v.rep v.seq));by_cases hb : b.1 = x.rep ∧ b.2 = x.seq
           · have hp := Gs hb;have hb' : (x.rep, x.seq) = b := by rw [← hb.1, ← hb.2]
             simp (disch := omega) only [Gr, List.length_map, hbe, Qo, C2, ex.1, ex.2, Gz, hp, M3, go_sem];refine Aa (Ui _ _ _) ?_;simp (disch := omega) only [hsp, hjn, go_sem];refine Ad (j + 1) _ _ rfl (by omega) (by omega) ?_ ?_
             · simp (disch := omega) only [go_sem]
             · simp (disch := omega) only [ht, hb', List.mem_append, List.mem_singleton, go_sem]
           · have hp := Fj hb;have hb' : ¬ (x.rep, x.seq) = b := fun e => hb (by rw [← e]; exact ⟨rfl, rfl⟩);simp (disch := omega) only [Gr, List.length_map, hbe, Qo, C2, ex.1, ex.2, Gz, hp, go_sem];refine Ad (j + 1) _ _ rfl (by omega) (by omega) ?_ ?_
             · simp (disch := omega) only [go_sem]
             · simp (disch := omega) only [ht, hb', List.mem_append, List.mem_singleton, or_false, go_sem]
         · obtain rfl : j = bs.length := by omega
           have e := List.take_length (l := bs);have hxl2 := Hb (if (x.rep, x.seq) ∈ bs then Eu x v.rep v.seq else x);simp (disch := omega) only [Gr, e, List.length_map, Km, hxl2, List.length_append, List.length_singleton, go_sem];refine ⟨k + 1, by omega, by omega, D2 110 16 (by decide) rfl (Ak ?_ ?_)⟩
           · simp (disch := omega) only [e2, go_sem]
           · simp (disch := omega) only [eo, List.map_append, List.map_cons, List.map_nil, go_sem]
     · obtain rfl : k = l.length := by omega
       by_cases hpl : p < l.length
       · have e1 : decide (p < l.length) = true := by simp [hpl]
         have e2 : Kw M v p l.length = M.take p ++ v :: M.drop p := by unfold Kw; rw [if_pos hpl, ← hMl, List.take_length]
         simp (disch := omega) only [Nu, e1, e2, List.length_map, go_sem];exact h3' _ _ rfl
       · have e1 : decide (p < l.length) = false := by simp; omega
         have ep : p = M.length := by omega
         have e2 : Kw M v p l.length = M := by unfold Kw; rw [if_neg hpl, ← hMl, List.take_length]
         simp (disch := omega) only [Nu, e1, e2, hv, List.length_map, go_sem];refine h3' _ _ ?_;simp (disch := omega) only [go_sem];simp [ep]
end Go.Proofs.YthmjebkldgdeiaaGreat.Fw
namespace Go.Proofs.YthmjebkldgdeiaaGreat.Fw
open Go.RowKit Go.Proofs
variable {P : Program} {F : Fr} {N : Nat} {ρ ρ' : Nat → Value} {s : FS} {a : Act} {w w' : World} {V V' : View}
def PImp (x y : PV) : Prop := ∀ (V : View) (v : Value), PConc V x v → PConc V y v
theorem PImp.refl (x : PV) : PImp x x := fun _ _ h => h
def PImpL : List PV → List PV → Prop
 | [], [] => True
 | x :: l, y :: m => PImp x y ∧ PImpL l m
 | _, _ => False
def PImpR : List (List PV) → List (List PV) → Prop
 | [], [] => True
 | x :: l, y :: m => PImpL x y ∧ PImpR l m
 | _, _ => False
theorem PImpL.refl : ∀ l : List PV, PImpL l l
 | [] => trivial
 | x :: l => ⟨.refl x, PImpL.refl l⟩
theorem PImpR.refl : ∀ l : List (List PV), PImpR l l
 | [] => trivial
 | x :: l => ⟨.refl x, PImpR.refl l⟩
theorem PImpL.len : ∀ {l m : List PV}, PImpL l m → l.length = m.length
 | [], [], _ => rfl
 | x :: l, y :: m, h => by simp [PImpL.len h.2]
 | [], _ :: _, h => h.elim
 | _ :: _, [], h => h.elim
theorem PImpR.len : ∀ {l m : List (List PV)}, PImpR l m → l.length = m.length
 | [], [], _ => rfl
 | x :: l, y :: m, h => by simp [PImpR.len h.2]
 | [], _ :: _, h => h.elim
 | _ :: _, [], h => h.elim
theorem PImpL.get : ∀ {l m : List PV} {j : Nat} {y : PV}, PImpL l m → m[j]? = some y → ∃ x, l[j]? = some x ∧ PImp x y
 | x :: l, z :: m, 0, y, h, hy => by simp at hy; subst hy; exact ⟨x, by simp, h.1⟩
 | x :: l, z :: m, j + 1, y, h, hy => by
   obtain ⟨u, h1, h2⟩ := PImpL.get (j := j) h.2 (by simpa using hy);exact ⟨u, by simpa using h1, h2⟩
 | [], [], j, y, _, hy => by simp at hy
 | [], _ :: _, _, _, h, _ => h.elim
 | _ :: _, [], _, _, h, _ => h.elim
theorem PImpR.get : ∀ {l m : List (List PV)} {j : Nat} {y : List PV}, PImpR l m → m[j]? = some y → ∃ x, l[j]? = some x ∧ PImpL x y
 | x :: l, z :: m, 0, y, h, hy => by simp at hy; subst hy; exact ⟨x, by simp, h.1⟩
 | x :: l, z :: m, j + 1, y, h, hy => by
   obtain ⟨u, h1, h2⟩ := PImpR.get (j := j) h.2 (by simpa using hy);exact ⟨u, by simpa using h1, h2⟩
 | [], [], j, y, _, hy => by simp at hy
 | [], _ :: _, _, _, h, _ => h.elim
 | _ :: _, [], _, _, h, _ => h.elim
theorem PImpL.app : ∀ {a b c d : List PV}, PImpL a b → PImpL c d → PImpL (a ++ c) (b ++ d)
 | [], [], c, d, _, k => k
 | x :: a, y :: b, c, d, h, k => ⟨h.1, PImpL.app h.2 k⟩
 | [], _ :: _, _, _, h, _ => h.elim
 | _ :: _, [], _, _, h, _ => h.elim
theorem PImpR.app : ∀ {a b c d : List (List PV)}, PImpR a b → PImpR c d → PImpR (a ++ c) (b ++ d)
 | [], [], c, d, _, k => k
 | x :: a, y :: b, c, d, h, k => ⟨h.1, PImpR.app h.2 k⟩
 | [], _ :: _, _, _, h, _ => h.elim
 | _ :: _, [], _, _, h, _ => h.elim
theorem He {f f' : Bool} {z z' : Nat} {es es' : List (List PV)} (hf : f' = true → f = true) (hz : es = [] ∨ z = z') (h : PImpR es es') : PImp (.sl f z es) (.sl f' z' es') := by
 intro V v hv;cases hv with
 | sl full sz es a cap cs bl off arr hcap hfull hsz ha hcs hel =>
   have hl := h.len;have hne : es' ≠ [] → es ≠ [] := fun e1 e2 => by subst e2; exact e1 (List.eq_nil_of_length_eq_zero hl.symm)
   rw [hl];refine .sl f' z' es' a cap cs bl off arr (by omega) (fun e => by rw [hfull (hf e)]; exact hl) (fun c hc => ?_) (fun e => ha (hne e)) (fun i j hi hj => ?_) fun i j c x hi hx => ?_
   · obtain ⟨j, hj⟩ := List.mem_iff_getElem?.1 hc;obtain ⟨u, h1, h2⟩ := h.get hj;rw [← h2.len, hsz u (List.mem_of_getElem? h1)];exact hz.resolve_left (hne (List.ne_nil_of_mem hc))
   · have e : z = z' := hz.resolve_left (hne fun e => by subst e; simp at hi);subst e;exact hcs i j (by omega) hj
   · obtain ⟨u, h1, h2⟩ := h.get hi;obtain ⟨y, h3, h4⟩ := h2.get hx;exact h4 V _ (hel i j u y h1 h3)
theorem Sv {x y : PV} (h : PImp x y) : Imp (.pv x) (.pv y) := fun V ρ v hv => by simp only [Conc] at hv ⊢; exact h V v hv
theorem Alg {n : Nat} {cs ds : List PV} (h : PImpL cs ds) : Imp (.vec n cs) (.vec n ds) := fun V ρ v hv => by
 simp only [Conc] at hv ⊢;obtain ⟨vs, h1, h2, h3⟩ := hv;refine ⟨vs, h1, h2, h.len.symm.trans h3.1, fun j x hx => ?_⟩;obtain ⟨u, h4, h5⟩ := h.get hx;obtain ⟨v', h6, h7⟩ := h3.2 j u h4;exact ⟨v', h6, h5 V v' h7⟩
def ImpS : List SV → List SV → Prop
 | [], [] => True
 | x :: l, y :: m => (Imp x y ∧ x.width = y.width) ∧ ImpS l m
 | _, _ => False
theorem ImpS.cells : ∀ {l m : List SV} {vs : List Value}, ImpS l m → Cells V ρ l vs → Cells V ρ m vs
 | [], [], vs, _, h => h
 | x :: l, y :: m, vs, h, k => by
   simp only [Cells] at k ⊢;obtain ⟨u, us, rfl, k1, k2, k3, k4⟩ := k;exact ⟨u, us, rfl, h.1.1 V ρ u k1, by rw [← h.1.2]; exact k2, k3, h.2.cells k4⟩
 | [], _ :: _, _, h, _ => h.elim
 | _ :: _, [], _, h, _ => h.elim
theorem Ad2 {l m : List SV} (h : ImpS l m) : Imp (.agg l) (.agg m) := fun V ρ v hv => by
 simp only [Conc] at hv ⊢;obtain ⟨vs, h1, h2⟩ := hv;exact ⟨vs, h1, h.cells h2⟩
theorem Ai4 {l m : List SV} (h : ImpL l m) : Imp (.tup l) (.tup m) := fun V ρ v hv => by
 simp only [Conc] at hv ⊢;obtain ⟨vs, h1, h2⟩ := hv;exact ⟨vs, h1, h.conc h2⟩
theorem N6 (hm : P.follows .mixedOrders = true) {f N' : Nat} {rs : List Rv} {c : C} (hf : A7 P f = some (N', rs, c)) {args : List SV} {h : Nat → Option Blk} {d : Nat} {x : SV} (hlen : args.length ≤ N')
 (hargs : SV.closedL args = true) (hx : x.closed = true) (hrun : ∀ F, sx (Q4 P F N') c (Ahp rs fun y _ => Imp y x) (mk (C9 0 args) [])) : FunOk P f args h d x [] := by
 obtain ⟨h1, h2, h3⟩ := Ch hargs;refine ⟨Cl hf, fun F N ρ s a w hR hh vs hc => ?_⟩;refine Calls.mono (Dd hm hf (h := h) hlen h2 V5 (by rw [h3]; exact hrun) hR hh hc) fun e w' he => ?_;obtain ⟨v, rfl, hg, N'', ρ', s', a', y, hR', hy, hyx⟩ := he;rw [h1, Dk] at hR' hy;exact ⟨v, ρ, rfl, hR.grew hg, Cb (Em hR') hx (hyx _ _ _ hy)⟩
theorem V4 {N' : Nat} {a' : Act} {s' : FS} (hR' : RelR ⟨w, fun _ => False, F.out ρ s.h, fun _ => undef, []⟩ N' ρ' s' a' w') {n sz : Nat} {es : List (List PV)} (hn : s'.h n = some (.row sz es)) : PConc (vw F w' ρ s) (.sl false sz es) (ρ' n) :=
 (Jn hR' hn).mono (Bl fun b c ho hc => ⟨fun hb => ho (.inr hb), hc⟩)
theorem Qz (hm : P.follows .mixedOrders = true) {f N' : Nat} {rs : List Rv} {c : C} (hf : A7 P f = some (N', rs, c)) {args : List SV} {h : Nat → Option Blk} {d : Nat} {sz : Nat} {es : List (List PV)} (hlen : args.length ≤ N')
 (hargs : SV.closedL args = true) (hrun : ∀ F, sx (Q4 P F N') c (Ol rs fun y g => (∃ n, y = .os n ∧ g n = some (.row sz es)) ∨ ∃ z, y = .pv (.sl true z []) ∧ es = [] ∧ 0 < sz) (mk (C9 0 args) [])) :
 FunOk P f args h d (.pv (.sl false sz es)) [] := by
 obtain ⟨h1, h2, h3⟩ := Ch hargs;refine ⟨Cl hf, fun F N ρ s a w hR hh vs hc => ?_⟩;refine Calls.mono (Dd hm hf (h := h) hlen h2 Jo (by rw [h3]; exact hrun) hR hh hc) fun e w' he => ?_;obtain ⟨v, rfl, hg, N'', ρ', s', a', y, hR', hy, hyy⟩ := he;rw [h1, Dk] at hR' hy;refine ⟨v, ρ, rfl, hR.grew hg, ?_⟩;rcases hyy with ⟨n, rfl, hn⟩ | ⟨z, rfl, rfl, hsz⟩
 · simp only [Conc] at hy ⊢;rw [hy.1];exact V4 hR' hn
 · simp only [Conc] at hy ⊢;exact (He (by simp) (.inl rfl) (.refl [])) _ _ (hy.mono (Em hR'))
theorem Aly (hm : P.follows .mixedOrders = true) {f N' : Nat} {rs : List Rv} {c : C} (hf : A7 P f = some (N', rs, c)) {args : List SV} {h : Nat → Option Blk} {d : Nat} {sz : Nat} {es : List (List PV)} {z0 : SV} (hlen : args.length ≤ N')
 (hargs : SV.closedL args = true) (hz : z0.closed = true) (hrun : ∀ F, sx (Q4 P F N') c (Ol rs fun y g => (∃ n, y = .tup [.os n, z0] ∧ g n = some (.row sz es)) ∨ ∃ z, y = .tup [.pv (.sl true z []), z0] ∧ es = []) (mk (C9 0 args) [])) :
 FunOk P f args h d (.tup [.pv (.sl false sz es), z0]) [] := by
 obtain ⟨h1, h2, h3⟩ := Ch hargs;refine ⟨Cl hf, fun F N ρ s a w hR hh vs hc => ?_⟩;refine Calls.mono (Dd hm hf (h := h) hlen h2 Jo (by rw [h3]; exact hrun) hR hh hc) fun e w' he => ?_;obtain ⟨v, rfl, hg, N'', ρ', s', a', y, hR', hy, hyy⟩ := he;rw [h1, Dk] at hR' hy;refine ⟨v, ρ, rfl, hR.grew hg, ?_⟩;rcases hyy with ⟨n, rfl, hn⟩ | ⟨z, rfl, rfl⟩
 · simp only [Conc, ConcL] at hy ⊢;obtain ⟨vs, rfl, u, us, rfl, hu, u2, us2, rfl, hu2, rfl⟩ := hy;refine ⟨_, rfl, u, _, rfl, ?_, u2, _, rfl, Cb (Em hR') hz hu2, rfl⟩;rw [hu.1]; exact V4 hR' hn
 · simp only [Conc, ConcL] at hy ⊢;obtain ⟨vs, rfl, u, us, rfl, hu, u2, us2, rfl, hu2, rfl⟩ := hy;exact ⟨_, rfl, u, _, rfl, (He (by simp) (.inl rfl) (.refl [])) _ _ (hu.mono (Em hR')), u2, _, rfl, Cb (Em hR') hz hu2, rfl⟩
theorem Y6 (hm : P.follows .mixedOrders = true) {f N' : Nat} {rs : List Rv} {c : C} (hf : A7 P f = some (N', rs, c)) {args : List SV} {h : Nat → Option Blk} {d : Nat} {sz : Nat} {es : List (List PV)} (hlen : args.length ≤ N')
 (hargs : Be args = true) (hx : ∀ c ∈ es, c.all PV.flat = true) (hrun : ∀ F, sx (Q4 P F N') c (Ol rs fun y g => (∃ n, y = .os n ∧ g n = some (.row sz es)) ∨ ∃ z, y = .pv (.sl true z []) ∧ es = [] ∧ 0 < sz) (mk (C9 0 (Cn h args)) [])) :
 FunOk P f args h d (.pv (.sl false sz es)) [] := by
 refine ⟨Cl hf, fun F N ρ s a w hR hh vs hc => ?_⟩;refine Calls.mono (Dd hm hf (h := h) hlen hargs Jo hrun hR hh hc) fun e w' he => ?_;obtain ⟨v, rfl, hg, N'', ρ', s', a', y, hR', hy, hyy⟩ := he;refine ⟨v, ρ, rfl, hR.grew hg, ?_⟩;rcases hyy with ⟨n, rfl, hn⟩ | ⟨z, rfl, rfl, hsz⟩
 · simp only [Conc] at hy ⊢;rw [hy.1];have hp := Jn hR' hn;have hnew : ∀ b, Cq (ρ' n) = some b → w.heap.size ≤ b := fun b hb => (hR'.may b ⟨n, _, hn, hb⟩).resolve_right id;generalize ρ' n = u at hp hnew;cases hp with
   | sl full sz es a cap cs bl off arr hcap hfull hsz ha hcs hel =>
     refine .sl false sz es a cap cs bl off arr hcap hfull hsz (fun hne => ?_) hcs fun i j c x hi hj => N7 (List.all_eq_true.1 (hx c (List.mem_of_getElem? hi)) x (List.mem_of_getElem? hj)) (hel i j c x hi hj);obtain ⟨rfl, hV⟩ := ha hne;refine ⟨rfl, ?_⟩;have hcp : cap ≠ 0 := fun e => by subst e; exact hne (List.eq_nil_of_length_eq_zero (by omega))
     have hb := hnew bl (by simp [Cq, hcp]);have hc' : Er w' bl = some arr := by
      unfold vw A0 at hV;split at hV
      · cases hV
      · exact hV
     show A0 w' (F.out ρ s.h) bl = some arr;unfold A0;rw [if_neg]
     · exact hc'
     · rintro (ho | ho)
       · have := hR.lt ho; omega
       · have := (hR.fr.hid bl ho).1; have := hR.fr.size; omega
 · simp only [Conc] at hy ⊢;have hy' : PConc (vw F w' ρ s) (.sl true z []) v := N7 rfl hy;exact (He (by simp) (.inl rfl) (.refl [])) _ _ hy'
theorem DeepOk.frz {f : Nat} {args args' : List SV} {h h' : Nat → Option Blk} {d d' : Nat} {x : SV} {u : List HU} {n sz : Nat} {es : List (List PV)} (hn : h n = some (.row sz es)) (ha : SV.frzL n (.sl false sz es) args = args')
 (hh' : ∀ k ∈ A6 args', (if k = n then none else (h k).map (Blk.frz n (.sl false sz es))) = h' k) (hf : FunOk P f args' h' d' x u) : DeepOk P f args h d x (.frz n (.sl false sz es) :: u) := by
 refine ⟨hf.1, fun F N ρ s a w hR hh vs hv => ?_⟩;subst ha;have hs : s.h n = some (.row sz es) := by rw [hh]; exact hn
 obtain ⟨hR', hV, hV2⟩ := hR.frz hs;have hp := (Jn hR hs).mono hV2;exact hf.2 F N ρ (s.frz n (.sl false sz es)) a w hR' (fun k hk => by rw [← hh' k hk]; simp only [FS.frz, hh]) vs (ConcL.frz hV hp hv)
end Go.Proofs.YthmjebkldgdeiaaGreat.Fw
