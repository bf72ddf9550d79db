/- What the functions compute that the laws of this seat reach. -/
import Derived.Test.YthmjebkldgdeiaaGreatIr
import Derived.OpenShut
import Derived.ShutString
import Derived.ChangeOld
import Derived.SizedLaws
import Derived.ChangeOld
import Derived.Lib.Bytealg
import Derived.Lib.Overlaps
import Derived.OpenShut
import Derived.ShutString
import Derived.SizedLaws
set_option linter.unusedVariables false
set_option linter.unusedSimpArgs false
set_option linter.unusedSectionVars false
set_option maxRecDepth 100000
namespace Go.Proofs.YthmjebkldgdeiaaGreat.Fw
open Go.RowKit Go.Proofs
def Cp (a b : Vc) : Vc := fun i => max (a i) (b i)
def Mz (a b : Vc) : Prop := ∀ i, i < 8 → a i ≤ b i
instance (a b : Vc) : Decidable (Mz a b) := inferInstanceAs (Decidable (∀ i, i < 8 → a i ≤ b i))
def Avo (a b : Vc) : Int := if vEq a b then 0 else if Mz a b then -1 else if Mz b a then 1 else 2
theorem Aim (a b : Vc) : Avo a b ≤ 0 ↔ Mz a b := by
 unfold Avo;by_cases h : vEq a b
 · have : Mz a b := fun i hi => by rw [h i hi]; exact Nat.le_refl _
   simp [h, this]
 · by_cases h2 : Mz a b
   · simp [h, h2]
   · by_cases h3 : Mz b a <;> simp [h, h2, h3]
def Af2 (a b : Vc) (k : Nat) : FS := mk [(8, .pv (.i .i64 k)), (7, .vec 8 (vE b)), (4, .p 4 0), (2, .p 2 0)] [(2, some (.var (.vec 8 (vE fun i => if i < k then Cp a b i else a i)))), (4, some (.var (.vec 8 (vE fun _ => 0))))]
theorem Aqs (a b : Vc) {h d} : FunOk Tryz.prog 107 [.vec 8 (vE a), .vec 8 (vE b)] h d (.vec 8 (vE (Cp a b))) [] := by
 refine Al Af fn107 (by simp) rfl rfl fun F => ?_;simp (disch := omega) only [ir107, go_sem];refine A0 Af (Af2 a b) (fun k => k ≤ 8) (fun k => 8 - k) 0 (by simp) (Ah ?_ ?_) fun k hk => ?_
 · simp (disch := omega) only [go_sem]
 · simp (disch := omega) only [Aal, go_sem]
 by_cases hlt : k < 8
 · simp (disch := omega) only [Af2, go_sem];refine Ad (k + 1) _ _ rfl (by omega) (by omega) ?_ ?_
   · simp (disch := omega) only [go_sem]
   · simp (disch := omega) only [go_sem];exact Jh (Aft _ _ _ (by simp [Cp]))
 · simp (disch := omega) only [Af2, Afu, go_sem]
def Jt (a b : Vc) (k : Nat) : Prop := ¬ ∀ i, i < k → ¬ a i < b i
instance (a b : Vc) (k : Nat) : Decidable (Jt a b k) := inferInstanceAs (Decidable (¬ ∀ i, i < k → ¬ a i < b i))
theorem Wn (a b : Vc) (k : Nat) : Jt a b k ↔ ∃ i, i < k ∧ a i < b i := by unfold Jt; simp
def Aar (a b : Vc) (k : Nat) : FS := mk [(7, .pv (.i .i64 k)), (5, .pv (.b (decide (Jt a b k)))), (6, .pv (.b (decide (Jt b a k)))), (2, .p 2 0), (3, .p 3 0)] [(2, some (.var (.vec 8 (vE a)))), (3, some (.var (.vec 8 (vE b))))]
theorem Adb (a b : Vc) (k : Nat) : Jt a b (k + 1) ↔ Jt a b k ∨ a k < b k := by
 simp only [Wn];constructor
 · rintro ⟨i, h1, h2⟩;by_cases e : i = k
   · subst e; exact .inr h2
   · exact .inl ⟨i, by omega, h2⟩
 · rintro (⟨i, h1, h2⟩ | h)
   · exact ⟨i, by omega, h2⟩
   · exact ⟨k, by omega, h⟩
theorem Apf (a b : Vc) : Jt a b 8 ↔ ¬ Mz b a := by
 rw [Wn];constructor
 · rintro ⟨i, h1, h2⟩ h; have := h i h1; omega
 · intro h;refine Decidable.byContradiction fun hn => h fun i hi => ?_;refine Nat.le_of_not_lt fun hl => hn ⟨i, hi, hl⟩
theorem Avp (a b : Vc) : vEq a b ↔ Mz a b ∧ Mz b a :=
 ⟨fun h => ⟨fun i hi => by rw [h i hi]; exact Nat.le_refl _, fun i hi => by rw [h i hi]; exact Nat.le_refl _⟩, fun h i hi => Nat.le_antisymm (h.1 i hi) (h.2 i hi)⟩
theorem Aep {a b : Bool} (h : a = b) : Imp (.pv (.b a)) (.pv (.b b)) := h ▸ Imp.refl _
set_option maxHeartbeats 1000000 in
theorem Aqn (a b : Vc) {h d} : FunOk Tryz.prog 76 [.vec 8 (vE a), .vec 8 (vE b)] h d (.pv (.i .i64 (Avo a b))) [] := by
 refine Al Af fn76 (by simp) rfl rfl fun F => ?_;simp (disch := omega) only [ir76, go_sem];refine A0 Af (Aar a b) (fun k => k ≤ 8) (fun k => 8 - k) 0 (by simp) (Ah ?_ ?_) fun k hk => ?_
 · simp (disch := omega) only [go_sem];have e : ∀ x y : Vc, ¬ Jt x y 0 := fun x y => by rw [Wn]; rintro ⟨i, h, _⟩; omega
   refine ⟨Aep ?_, Aep ?_⟩ <;> simp [e]
 · simp (disch := omega) only [go_sem]
 by_cases hlt : k < 8
 · by_cases h1 : Jt a b k <;> by_cases h2 : Jt b a k
   all_goals simp (disch := omega) only [Aar, h1, h2, go_sem]
   all_goals refine Ad (k + 1) _ _ rfl (by omega) (by omega) ?_ ?_
   all_goals simp (disch := omega) only [go_sem]
   all_goals try refine ⟨Aep ?_, Aep ?_⟩
   all_goals try refine Aep ?_
   all_goals simp [Adb, h1, h2]
 · obtain rfl : k = 8 := by omega
   by_cases h1 : Mz a b <;> by_cases h2 : Mz b a
   all_goals simp (disch := omega) only [Aar, Apf, h1, h2, go_sem]
   all_goals simp [Avo, Avp, h1, h2]
theorem Agp (a b : Vc) {h d} : FunOk Tryz.prog 44 [.vec 8 (vE a), .vec 8 (vE b)] h d (.pv (.b (decide (Mz a b)))) [] := by
 refine Al Af fn44 (by simp) rfl rfl fun F => ?_;simp (disch := omega) only [ir44, go_sem];refine Aa (Aqn a b) ?_;simp (disch := omega) only [go_sem];by_cases h1 : Mz a b
 · simp [Aim, h1]
 · simp [Aim, h1]
end Go.Proofs.YthmjebkldgdeiaaGreat.Fw
namespace Go.Proofs.YthmjebkldgdeiaaGreat.Fw
open Go.RowKit
noncomputable abbrev My (w : World) : View := Az w fun _ => False
theorem Z6 {w : World} {a : Addr} {v : Value} (h : w.cell? a = some v) : a.spot = none ∧ ∃ arr, My w a.block = some arr ∧ arr[a.off]? = some v := by
 unfold World.cell? at h;split at h
 · rename_i c ty fr hb;split at h
   · cases h
   · rename_i hs;refine ⟨by cases hx : a.spot <;> simp_all, c, ?_, h⟩;unfold My Az Ep;simp [hb]
 · cases h
inductive Sh where
 | int (k : IntKind) | bool | str | arr (n : Nat) (s : Sh) | st (l : List Sh) | sl (s : Sh)
mutual
def Sh.w : Sh → Nat
 | .arr n s => n * s.w
 | .st l => Sh.wL l
 | _ => 1
def Sh.wL : List Sh → Nat
 | [] => 0
 | s :: l => s.w + Sh.wL l
end
mutual
def shB (P : Program) : Sh → TypeId → Bool
 | .int k, t => match P.underlying t with | some (.int k') => decide (k = k') | _ => false
 | .bool, t => match P.underlying t with | some .bool => true | _ => false
 | .str, t => match P.underlying t with | some .string => true | _ => false
 | .arr n s, t => match P.underlying t with | some (.array n' e) => decide (n = n') && decide (P.cellsOf e = s.w) && decide (P.cellsOf t = n * s.w) && shB P s e | _ => false
 | .st l, t => match P.underlying t with | some (.struct fs) => decide (P.cellsOf t = Sh.wL l) && App P l fs.toList 0 | _ => false
 | .sl s, t => match P.underlying t with | some (.slice e) => decide (P.cellsOf e = s.w) && decide (0 < s.w) && shB P s e | _ => false
def App (P : Program) : List Sh → List Field → Nat → Bool
 | [], [], _ => true
 | s :: l, f :: fs, off => decide (f.offset = off) && decide (P.cellsOf f.type = s.w) && shB P s f.type && App P l fs (off + s.w)
 | _, _, _ => false
end
mutual
def GC : Sh → List PV → Prop
 | .int k, cs => ∃ n, cs = [.i k n] ∧ (Lit.int k n).wf = true
 | .bool, cs => ∃ b, cs = [.b b]
 | .str, cs => ∃ l, cs = [.s l] ∧ l.length ≤ maxLen
 | .arr n s, cs => ∃ cc : List (List PV), cs = cc.flatten ∧ cc.length = n ∧ ∀ c ∈ cc, GC s c
 | .st l, cs => GCL l cs
 | .sl s, cs => ∃ es, cs = [.sl false s.w es] ∧ es.length ≤ maxLen ∧ ∀ c ∈ es, GC s c
def GCL : List Sh → List PV → Prop
 | [], cs => cs = []
 | s :: l, cs => ∃ c cs', cs = c ++ cs' ∧ GC s c ∧ GCL l cs'
end
theorem Aez {w : Nat} : ∀ {cc : List (List PV)}, (∀ c ∈ cc, c.length = w) → cc.flatten.length = cc.length * w
 | [], _ => by simp
 | c :: cc, h => by
   rw [List.flatten_cons, List.length_append, Aez fun c hc => h c (by simp [hc]), h c (by simp), List.length_cons, Nat.add_mul]; omega
mutual
theorem GC.len : ∀ {s : Sh} {cs : List PV}, GC s cs → cs.length = s.w
 | .int k, cs, h => by obtain ⟨n, rfl, _⟩ := h; rfl
 | .bool, cs, h => by obtain ⟨n, rfl⟩ := h; rfl
 | .str, cs, h => by obtain ⟨n, rfl, _⟩ := h; rfl
 | .arr n s, cs, h => by
   simp only [GC] at h;obtain ⟨cc, rfl, rfl, h⟩ := h;rw [Aez fun c hc => GC.len (h c hc)]; rfl
 | .st l, cs, h => by simp only [GC] at h; simp only [Sh.w]; exact GCL.len h
 | .sl s, cs, h => by obtain ⟨n, rfl, _⟩ := h; rfl
theorem GCL.len : ∀ {l : List Sh} {cs : List PV}, GCL l cs → cs.length = Sh.wL l
 | [], cs, h => by simp only [GCL] at h; subst h; rfl
 | s :: l, cs, h => by
   simp only [GCL] at h;obtain ⟨c, cs', rfl, h1, h2⟩ := h;rw [List.length_append, GC.len h1, GCL.len h2]; rfl
end
theorem Aul {V : View} {s : Sh} : ∀ (n : Nat) (vs : List Value), vs.length = n * s.w → (∀ i, i < n → ∃ c, GC s c ∧ PCells V c ((vs.drop (i * s.w)).take s.w)) → ∃ cc : List (List PV), cc.length = n ∧ (∀ c ∈ cc, GC s c) ∧ PCells V cc.flatten vs
 | 0, vs, hl, h => by
   have : vs = [] := List.eq_nil_of_length_eq_zero (by omega);subst this;exact ⟨[], rfl, by simp, PCells.nil⟩
 | n + 1, vs, hl, h => by
   rw [Nat.add_mul] at hl;obtain ⟨c, g, p⟩ := h 0 (by omega);rw [Nat.zero_mul, List.drop_zero] at p;obtain ⟨cc, e1, e2, e3⟩ := Aul (V := V) (s := s) n (vs.drop s.w) (by rw [List.length_drop]; omega) fun i hi => by
    obtain ⟨c', g', p'⟩ := h (i + 1) (by omega);refine ⟨c', g', ?_⟩;rw [List.drop_drop, show s.w + i * s.w = (i + 1) * s.w from by rw [Nat.add_mul]; omega];exact p'
   refine ⟨c :: cc, by simp [e1], fun x hx => ?_, ?_⟩
   · rcases List.mem_cons.1 hx with rfl | hx
     · exact g
     · exact e2 x hx
   · rw [List.flatten_cons];have := PCells.append p e3
     rwa [List.take_append_drop] at this
theorem Az8 {a : Addr} (h : a.spot = none) (i j : Nat) : (a.add i).add j = ⟨a.block, a.off + (i + j), none⟩ := by
 obtain ⟨b, o, sp⟩ := a;simp only at h; subst h;unfold Addr.add;by_cases hi : i = 0
 · subst hi;by_cases hj : j = 0
   · subst hj; simp
   · simp [hj]
 · by_cases hj : j = 0
   · subst hj; simp [hi]
   · simp [hi, hj]; omega
theorem Api {w : World} {s : Sh} {a : Addr} {len cap : Nat} (hcap : len ≤ cap) (hw : 0 < s.w)
 (h : ∀ i, i < len → ∃ c vs, GC s c ∧ PCells (My w) c vs ∧ w.cells? 0 (a.add (i * s.w)) s.w = some vs) :
 ∃ es : List (List PV), es.length = len ∧ (∀ c ∈ es, GC s c) ∧ PConc (My w) (.sl false s.w es) (.slice (some a) len cap) := by
 by_cases h0 : len = 0
 · subst h0;exact ⟨[], rfl, by simp, .sl false s.w [] (some a) cap (fun _ _ => undef) 0 0 #[] (by simp) (by simp) (by simp) (by simp) (by simp) (by simp)⟩
 · have h' : ∀ i, ∃ c vs, i < len → GC s c ∧ PCells (My w) c vs ∧ w.cells? 0 (a.add (i * s.w)) s.w = some vs := fun i => by
    by_cases hi : i < len
    · obtain ⟨c, vs, h1⟩ := h i hi; exact ⟨c, vs, fun _ => h1⟩
    · exact ⟨[], [], fun h => absurd h hi⟩
   obtain ⟨c, hc⟩ := Classical.axiomOfChoice h';obtain ⟨vs, hv⟩ := Classical.axiomOfChoice hc;obtain ⟨g0, p0, k0⟩ := hv 0 (by omega);obtain ⟨_, l0, c0⟩ := World.cells?_some k0;have c00 := c0 0 hw;have hlen0 : 0 < (vs 0).length := by omega
   rw [List.getElem?_eq_getElem hlen0, Nat.zero_mul] at c00;have e0 : (a.add 0).add 0 = a := by simp [Addr.add]
   rw [e0] at c00;obtain ⟨hs, arr, harr, _⟩ := Z6 c00;have hget : ∀ i j, i < len → j < s.w → arr[a.off + (i * s.w + j)]? = (vs i)[j]? := fun i j hi hj => by
    obtain ⟨_, _, k⟩ := hv i hi;obtain ⟨_, ll, cc⟩ := World.cells?_some k;have h1 := cc j hj;have hlt : j < (vs i).length := by omega
    rw [List.getElem?_eq_getElem hlt, Az8 hs] at h1;obtain ⟨_, arr', ha', h2⟩ := Z6 h1;simp only at ha' h2;rw [harr] at ha'; cases ha';rw [h2, List.getElem?_eq_getElem hlt]
   have hel : ∀ i, i < len → ((List.range len).map c)[i]? = some (c i) := fun i hi => by simp [hi]
   refine ⟨(List.range len).map c, by simp, fun x hx => ?_, ?_⟩
   · obtain ⟨i, hi, rfl⟩ := List.mem_map.1 hx;exact (hv i (by simpa using hi)).1
   · have e := PConc.sl (V := My w) false s.w ((List.range len).map c) (some a) cap (fun i j => (vs i).getD j undef) a.block a.off arr (by simpa using hcap) (by simp) (fun x hx => by
      obtain ⟨i, hi, rfl⟩ := List.mem_map.1 hx;exact (hv i (by simpa using hi)).1.len) (fun _ => by
      obtain ⟨b, o, sp⟩ := a;simp only at hs; subst hs;exact ⟨rfl, harr⟩) (fun i j hi hj => by
      have hi' : i < len := by simpa using hi
      rw [hget i j hi' hj];have : j < (vs i).length := by
       obtain ⟨_, ll, _⟩ := World.cells?_some (hv i hi').2.2; omega
      simp [List.getD_eq_getElem?_getD, this]) (fun i j x y hx hy => by
      have hi' : i < len := by
       have := (List.getElem?_eq_some_iff.1 hx).1; simpa using this
      rw [hel i hi'] at hx; cases hx;obtain ⟨v, hv1, hv2⟩ := (hv i hi').2.1.2 j y hy;simp only [List.getD_eq_getElem?_getD, hv1, Option.getD_some]; exact hv2)
     simpa using e
section
variable {H : Type} {enc : TypeId × Value → H} {P : Program} {w : World} {spare : Nat → Bool} {held : Bool}
mutual
theorem U0 : ∀ (s : Sh) {t : TypeId} {fuel : Nat} {vs : List Value} {x}, shB P s t = true → DataW.trod enc P w 0 spare held fuel t vs = some x → ∃ cs, GC s cs ∧ PCells (My w) cs vs
 | .int k, t, fuel, vs, x, hs, h => by
   simp only [shB] at hs;split at hs
   · rename_i k' hu;obtain rfl := of_decide_eq_true hs;obtain ⟨n, rfl, _, hw⟩ := DataW.trod_int hu h;exact ⟨[.i k n], ⟨n, rfl, hw⟩, PCells.cons (.i _ _) PCells.nil⟩
   · cases hs
 | .bool, t, fuel, vs, x, hs, h => by
   simp only [shB] at hs;split at hs
   · rename_i hu;obtain ⟨n, rfl, _⟩ := DataW.trod_bool hu h;exact ⟨[.b n], ⟨n, rfl⟩, PCells.cons (.b _) PCells.nil⟩
   · cases hs
 | .str, t, fuel, vs, x, hs, h => by
   simp only [shB] at hs;split at hs
   · rename_i hu;obtain ⟨b, rfl, _, hl⟩ := DataW.trod_string hu h;refine ⟨[.s b.data.toList], ⟨b.data.toList, rfl, by simpa using hl⟩, PCells.cons ?_ PCells.nil⟩;have := PConc.s (V := My w) b.data.toList;simpa using this
   · cases hs
 | .arr n s, t, fuel, vs, x, hs, h => by
   simp only [shB] at hs;split at hs
   · rename_i n' e hu;simp only [Bool.and_eq_true, decide_eq_true_eq] at hs;obtain ⟨⟨⟨rfl, h1⟩, h2⟩, h3⟩ := hs;obtain ⟨xs, m, rfl, _, hl, hx, hg⟩ := DataW.trod_array hu h;rw [h1] at hg;obtain ⟨cc, e1, e2, e3⟩ := Aul (V := My w) (s := s) n vs (by rw [hl, h2]) fun i hi => by
      have := hg i hi;rw [List.getElem?_eq_getElem (by omega)] at this;exact U0 s h3 this
     exact ⟨cc.flatten, by simp only [GC]; exact ⟨cc, rfl, e1, e2⟩, e3⟩
   · cases hs
 | .st l, t, fuel, vs, x, hs, h => by
   simp only [shB] at hs;split at hs
   · rename_i fs hu;simp only [Bool.and_eq_true, decide_eq_true_eq] at hs;obtain ⟨h2, h3⟩ := hs;obtain ⟨xs, m, rfl, _, hl, hx, hg⟩ := DataW.trod_struct hu h;obtain ⟨cs, e1, e2⟩ := Acy l (off := 0) (vs := vs) h3 fun f hf => by
      obtain ⟨i, hi⟩ := List.mem_iff_getElem?.1 hf;have hi2 : fs[i]? = some f := by simpa using hi
      have := hg i f hi2;have hlt := (Array.getElem?_eq_some_iff.1 hi2).1;rw [List.getElem?_eq_getElem (by omega)] at this;exact ⟨_, _, this⟩
     rw [List.drop_zero, ← h2, ← hl, List.take_length] at e2;exact ⟨cs, by simp only [GC]; exact e1, e2⟩
   · cases hs
 | .sl s, t, fuel, vs, x, hs, h => by
   simp only [shB] at hs;split at hs
   · rename_i e hu;simp only [Bool.and_eq_true, decide_eq_true_eq] at hs;obtain ⟨⟨h1, h2⟩, h3⟩ := hs;rcases DataW.trod_slice hu h with ⟨rfl, _⟩ | ⟨a, len, cap, Dl, rest, n, rfl, rfl, _, _, hl, hm, hle, hg, _⟩
     · exact ⟨[.sl false s.w []], by simp only [GC]; exact ⟨[], rfl, by simp, by simp⟩, PCells.cons (.sl false s.w [] none 0 (fun _ _ => undef) 0 0 #[] (by simp) (by simp) (by simp) (by simp) (by simp) (by simp)) PCells.nil⟩
     · rw [h1] at hg;obtain ⟨es, e1, e2, e3⟩ := Api (w := w) (s := s) (a := a) hl h2 fun i hi => by
        have h4 := hg i hi;rw [List.getElem?_eq_getElem (by omega)] at h4;obtain ⟨vs, h5, h6⟩ := Option.bind_eq_some_iff.1 h4;obtain ⟨c, g, p⟩ := U0 s h3 h6;exact ⟨c, vs, g, p, h5⟩
       exact ⟨[.sl false s.w es], by simp only [GC]; exact ⟨es, rfl, by omega, e2⟩, PCells.cons e3 PCells.nil⟩
   · cases hs
theorem Acy : ∀ (l : List Sh) {fs : List Field} {off : Nat} {vs : List Value}, App P l fs off = true →
 (∀ f ∈ fs, ∃ n x, DataW.trod enc P w 0 spare held n f.type ((vs.drop f.offset).take (P.cellsOf f.type)) = some x) → ∃ cs, GCL l cs ∧ PCells (My w) cs ((vs.drop off).take (Sh.wL l))
 | [], fs, off, vs, hs, h => ⟨[], by simp only [GCL], by simp only [Sh.wL, List.take_zero]; exact PCells.nil⟩
 | s :: l, [], off, vs, hs, h => by simp [App] at hs
 | s :: l, f :: fs, off, vs, hs, h => by
   simp only [App, Bool.and_eq_true, decide_eq_true_eq] at hs;obtain ⟨⟨⟨h1, h2⟩, h3⟩, h4⟩ := hs;obtain ⟨n, x, hx⟩ := h f (by simp);obtain ⟨c, g, p⟩ := U0 s h3 hx;obtain ⟨cs, gl, pl⟩ := Acy l (vs := vs) h4 fun f hf => h f (by simp [hf]);refine ⟨c ++ cs, by simp only [GCL]; exact ⟨c, cs, rfl, g, gl⟩, ?_⟩;rw [h1, h2] at p;have := PCells.append p pl;have e : (vs.drop off).take (Sh.wL (s :: l)) = (vs.drop off).take s.w ++ (vs.drop (off + s.w)).take (Sh.wL l) := by
    simp only [Sh.wL];rw [List.take_add, List.drop_drop]
   rw [e]; exact this
end
end
mutual
def Jc : Sh → List PV → SV
 | .arr n s, cs => .vec (n * s.w) cs
 | .st l, cs => .agg (Pp l cs)
 | _, cs => .pv (cs.headD (.b false))
def Pp : List Sh → List PV → List SV
 | [], _ => []
 | s :: l, cs => (Jc s (cs.take s.w)).segs ++ Pp l (cs.drop s.w)
end
def Sh.isAg : Sh → Bool
 | .arr _ _ => true
 | .st _ => true
 | _ => false
theorem Rw {V : View} {ρ : Nat → Value} : ∀ {l m : List SV} {a b : List Value}, Cells V ρ l a → Cells V ρ m b → Cells V ρ (l ++ m) (a ++ b)
 | [], m, a, b, h1, h2 => by simp only [Cells] at h1; subst h1; exact h2
 | x :: l, m, a, b, h1, h2 => by
   simp only [Cells, List.cons_append] at h1 ⊢;obtain ⟨u, us, rfl, c, d, e, f⟩ := h1;exact ⟨u, us ++ b, by simp, c, d, e, Rw f h2⟩
mutual
theorem Z5 {V : View} {ρ : Nat → Value} : ∀ (s : Sh) {cs : List PV} {v : Value}, GC s cs → PCells V cs (Ax v) → (s.isAg = true → ∃ vs, v = .agg ⟨vs⟩) → (s.isAg = false → ∀ vs, v ≠ .agg vs) → Conc V ρ (Jc s cs) v
 | .int k, cs, v, g, p, _, h => by
   obtain ⟨n, rfl, _⟩ := g;have e : Ax v = [v] := by cases v <;> first | rfl | exact absurd rfl (h rfl _)
   rw [e] at p;obtain ⟨v', h1, h2⟩ := p.2 0 _ rfl;simp at h1; subst h1;simp only [Jc, Conc, List.headD_cons]; exact h2
 | .bool, cs, v, g, p, _, h => by
   obtain ⟨n, rfl⟩ := g;have e : Ax v = [v] := by cases v <;> first | rfl | exact absurd rfl (h rfl _)
   rw [e] at p;obtain ⟨v', h1, h2⟩ := p.2 0 _ rfl;simp at h1; subst h1;simp only [Jc, Conc, List.headD_cons]; exact h2
 | .str, cs, v, g, p, _, h => by
   obtain ⟨n, rfl, _⟩ := g;have e : Ax v = [v] := by cases v <;> first | rfl | exact absurd rfl (h rfl _)
   rw [e] at p;obtain ⟨v', h1, h2⟩ := p.2 0 _ rfl;simp at h1; subst h1;simp only [Jc, Conc, List.headD_cons]; exact h2
 | .sl s, cs, v, g, p, _, h => by
   simp only [GC] at g;obtain ⟨n, rfl, _⟩ := g;have e : Ax v = [v] := by cases v <;> first | rfl | exact absurd rfl (h rfl _)
   rw [e] at p;obtain ⟨v', h1, h2⟩ := p.2 0 _ rfl;simp at h1; subst h1;simp only [Jc, Conc, List.headD_cons]; exact h2
 | .arr n s, cs, v, g, p, h, _ => by
   obtain ⟨vs, rfl⟩ := h rfl;have hl := g.len;simp only [Jc, Conc];refine ⟨vs, rfl, ?_, p⟩;have e1 : vs.length = cs.length := p.1.symm;rw [e1, hl]; rfl
 | .st l, cs, v, g, p, h, _ => by
   obtain ⟨vs, rfl⟩ := h rfl;simp only [GC] at g;simp only [Jc, Conc];exact ⟨vs, rfl, Nw l g p⟩
theorem Nw {V : View} {ρ : Nat → Value} : ∀ (l : List Sh) {cs : List PV} {vs : List Value}, GCL l cs → PCells V cs vs → Cells V ρ (Pp l cs) vs
 | [], cs, vs, g, p => by
   simp only [GCL] at g; subst g;have : vs = [] := List.eq_nil_of_length_eq_zero (by rw [← p.1]; rfl);subst this;simp only [Pp, Cells]
 | s :: l, cs, vs, g, p => by
   simp only [GCL] at g;obtain ⟨c, cs', rfl, g1, g2⟩ := g;have hl := g1.len;have p1 : PCells V c (vs.take c.length) := by
    have := p.split c.length |>.1;simpa using this
   have p2 : PCells V cs' (vs.drop c.length) := by
    have := p.split c.length |>.2;simpa using this
   have hvs : vs = vs.take c.length ++ vs.drop c.length := (List.take_append_drop _ _).symm;have hlen : (vs.take c.length).length = s.w := by rw [← p1.1, hl]
   simp only [Pp];rw [List.take_left' hl, List.drop_left' hl];rw [hvs];refine Rw ?_ (Nw l g2 p2);cases s with
   | st m =>
     simp only [GC] at g1;simp only [Jc, SV.segs];exact Nw m g1 p1
   | arr n s' =>
     have := Z5 (V := V) (ρ := ρ) (.arr n s') (v := .agg ⟨vs.take c.length⟩) g1 (by simpa [Ax] using p1) (fun _ => ⟨_, rfl⟩) (by simp [Sh.isAg]);simp only [Jc] at this ⊢;simp only [SV.segs, Cells];exact ⟨_, [], by simp [Ax], this, by simpa [Ax, SV.width, Sh.w] using hlen, fun v hv => p1.one v (by simpa [Ax] using hv), rfl⟩
   | int k =>
     obtain ⟨n, rfl, _⟩ := g1;obtain ⟨v, h1, h2⟩ := p1.2 0 _ rfl;have e : vs.take [PV.i k n].length = [v] := by
      match hx : vs.take [PV.i k n].length, h1, hlen with
      | [u], h1, _ => simp at h1; rw [h1]
     have ho := h2.one;have fv : Ax v = [v] := by cases v <;> first | rfl | exact absurd ho (by simp [A9])
     rw [e];simp only [Jc, SV.segs, Cells, Conc, List.headD_cons];exact ⟨v, [], by rw [fv]; rfl, h2, by rw [fv]; rfl, by rw [fv]; simpa using ho, rfl⟩
   | bool =>
     obtain ⟨n, rfl⟩ := g1;obtain ⟨v, h1, h2⟩ := p1.2 0 _ rfl;have e : vs.take [PV.b n].length = [v] := by
      match hx : vs.take [PV.b n].length, h1, hlen with
      | [u], h1, _ => simp at h1; rw [h1]
     have ho := h2.one;have fv : Ax v = [v] := by cases v <;> first | rfl | exact absurd ho (by simp [A9])
     rw [e];simp only [Jc, SV.segs, Cells, Conc, List.headD_cons];exact ⟨v, [], by rw [fv]; rfl, h2, by rw [fv]; rfl, by rw [fv]; simpa using ho, rfl⟩
   | str =>
     obtain ⟨n, rfl, _⟩ := g1;obtain ⟨v, h1, h2⟩ := p1.2 0 _ rfl;have e : vs.take [PV.s n].length = [v] := by
      match hx : vs.take [PV.s n].length, h1, hlen with
      | [u], h1, _ => simp at h1; rw [h1]
     have ho := h2.one;have fv : Ax v = [v] := by cases v <;> first | rfl | exact absurd ho (by simp [A9])
     rw [e];simp only [Jc, SV.segs, Cells, Conc, List.headD_cons];exact ⟨v, [], by rw [fv]; rfl, h2, by rw [fv]; rfl, by rw [fv]; simpa using ho, rfl⟩
   | sl s' =>
     simp only [GC] at g1;obtain ⟨n, rfl, _⟩ := g1;obtain ⟨v, h1, h2⟩ := p1.2 0 _ rfl;have e : vs.take [PV.sl false s'.w n].length = [v] := by
      match hx : vs.take [PV.sl false s'.w n].length, h1, hlen with
      | [u], h1, _ => simp at h1; rw [h1]
     have ho := h2.one;have fv : Ax v = [v] := by cases v <;> first | rfl | exact absurd ho (by simp [A9])
     rw [e];simp only [Jc, SV.segs, Cells, Conc, List.headD_cons];exact ⟨v, [], by rw [fv]; rfl, h2, by rw [fv]; rfl, by rw [fv]; simpa using ho, rfl⟩
end
mutual
theorem Acz : ∀ (s : Sh) (cs : List PV), (Jc s cs).closed = true
 | .int k, cs => rfl
 | .bool, cs => rfl
 | .str, cs => rfl
 | .sl s, cs => rfl
 | .arr n s, cs => rfl
 | .st l, cs => by simp only [Jc, SV.closed]; exact Kt l cs
theorem Kt : ∀ (l : List Sh) (cs : List PV), SV.closedL (Pp l cs) = true
 | [], cs => rfl
 | s :: l, cs => by
   simp only [Pp];have h2 := Kt l (cs.drop s.w);have app : ∀ (a b : List SV), SV.closedL a = true → SV.closedL b = true → SV.closedL (a ++ b) = true := fun a b ha hb => by
    induction a with
    | nil => exact hb
    | cons x a ih => simp only [SV.closedL, Bool.and_eq_true, List.cons_append] at ha ⊢; exact ⟨ha.1, ih ha.2⟩
   refine app _ _ ?_ h2;cases s with
   | st m => simp only [Jc, SV.segs]; exact Kt m _
   | int k => rfl
   | bool => rfl
   | str => rfl
   | sl s => rfl
   | arr n s => rfl
end
theorem Alj {P : Program} {w : World} {base : Nat} {t : TypeId} {v : Value} : ∀ {s : Sh}, shB P s t = true → Value.okWide P w .any base t v → (s.isAg = true → ∃ vs, v = .agg ⟨vs⟩) ∧ (s.isAg = false → ∀ vs, v ≠ .agg vs)
 | .int k, hs, h => by
   simp only [shB] at hs;split at hs
   · rename_i k' hu;obtain ⟨n, rfl⟩ := WideShapes.okWide_int hu h;exact ⟨fun h => (by cases h), fun _ vs e => by cases e⟩
   · cases hs
 | .bool, hs, h => by
   simp only [shB] at hs;split at hs
   · rename_i hu;obtain ⟨n, rfl⟩ := WideShapes.okWide_bool hu h;exact ⟨fun h => (by cases h), fun _ vs e => by cases e⟩
   · cases hs
 | .str, hs, h => by
   simp only [shB] at hs;split at hs
   · rename_i hu;obtain ⟨n, rfl⟩ := WideShapes.okWide_string hu h;exact ⟨fun h => (by cases h), fun _ vs e => by cases e⟩
   · cases hs
 | .sl s, hs, h => by
   simp only [shB] at hs;split at hs
   · rename_i e hu;obtain ⟨a, b, c, rfl⟩ := WideShapes.okWide_slice hu h;exact ⟨fun h => (by cases h), fun _ vs e => by cases e⟩
   · cases hs
 | .arr n s, hs, h => by
   simp only [shB] at hs;split at hs
   · rename_i n' e hu;simp only [Value.okWide, hu] at h;obtain ⟨⟨xs⟩, rfl, _⟩ := h;exact ⟨fun _ => ⟨_, rfl⟩, fun h => (by cases h)⟩
   · cases hs
 | .st l, hs, h => by
   simp only [shB] at hs;split at hs
   · rename_i fs hu;simp only [Value.okWide, hu] at h;obtain ⟨⟨xs⟩, rfl, _⟩ := h;exact ⟨fun _ => ⟨_, rfl⟩, fun h => (by cases h)⟩
   · cases hs
theorem Yc {H : Type} {enc : TypeId × Value → H} {P : Program} {w : World} {spare : Nat → Bool} {held : Bool} {base : Nat} {t : TypeId} {v : Value} {d : DataW H} {ps : List MemPlace} {s : Sh} (hs : shB P s t = true)
 (hv : Value.okWide P w .any base t v) (h : DataW.Trod enc P w 0 spare held t v d ps) : ∃ cs, GC s cs ∧ Conc (My w) (fun _ => undef) (Jc s cs) v := by
 obtain ⟨fuel, hf⟩ := h;obtain ⟨cs, g, p⟩ := U0 s hs hf;rw [F3] at p;obtain ⟨h1, h2⟩ := Alj hs hv;exact ⟨cs, g, Z5 s g p h1 h2⟩
end Go.Proofs.YthmjebkldgdeiaaGreat.Fw
namespace Go.Proofs.YthmjebkldgdeiaaGreat.Fw
open Go.RowKit
theorem Ae0 {m : Nat} : ∀ {cc : List (List PV)} {i j : Nat}, (∀ c ∈ cc, c.length = m) → j < m → cc.flatten[i * m + j]? = (cc[i]?).bind (·[j]?)
 | [], i, j, _, _ => by simp
 | c :: cc, 0, j, h, hj => by
   have hc := h c (by simp);rw [List.flatten_cons, Nat.zero_mul, Nat.zero_add, List.getElem?_append_left (by omega)]; rfl
 | c :: cc, i + 1, j, h, hj => by
   have hc := h c (by simp);rw [List.flatten_cons, List.getElem?_append_right (by rw [Nat.add_mul]; omega)];rw [show (i + 1) * m + j - c.length = i * m + j from by rw [Nat.add_mul]; omega];rw [Ae0 (fun c hc => h c (by simp [hc])) hj]; rfl
theorem Auk {n : Nat} {s : Sh} {cs : List PV} (h : GC (.arr n s) cs) : cs.length = n * s.w ∧ ∀ i, i < n → ∃ c, GC s c ∧ ∀ j, j < s.w → cs[i * s.w + j]? = c[j]? := by
 refine ⟨h.len, fun i hi => ?_⟩;simp only [GC] at h;obtain ⟨cc, rfl, rfl, g⟩ := h;refine ⟨cc[i], g _ (List.getElem_mem _), fun j hj => ?_⟩;rw [Ae0 (fun c hc => (g c hc).len) hj, List.getElem?_eq_getElem hi]; rfl
theorem Aov {n : Int} (h : (Lit.int .u32 n).wf = true) : 0 ≤ n ∧ n < 4294967296 := by
 simp [Lit.wf, IntKind.min, IntKind.max, IntKind.signed, IntKind.bits] at h; omega
theorem Ahc {n : Int} (h : (Lit.int .i64 n).wf = true) : -9223372036854775808 ≤ n ∧ n < 9223372036854775808 := by
 simp [Lit.wf, IntKind.min, IntKind.max, IntKind.signed, IntKind.bits] at h; omega
theorem Ake {n : Nat} {cs : List PV} {f : Nat → PV} (hl : cs.length = n) (h : ∀ i, i < n → cs[i]? = some (f i)) : cs = Cj n f := by
 apply List.ext_getElem?;intro i;by_cases hi : i < n
 · rw [h i hi, Gt hi]
 · rw [List.getElem?_eq_none (by omega), List.getElem?_eq_none (by rw [Dm]; omega)]
theorem Avd {cs : List PV} (h : GC (.arr 8 (.int .u32)) cs) : ∃ a : Vc, cs = vE a ∧ ∀ i, i < 8 → a i < 4294967296 := by
 obtain ⟨hl, g⟩ := Auk h;have key : ∀ i, ∃ n : Nat, i < 8 → cs[i]? = some (.i .u32 n) ∧ n < 4294967296 := fun i => by
  by_cases hi : i < 8
  · obtain ⟨c, ⟨n, rfl, hw⟩, k⟩ := g i hi;have := k 0 (by simp [Sh.w]);simp only [Sh.w, Nat.mul_one, Nat.add_zero] at this;have hr := Aov hw;refine ⟨n.toNat, fun _ => ⟨?_, by omega⟩⟩;rw [this, show ((n.toNat : Nat) : Int) = n from by omega]; rfl
  · exact ⟨0, fun h => absurd h hi⟩
 obtain ⟨a, ha⟩ := Classical.axiomOfChoice key;exact ⟨a, Ake hl fun i hi => (ha i hi).1, fun i hi => (ha i hi).2⟩
theorem A0v {cs : List PV} (h : GC (.arr 8 (.arr 8 (.int .u32))) cs) : ∃ t : Nat → Vc, cs = tE t ∧ ∀ i, i < 8 → ∀ j, j < 8 → t i j < 4294967296 := by
 obtain ⟨hl, g⟩ := Auk h;have key : ∀ i, ∃ a : Vc, i < 8 → (∀ j, j < 8 → cs[i * 8 + j]? = some (.i .u32 (a j))) ∧ ∀ j, j < 8 → a j < 4294967296 := fun i => by
  by_cases hi : i < 8
  · obtain ⟨c, hc, k⟩ := g i hi;obtain ⟨a, rfl, hb⟩ := Avd hc;refine ⟨a, fun _ => ⟨fun j hj => ?_, hb⟩⟩;have := k j hj;simp only [Sh.w] at this;rw [this]; exact Gt hj _
  · exact ⟨fun _ => 0, fun h => absurd h hi⟩
 obtain ⟨t, ht⟩ := Classical.axiomOfChoice key;refine ⟨t, Ake hl fun i hi => ?_, fun i hi => (ht i hi).2⟩;have := (ht (i / 8) (by omega)).1 (i % 8) (by omega);rw [show i / 8 * 8 + i % 8 = i from by omega] at this;exact this
theorem Aai (n : Int) : IntKind.u64.wrap n = n % 18446744073709551616 := by simp [IntKind.wrap, IntKind.signed, IntKind.bits]
theorem Ave {s : Sh} {cs : List PV} (h : GC (.sl s) cs) : ∃ es, cs = [.sl false s.w es] ∧ es.length ≤ maxLen ∧ ∀ c ∈ es, GC s c := by
 simp only [GC] at h; exact h
end Go.Proofs.YthmjebkldgdeiaaGreat.Fw
namespace Go.Proofs.YthmjebkldgdeiaaGreat.Fw
open Go.RowKit Go.Proofs
def Cl (r : Int) (q : Nat) (r' : Int) (q' : Nat) : Bool := decide (q < q' ∨ q = q' ∧ r < r')
theorem Nf (r : Int) (q : Nat) (r' : Int) (q' : Nat) {h d} : FunOk Tryz.prog 144 [.vec 2 [.i .i64 r, .i .u32 q], .vec 2 [.i .i64 r', .i .u32 q']] h d (.pv (.b (Cl r q r' q'))) [] := by
 refine Al Af fn144 (by simp) rfl rfl fun F => ?_;by_cases h : q = q'
 · subst h;have e : Cl r q r' q = decide (r < r') := by simp [Cl]
   simp (disch := omega) only [ir144, e, go_sem]
 · have hz : ¬ (q : Int) = (q' : Int) := by omega
   have e : Cl r q r' q' = decide ((q : Int) < (q' : Int)) := by simp [Cl, h]
   simp (disch := omega) only [ir144, e, go_sem]
theorem F8 (r : Int) (q : Nat) (r' : Int) (q' : Nat) {h d} : FunOk Tryz.prog 61 [.vec 2 [.i .i64 r, .i .u32 q], .vec 2 [.i .i64 r', .i .u32 q']] h d (.pv (.b (Cl r q r' q'))) [] := by
 refine Al Af fn61 (by simp) rfl rfl fun F => ?_;by_cases h : q = q'
 · subst h;have e : Cl r q r' q = decide (r < r') := by simp [Cl]
   have hl : ¬ (q : Int) < (q : Int) := by omega
   simp (disch := omega) only [ir61, e, hl, go_sem]
 · have hz : ¬ (q : Int) = (q' : Int) := by omega
   have e : Cl r q r' q' = decide ((q : Int) < (q' : Int)) := by simp [Cl, h]
   by_cases hl : (q : Int) < (q' : Int)
   · simp (disch := omega) only [ir61, e, hl, go_sem]
   · simp (disch := omega) only [ir61, e, hl, go_sem]
theorem Gw {r r' : Int} {q q' : Nat} (h : r = r' ∧ q = q') : Sv [.i .i64 r, .i .u32 q] [.i .i64 r', .i .u32 q'] = true := by
 obtain ⟨rfl, rfl⟩ := h; simp [Sv]
theorem Fg {r r' : Int} {q q' : Nat} (h : ¬ (r = r' ∧ q = q')) : Sv [.i .i64 r, .i .u32 q] [.i .i64 r', .i .u32 q'] = false := by
 simp only [Sv, decide_eq_false_iff_not];intro e;simp only [List.cons.injEq, PV.i.injEq, true_and, and_true] at e;exact h ⟨e.1, by omega⟩
abbrev Bn := Int × Nat
def Ed (b : Bn) : List PV := [.i .i64 b.1, .i .u32 b.2]
def Hx (a : Vc) (r : Int) : Nat := if 1 ≤ r ∧ r ≤ 8 then a (r - 1).toNat else 0
def Bg (a : Vc) (r : Int) (q : Nat) : Bool := decide (1 ≤ q ∧ q ≤ Hx a r)
theorem A6y (a : Vc) (r : Int) {h d} : FunOk Tryz.prog 96 [.vec 8 (vE a), .pv (.i .i64 r)] h d (.pv (.i .u32 (Hx a r))) [] := by
 refine Al Af fn96 (by simp) rfl rfl fun F => ?_;by_cases h1 : r < 1
 · have e : Hx a r = 0 := by simp [Hx]; omega
   simp (disch := omega) only [ir96, h1, e, go_sem]
 by_cases h2 : 8 < r
 · have e : Hx a r = 0 := by simp [Hx]; omega
   simp (disch := omega) only [ir96, h1, h2, e, go_sem]
 have e : Hx a r = a (r - 1).toNat := by simp [Hx]; omega
 obtain ⟨k, rfl⟩ : ∃ k : Nat, r = k + 1 := ⟨(r - 1).toNat, by omega⟩
 have ek : ((k : Int) + 1 - 1) = k := by omega
 simp (disch := omega) only [ir96, h1, h2, e, ek, go_sem]
def Aax (a : Vc) (r : Int) (k : Nat) : FS := mk [(5, .pv (.i .i64 k)), (1, .pv (.i .i64 r)), (2, .p 2 0)] [(2, some (.var (.vec 8 (vE a))))]
theorem Pw (a : Vc) (r : Int) {h d} : FunOk Tryz.prog 51 [.vec 8 (vE a), .pv (.i .i64 r)] h d (.pv (.i .u32 (Hx a r))) [] := by
 refine Al Af fn51 (by simp) rfl rfl fun F => ?_;simp (disch := omega) only [ir51, go_sem];refine A0 Af (Aax a r) (fun k => k ≤ 8 ∧ ∀ i : Nat, i < k → (i : Int) + 1 ≠ r) (fun k => 8 - k) 0 (by simp) (Ah ?_ ?_) fun k hk => ?_
 · simp (disch := omega) only [go_sem]
 · simp (disch := omega) only [go_sem]
 obtain ⟨hk1, hk2⟩ := hk;by_cases hlt : k < 8
 · by_cases he : (k : Int) + 1 = r
   · subst he;have e : Hx a ((k : Int) + 1) = a k := by
      have e1 : ((k : Int) + 1 - 1).toNat = k := by omega
      simp [Hx, e1]; omega
     simp (disch := omega) only [Aax, e, go_sem]
   · simp (disch := omega) only [Aax, he, go_sem];refine Ad (k + 1) _ _ rfl ⟨by omega, fun i hi => ?_⟩ (by omega) ?_ ?_
     · by_cases e : i = k
       · subst e; exact he
       · exact hk2 i (by omega)
     · simp (disch := omega) only [go_sem]
     · simp (disch := omega) only [go_sem]
 · obtain rfl : k = 8 := by omega
   have e : Hx a r = 0 := by
    unfold Hx;rw [if_neg];intro h;exact hk2 (r - 1).toNat (by omega) (by omega)
   simp (disch := omega) only [Aax, e, go_sem]
theorem G2 (a : Vc) (r : Int) (q : Nat) {h d} : FunOk Tryz.prog 54 [.vec 8 (vE a), .vec 2 [.i .i64 r, .i .u32 q]] h d (.pv (.b (Bg a r q))) [] := by
 refine Al Af fn54 (by simp) rfl rfl fun F => ?_;by_cases h1 : (1 : Int) ≤ q
 · simp (disch := omega) only [ir54, h1, go_sem];refine Aa (A6y a r) ?_;have e : Bg a r q = decide ((q : Int) ≤ (Hx a r : Int)) := decide_eq_decide.2 (by omega);simp (disch := omega) only [e, go_sem]
 · have e : Bg a r q = false := decide_eq_false (by omega);simp (disch := omega) only [ir54, h1, e, go_sem]
theorem Nh (a : Vc) (r : Int) (q : Nat) {h d} : FunOk Tryz.prog 12 [.vec 8 (vE a), .vec 2 [.i .i64 r, .i .u32 q]] h d (.pv (.b (Bg a r q))) [] := by
 refine Al Af fn12 (by simp) rfl rfl fun F => ?_;by_cases h1 : (0 : Int) < q
 · simp (disch := omega) only [ir12, h1, go_sem];refine Aa (Pw a r) ?_;have e : Bg a r q = decide ((q : Int) ≤ (Hx a r : Int)) := decide_eq_decide.2 (by omega);simp (disch := omega) only [e, go_sem]
 · have e : Bg a r q = false := decide_eq_false (by omega);simp (disch := omega) only [ir12, h1, e, go_sem]
theorem Gy {l : List SV} {cs : List PV} {n : Nat} (hc : SV.cellsL? l = some cs) (hn : cs.length = n) : Imp (.agg l) (.vec n cs) := by
 intro V ρ v h;have hp := Conc.cells h (x := .agg l) (cs := cs) hc;simp only [Conc] at h ⊢;obtain ⟨vs, rfl, _⟩ := h;exact ⟨vs, rfl, by rw [← hn]; exact hp.1.symm, hp⟩
def ImpL : List SV → List SV → Prop
 | [], [] => True
 | x :: l, y :: m => Imp x y ∧ ImpL l m
 | _, _ => False
theorem ImpL.conc {V : View} {ρ : Nat → Value} : ∀ {l m : List SV} {vs : List Value}, ImpL l m → ConcL V ρ l vs → ConcL V ρ m vs
 | [], [], vs, _, h => h
 | x :: l, y :: m, vs, h, k => by
   simp only [ConcL] at k ⊢;obtain ⟨v, us, rfl, k1, k2⟩ := k;exact ⟨v, us, rfl, h.1 _ _ _ k1, ImpL.conc h.2 k2⟩
 | [], _ :: _, _, h, _ => h.elim
 | _ :: _, [], _, h, _ => h.elim
theorem FunOk.imp {P : Program} {f : Nat} {args args' : List SV} {h d x u} (hf : FunOk P f args' h d x u) (hi : ImpL args args') (ht : ∀ n ∈ A3 args', n ∈ A3 args) : FunOk P f args h d x u :=
 ⟨hf.1, fun F N ρ s a w hR hh vs hc => hf.2 F N ρ s a w hR (fun n hn => hh n (ht n hn)) vs (hi.conc hc)⟩
abbrev Adc : Sh := .st [.int .i64, .int .u32]
theorem Afp {cs : List PV} (h : GC Adc cs) : ∃ b : Bn, cs = Ed b ∧ (-9223372036854775808 ≤ b.1 ∧ b.1 < 9223372036854775808) ∧ b.2 < 4294967296 := by
 simp only [GC, GCL] at h;obtain ⟨c, cs', rfl, ⟨n, rfl, hw⟩, c', cs'', rfl, ⟨m, rfl, hw'⟩, rfl⟩ := h;have hr := Aov hw';exact ⟨(n, m.toNat), by simp [Ed]; omega, Ahc hw, by show m.toNat < _; omega⟩
theorem Acd {α : Type} {f : α → List PV} {p : α → Prop} {s : Sh} (key : ∀ {cs}, GC s cs → ∃ x, cs = f x ∧ p x) : ∀ {es : List (List PV)}, (∀ c ∈ es, GC s c) → ∃ l : List α, es = l.map f ∧ ∀ x ∈ l, p x
 | [], _ => ⟨[], rfl, by simp⟩
 | c :: es, h => by
   obtain ⟨l, e, hp⟩ := Acd (es := es) key fun c hc => h c (List.mem_cons_of_mem _ hc);obtain ⟨x, e2, hx⟩ := key (h c List.mem_cons_self);exact ⟨x :: l, by rw [e, e2]; rfl, fun y hy => by
    rcases List.mem_cons.1 hy with hy | hy
    · rw [hy]; exact hx
    · exact hp y hy⟩
structure Ent where
 id : Bn
 dir : Bn
 name : List UInt8
 obj : Bn
 gone : Vc
def Atn (x : Ent) : List PV := [.i .i64 x.id.1, .i .u32 x.id.2, .i .i64 x.dir.1, .i .u32 x.dir.2, .s x.name, .i .i64 x.obj.1, .i .u32 x.obj.2]
def Bq (x : Ent) : List PV := Atn x ++ vE x.gone
theorem Ain (a : Vc) : (vE a).all PV.flat = true := by simp [vE, Cj, PV.flat]
theorem Dr (x : Ent) : (Bq x).length = 15 := by simp [Bq, Atn, Bl]
theorem Ahn (x : Ent) : (Bq x).all PV.flat = true := by
 unfold Bq Atn; rw [List.all_append, Ain]; rfl
theorem Jp (l : List Ent) : ∀ c ∈ l.map Bq, c.all PV.flat = true := by
 intro c hc;obtain ⟨v, _, rfl⟩ := List.mem_map.1 hc;exact Ahn v
theorem Fy (x : Ent) (K : KK) : LoadK (some (Bq x)) 0 15 true K = K (.vec 15 (Bq x)) [] := by
 have e : ((Bq x).drop 0).take 15 = Bq x := List.take_of_length_le (by rw [List.drop_zero, Dr]; omega);simp only [LoadK, Hv, eq_iff_iff, e, Dr];exact ⟨fun h => h.2.2, fun h => ⟨by omega, .inl trivial, h⟩⟩
theorem Dk (x : Ent) (K : KK) : LoadK (some (Bq x)) 0 2 true K = K (.vec 2 [.i .i64 x.id.1, .i .u32 x.id.2]) [] := by
 simp only [LoadK, Hv, eq_iff_iff, Dr];exact ⟨fun h => h.2.2, fun h => ⟨by omega, .inl trivial, h⟩⟩
theorem C6 (x : Ent) (K : KK) : LoadK (some (Bq x)) 5 2 true K = K (.vec 2 [.i .i64 x.obj.1, .i .u32 x.obj.2]) [] := by
 simp only [LoadK, Hv, eq_iff_iff, Dr];exact ⟨fun h => h.2.2, fun h => ⟨by omega, .inl trivial, h⟩⟩
theorem Io (x : Ent) (K : KK) : LoadK (some (Bq x)) 7 8 true K = K (.vec 8 (vE x.gone)) [] := by
 have e : ((Bq x).drop 7).take 8 = vE x.gone := by
  unfold Bq;rw [List.drop_left' (by rfl)];exact List.take_of_length_le (by rw [Bl]; omega)
 simp only [LoadK, Hv, eq_iff_iff, Dr, e];exact ⟨fun h => h.2.2, fun h => ⟨by omega, .inl trivial, h⟩⟩
theorem Hb (x : Ent) (v : Vc) : splice (Bq x) 7 (vE v) = Bq { x with gone := v } := by
 unfold splice Bq;rw [List.take_left' (by rfl), Bl];have : (Atn x ++ vE x.gone).drop (7 + 8) = [] := List.drop_of_length_le (by simp [Atn, Bl]);rw [this, List.append_nil]; rfl
theorem Jw {P : Program} {F : Fr} {N : Nat} {ρ : Nat → Value} {s : FS} {a : Act} {w : World} {tS tR e : TypeId} {sz m n lo hi : Nat} {es fs : List (List PV)} (ht : P.underlying tS = some (.slice e)) (hz : Aj P e = some sz) (h1 : sz ≠ 1)
 (hR : RelR F N ρ s a w) (hm : s.h m = some (.row sz fs)) (hn : s.h n = some (.row sz es)) (hne : m ≠ n) (hfs : fs ≠ []) (hes : es ≠ []) (hlt : lo < hi) {v u : Value}
 (hv : Conc (vw F w ρ s) ρ (.os m) v) (hu : Conc (vw F w ρ s) ρ (.ov n sz lo hi) u) :
 (Extern.SlicesOverlaps.overlaps #[tS, tS] #[tR] #[v, u]).run P w = .ok (.bool false) w := by
 obtain ⟨bm, lm, cm, vm, tym, frm, a1, a2, a3, a4, a5, a6, a7, a8, a9, rfl, a11⟩ := H2 (hR.own m _ hm) (List.length_pos_iff.2 hfs);obtain ⟨bn, ln, cn, vn, tyn, frn, b1, b2, b3, b4, b5, b6, b7, b8, b9, rfl, b11⟩ := H2 (hR.own n _ hn) (List.length_pos_iff.2 hes);simp only [Conc] at hv hu;obtain ⟨base, len, cap, base', c1, c2, c3, rfl, c4⟩ := hu;rw [hv.1, a1];rw [b1] at c1; cases c1;have := c4 (.inl hlt);simp only [Option.map_some, Df, Nat.zero_add] at this;subst this;have hbb : bm ≠ bn := fun e => hne (hR.inj m n _ _ bm hm hn (by rw [a1]; simp [Cr, a7]) (by rw [b1]; simp [Cr, b7, e]));have hfr : frm.1 = frm.2 := by rcases a3 with h | h; exact h; exact absurd h.1 h1
 have fz : ∀ o, w.frozen? ⟨bm, o, none⟩ = false := fun o => by
  unfold World.frozen?;simp only [a2];obtain ⟨x, y⟩ := frm;simp only at hfr;simp; omega
 exact Lib.run_overlaps_apart w tS tR e ht sz (fun w => Ci hz w) ⟨bm, 0, none⟩ ⟨bn, lo * sz, none⟩ _ _ _ _ hbb tym tyn vm.length vn.length (by unfold World.shape?; rw [a2]; rfl) (by unfold World.shape?; rw [b2]; rfl)
  (by rw [b5]; exact Nat.mul_ne_zero b7 (by omega)) (fz _) (fz _)
theorem A2r {m n lo hi : Nat} {es fs : List (List PV)} {h} (hm : h m = some (.row 15 fs)) (hn : h n = some (.row 15 es)) (hne : m ≠ n) (hfs : fs ≠ []) (hes : es ≠ []) (hlt : lo < hi) : Aag Tryz.prog 170 [.os m, .ov n 15 lo hi] h (.pv (.b false)) := by
 intro F N ρ s a w hR hh vs hc;simp only [ConcL] at hc;obtain ⟨v, us, rfl, hv, u, us', rfl, hu, rfl⟩ := hc;have hsm := (hh m (by simp [A3, tn])).trans hm;have hsn := (hh n (by simp [A3, tn])).trans hn;refine ⟨.bool false, ?_, E4⟩;rw [run_callFunc_extern (fn := (Tryz.prog.funcs[170]?).getD default) (by kernel_rfl) (by kernel_rfl) (by kernel_rfl) (by kernel_rfl) (e := Extern.SlicesOverlaps.overlaps #[44, 44] #[4]) (by kernel_rfl)];rw [Jw (tS := 44) (e := 152) (by kernel_rfl) (by kernel_rfl) (by decide) hR hsm hsn hne hfs hes hlt hv hu];rfl
set_option maxHeartbeats 4000000 in
theorem W6 (es : List (List PV)) (cs : List PV) (i : Nat) (hi : i ≤ es.length) (hb : es.length ≤ 1000) (hes : ∀ c ∈ es, c.length = 15) (hcs : cs.length = 15) {h d} (h1 : h 900 = some (.row 15 es)) (h2 : h 901 = some (.row 15 [cs])) : FunOk Tryz.prog 156 [.os 900, .pv (.i .i64 i), .os 901] h d (.os d) [.del 900, .del 901, .new d (.row 15 (es.take i ++ cs :: es.drop i))] := by
 refine Ab4 Af fn156 (by simp) rfl fun F => ?_;simp only [C0];by_cases he : i = es.length
 · subst he;have e1 : es.take es.length ++ cs :: es.drop es.length = es ++ [cs] := by simp
   rw [e1];simp (disch := omega) only [ir156, h1, h2, go_sem]
 · have hne : es ≠ [] := by intro e; subst e; simp at hi; exact he (by simpa using hi)
   simp (disch := omega) only [ir156, h1, h2, go_sem];intro c hc;by_cases hcap : c < es.length + 1
   · have hp : ((c : Int) < (es.length : Int) + ((1 : Nat) : Int)) = True := eq_true (by omega);have ek : ((es.length : Int) + ((1 : Nat) : Int) - (i : Int)).toNat = es.length + 1 - i := by omega
     (try simp only [Cf, Ce, Cd, Cc, Cb, Ca, B9, B0]); simp (disch := omega) only [hp, ek, go_sem]
     generalize hT : List.take i es ++ List.replicate (es.length + 1 - i) _ = T;have hTl : T.length = es.length + 1 := by rw [← hT]; simp; omega
     have t1 : T.take i = es.take i := by
      rw [← hT, List.take_append_of_le_length (by simp; omega), List.take_take, Nat.min_self]
     have hi' : (es.take i).length = i := by simp; omega
     have m1 : min 1 (es.length + 1 - i) = 1 := by omega
     have m2 : [cs].take (es.length + 1 - i) = [cs] := List.take_of_length_le (by simp; omega);have hU : (es.take i ++ [cs] ++ T.drop (i + 1)).length = es.length + 1 := by simp [hTl]; omega
     have e1 : ((i : Int) + ((1 : Nat) : Int)).toNat = i + 1 := by omega
     have u1 : (es.take i ++ [cs] ++ T.drop (i + 1)).take (i + 1) = es.take i ++ [cs] := by
      rw [List.take_append_of_le_length (by simp; omega)];exact List.take_of_length_le (by simp; omega)
     have u2 : (es.take es.length).drop i = es.drop i := by rw [List.take_length]
     have u3 : min (es.drop i).length (es.length + 1 - (i + 1)) = es.length - i := by simp
     have u4 : (es.drop i).take (es.length + 1 - (i + 1)) = es.drop i := List.take_of_length_le (by simp);have u5 : (es.take i ++ [cs] ++ T.drop (i + 1)).drop (i + 1 + (es.length - i)) = [] := List.drop_of_length_le (by rw [hU]; omega);have u6 : es.take i ++ cs :: es.drop i = es.take i ++ [cs] ++ es.drop i := by simp
     simp only [hTl, t1, m1, m2, e1, List.length_singleton];simp only [hU, u1, u2, u3, u4, u5, u6, List.append_nil];exact ⟨by omega, by omega, trivial⟩
   · have hp : ((c : Int) < (es.length : Int) + ((1 : Nat) : Int)) = False := eq_false (by omega)
     (try simp only [Cf, Ce, Cd, Cc, Cb, Ca, B9, B0]); simp (disch := omega) only [hp, go_sem]
     intro g hg hgs;have hg1 : g.length = 1 := by omega
     have e1 : ((i : Int) + ((1 : Nat) : Int)).toNat = i + 1 := by omega
     have hE : (es ++ g).length = es.length + 1 := by simp [hg1]
     refine ⟨by omega, ?_⟩;rw [e1];refine Rx (A2r (es := es ++ g) (fs := [cs]) rfl rfl (by decide) (by simp) (by simp [hne]) (by omega)) ?_;have v1 : ((es ++ g).take (es ++ g).length).drop i = (es ++ g).drop i := by rw [List.take_length]
     have v2 : min ((es ++ g).drop i).length ((es ++ g).length - (i + 1)) = es.length - i := by simp [hg1]; omega
     have v3 : ((es ++ g).drop i).take ((es ++ g).length - (i + 1)) = es.drop i := by
      rw [hE, List.drop_append_of_le_length hi, show es.length + 1 - (i + 1) = (es.drop i).length from by simp];exact List.take_left
     have v4 : (es ++ g).drop (i + 1 + (es.length - i)) = [] := List.drop_of_length_le (by omega);have v5 : ((es ++ g).take (i + 1) ++ es.drop i).length = es.length + 1 := by simp [hg1]; omega
     have v6 : ((es ++ g).take (i + 1) ++ es.drop i).take i = es.take i := by
      rw [List.take_append_of_le_length (by simp; omega), List.take_take, Nat.min_eq_left (by omega), List.take_append_of_le_length hi]
     have v7 : ((es ++ g).take (i + 1) ++ es.drop i).drop (i + 1) = es.drop i := by
      rw [List.drop_append_of_le_length (by simp; omega), List.drop_of_length_le (by simp; omega), List.nil_append]
     have m1 : min 1 (es.length + 1 - i) = 1 := by omega
     have m2 : [cs].take (es.length + 1 - i) = [cs] := List.take_of_length_le (by simp; omega);have u6 : es.take i ++ cs :: es.drop i = es.take i ++ [cs] ++ es.drop i := by simp
     simp (disch := omega) only [e1, v1, v2, v3, v4, v5, v6, v7, m1, m2, u6, go_sem]
theorem A2t {m n : Nat} (es : List (List PV)) (cs : List PV) (i : Nat) (hi : i ≤ es.length) (hb : es.length ≤ 1000) (hes : ∀ c ∈ es, c.length = 15) (hcs : cs.length = 15) (hmn : m ≠ n) (hm : m < 900) (hn : n < 900) {h d} (hd : d ≠ m ∧ d ≠ n ∧ d < 900) (h1 : h m = some (.row 15 es)) (h2 : h n = some (.row 15 [cs])) : FunOk Tryz.prog 156 [.os m, .pv (.i .i64 i), .os n] h d (.os d) [.del m, .del n, .new d (.row 15 (es.take i ++ cs :: es.drop i))] := by
 have hπ := Aiq (a := 900) (m := m) (b := 901) (n := n) (by omega) (by omega) (by omega) hmn;have e1 : sw2 900 m 901 n 900 = m := by unfold sw2; simp
 have e2 : sw2 900 m 901 n 901 = n := by unfold sw2; repeat' split <;> (try omega)
 have e3 : sw2 900 m 901 n d = d := by unfold sw2; repeat' split <;> (try omega)
 have := (W6 es cs i hi hb hes hcs (h := fun k => (h (sw2 900 m 901 n k))) (d := d) (by rw [← h1, e1]) (by rw [← h2, e2])).rn (π := sw2 900 m 901 n) hπ (d' := d);simp only [SV.rnL, SV.rn, HU.rn, Blk.rn, List.map_cons, List.map_nil, e1, e2, e3] at this;refine this.at fun k hk => ?_;simp only [A3, tn, List.append_nil, List.nil_append, List.mem_append, List.mem_singleton] at hk;simp only [hπ];rcases hk with rfl | rfl
 · rw [h1]; rfl
 · rw [h2]; rfl
theorem W7 {x : SV} {f : Bool} {z : Nat} {es : List (List PV)} {h d} (hx : Cw h [x] = [.pv (.sl f z es)]) (hl : Bj [x] = true) (hz : es = [] ∨ z = 15) (hb : es.length ≤ 1000) (hs : ∀ c ∈ es, c.all PV.flat = true) :
 FunOk Tryz.prog 94 [x] h d (.os d) [.new d (.row 15 es)] := by
 refine Aex Af fn94 (by simp) hl (.inr hs) fun F => ?_;rw [hx];simp (disch := omega) only [ir94, go_sem];intro b hb';cases b
 · simp (disch := omega) only [go_sem]
 · have he : es = [] := by
    cases es with
    | nil => rfl
    | cons c l => exact absurd (hb' (by simp)) (by simp)
   subst he
   (try simp only [Cf, Ce, Cd, Cc, Cb, Ca, B9, B0]); simp (disch := omega) only [go_sem]
   decide
abbrev Ic (a b : Bn) : Bool := Cl a.1 a.2 b.1 b.2
theorem Vk {a b : Bn} : Ic a b = true ↔ a.2 < b.2 ∨ a.2 = b.2 ∧ a.1 < b.1 := by simp [Ic, Cl]
theorem He {a b c : Bn} (h : Ic a b = true) (k : Ic b c = true) : Ic a c = true := by rw [Vk] at *; omega
theorem Gb {a : Bn} : ¬ Ic a a = true := by rw [Vk]; omega
theorem Nq {a b : Bn} (h : Ic a b = true) : ¬ Ic b a = true := by rw [Vk] at *; omega
theorem Kj {a b : Bn} (h : ¬ Ic a b = true) (k : a ≠ b) : Ic b a = true := by
 rw [Vk] at *;by_cases e : a.2 = b.2
 · have : a.1 ≠ b.1 := fun e1 => k (Prod.ext e1 e);omega
 · omega
def Ds (l : List Ent) : Prop := l.Pairwise fun a b => Ic a.id b.id = true
def Hu : List Ent → Bn → Option Ent
 | [], _ => none
 | x :: l, i => if x.id = i then some x else Hu l i
theorem Al5 {l : List Ent} {i : Bn} {x : Ent} (h : Hu l i = some x) : x ∈ l ∧ x.id = i := by
 induction l with
 | nil => simp [Hu] at h
 | cons y l ih =>
   simp only [Hu] at h;split at h
   · cases h; exact ⟨List.mem_cons_self, by assumption⟩
   · exact ⟨List.mem_cons_of_mem _ (ih h).1, (ih h).2⟩
theorem F9 {l : List Ent} {i : Bn} : Hu l i = none ↔ ∀ x ∈ l, x.id ≠ i := by
 induction l with
 | nil => simp [Hu]
 | cons y l ih =>
   simp only [Hu];by_cases h : y.id = i
   · rw [if_pos h];exact ⟨fun e => (nomatch e), fun e => absurd h (e y List.mem_cons_self)⟩
   · rw [if_neg h, ih];simp only [List.mem_cons, forall_eq_or_imp];exact ⟨fun e => ⟨h, e⟩, fun e => e.2⟩
theorem Aec {l : List Ent} (hs : Ds l) {x : Ent} (h : x ∈ l) : Hu l x.id = some x := by
 induction l with
 | nil => cases h
 | cons y l ih =>
   obtain ⟨h1, h2⟩ := List.pairwise_cons.1 hs;simp only [Hu];rcases List.mem_cons.1 h with rfl | h
   · rw [if_pos rfl]
   · rw [if_neg fun e => Gb (by have := h1 x h; rwa [e] at this)];exact ih h2 h
def F7 (l : List Ent) (i : Bn) : Nat := l.findIdx fun x => !Ic x.id i
theorem Aba (l : List Ent) (i : Bn) : F7 l i ≤ l.length := List.findIdx_le_length
theorem Su (x : Ent) (l : List Ent) (i : Bn) : F7 (x :: l) i = if Ic x.id i = true then F7 l i + 1 else 0 := by
 unfold F7;rw [List.findIdx_cons];cases Ic x.id i <;> simp
theorem Ap9 {l : List Ent} {i : Bn} {k : Nat} (hk : k < F7 l i) : ∃ x, l[k]? = some x ∧ Ic x.id i = true := by
 have hl : k < l.length := Nat.lt_of_lt_of_le hk (Aba l i);refine ⟨l[k], by simp [hl], ?_⟩;have := List.not_of_lt_findIdx hk;simpa using this
theorem A2i {l : List Ent} (hs : Ds l) {i : Bn} {k : Nat} (hk : F7 l i ≤ k) {x : Ent} (hx : l[k]? = some x) : ¬ Ic x.id i = true := by
 obtain ⟨hl, rfl⟩ := List.getElem?_eq_some_iff.1 hx;have hp : F7 l i < l.length := by omega
 have h0 : ¬ Ic l[F7 l i].id i = true := by
  have : (!Ic (l[F7 l i]'hp).id i) = true := List.findIdx_getElem (p := fun x : Ent => !Ic x.id i) (w := hp);simpa using this
 by_cases e : F7 l i = k
 · subst e; exact h0
 · have := List.pairwise_iff_getElem.1 hs (F7 l i) k hp hl (by omega);exact fun h => h0 (He this h)
theorem Ai3 {l : List Ent} {i : Bn} {k : Nat} (hk : k ≤ l.length) (h1 : ∀ j x, j < k → l[j]? = some x → Ic x.id i = true) (h2 : ∀ x, l[k]? = some x → ¬ Ic x.id i = true) : F7 l i = k := by
 rcases Nat.lt_trichotomy (F7 l i) k with h | h | h
 · have hl : F7 l i < l.length := by omega
   have h0 : (!Ic (l[F7 l i]'hl).id i) = true := List.findIdx_getElem (p := fun x : Ent => !Ic x.id i) (w := hl);have := h1 _ _ h (List.getElem?_eq_getElem hl);rw [this] at h0; simp at h0
 · exact h
 · obtain ⟨x, e1, e2⟩ := Ap9 h;exact absurd e2 (h2 x e1)
def Ra (l : List Ent) (i : Bn) : Bool := (Hu l i).isSome
theorem Q2 {l : List Ent} (hs : Ds l) (i : Bn) : Hu l i = match l[F7 l i]? with | some x => if x.id = i then some x else none | none => none := by
 induction l with
 | nil => simp [Hu]
 | cons y l ih =>
   obtain ⟨h1, h2⟩ := List.pairwise_cons.1 hs;rw [Su];simp only [Hu];by_cases e : y.id = i
   · have : ¬ Ic y.id i = true := by rw [e]; exact Gb
     rw [if_neg this, if_pos e];simp [e]
   · rw [if_neg e];by_cases hl : Ic y.id i = true
     · rw [if_pos hl, List.getElem?_cons_succ]; exact ih h2
     · rw [if_neg hl, List.getElem?_cons_zero];simp only [e, if_false];exact F9.2 fun z hz ez => Gb (by have := He (Kj hl e) (h1 z hz); rwa [ez] at this)
theorem Wl {l : List Ent} (hs : Ds l) {j m : Nat} {x v : Ent} (hj : l[j]? = some x) (hm : l[m]? = some v) (h : j < m) : Ic x.id v.id = true := by
 obtain ⟨h1, rfl⟩ := List.getElem?_eq_some_iff.1 hj;obtain ⟨h2, rfl⟩ := List.getElem?_eq_some_iff.1 hm;exact List.pairwise_iff_getElem.1 hs j m h1 h2 h
def O3 (l : List Ent) (x : Ent) : List Ent := l.take (F7 l x.id) ++ x :: l.drop (F7 l x.id)
theorem Td (y : Ent) (l : List Ent) (x : Ent) : O3 (y :: l) x = if Ic y.id x.id = true then y :: O3 l x else x :: y :: l := by
 unfold O3;rw [Su];split <;> simp
theorem Abp {l : List Ent} {x z : Ent} : z ∈ O3 l x ↔ z = x ∨ z ∈ l := by
 unfold O3;have := List.take_append_drop (F7 l x.id) l;constructor
 · intro h;rcases List.mem_append.1 h with h | h
   · exact .inr (List.mem_of_mem_take h)
   · rcases List.mem_cons.1 h with h | h
     · exact .inl h
     · exact .inr (List.mem_of_mem_drop h)
 · intro h;rcases h with rfl | h
   · simp
   · rw [← this] at h;rcases List.mem_append.1 h with h | h
     · exact List.mem_append_left _ h
     · exact List.mem_append_right _ (List.mem_cons_of_mem _ h)
theorem Wj {l : List Ent} (hs : Ds l) {x : Ent} (hn : Hu l x.id = none) : Ds (O3 l x) := by
 induction l with
 | nil => simp [O3, F7, Ds]
 | cons y l ih =>
   obtain ⟨h1, h2⟩ := List.pairwise_cons.1 hs;have hy : y.id ≠ x.id := F9.1 hn y List.mem_cons_self;have hn' : Hu l x.id = none := F9.2 fun z hz => F9.1 hn z (List.mem_cons_of_mem _ hz);rw [Td];split
   · rename_i hl;refine List.Pairwise.cons (fun z hz => ?_) (ih h2 hn');rcases Abp.1 hz with rfl | hz
     · exact hl
     · exact h1 z hz
   · rename_i hl;have hxy : Ic x.id y.id = true := Kj hl hy;refine List.Pairwise.cons (fun z hz => ?_) hs;rcases List.mem_cons.1 hz with rfl | hz
     · exact hxy
     · exact He hxy (h1 z hz)
theorem Ape {l : List Ent} {f : Ent → Ent} (hf : ∀ x, (f x).id = x.id) (hs : Ds l) : Ds (l.map f) := by
 unfold Ds;rw [List.pairwise_map];exact hs.imp fun h => by simpa only [hf] using h
def Uv (l : List Ent) (i : Bn) (f : Ent → Ent) : List Ent := l.map fun x => if x.id = i then f x else x
theorem Axk {i : Bn} {f : Ent → Ent} (hf : ∀ x, (f x).id = x.id) (x : Ent) : (if x.id = i then f x else x).id = x.id := by split <;> simp [hf]
theorem Apd {l : List Ent} {f : Ent → Ent} (hf : ∀ x, (f x).id = x.id) (hs : Ds l) (i : Bn) : Ds (Uv l i f) := Ape (Axk hf) hs
theorem Awm {l : List Ent} (hs : Ds l) {i : Bn} {f : Ent → Ent} {x : Ent} (h : Hu l i = some x) : l.set (F7 l i) (f x) = Uv l i f := by
 induction l with
 | nil => simp [Hu] at h
 | cons y l ih =>
   obtain ⟨h1, h2⟩ := List.pairwise_cons.1 hs;rw [Su];simp only [Hu] at h;by_cases e : y.id = i
   · rw [if_pos e] at h;cases h;rw [if_neg (by rw [e]; exact Gb)];simp only [List.set_cons_zero, Uv, List.map_cons, if_pos e];congr 1;have e1 : ∀ z ∈ l, (if z.id = i then f z else z) = id z := fun z hz => by
      rw [if_neg fun ez => Gb (by have := h1 z hz; rwa [e, ez] at this)]; rfl
     rw [List.map_congr_left e1, List.map_id]
   · rw [if_neg e] at h;have hx := Al5 h;have : Ic y.id i = true := by rw [← hx.2]; exact h1 x hx.1
     rw [if_pos this, List.set_cons_succ, ih h2 h];simp [Uv, e]
def R1 (l : List Ent) (x : Ent) : List Ent := if Ra l x.id = true then l else O3 l x
def I7 (a b : Bn) : Int := if Ic a b = true then -1 else if Ic b a = true then 1 else 0
theorem A2v (a b : Bn) {h d} : FunOk Tryz.prog 169 [.vec 2 [.i .i64 a.1, .i .u32 a.2], .vec 2 [.i .i64 b.1, .i .u32 b.2]] h d (.pv (.i .i64 (I7 a b))) [] := by
 refine Al Af fn169 (by simp) rfl rfl fun F => ?_;simp (disch := omega) only [ir169, go_sem];refine Aa (Nf _ _ _ _) ?_;by_cases h1 : Cl a.1 a.2 b.1 b.2 = true
 · have e : I7 a b = -1 := if_pos h1;simp (disch := omega) only [h1, e, go_sem]
 · have h1' : Cl a.1 a.2 b.1 b.2 = false := by simpa using h1
   simp (disch := omega) only [h1', go_sem];refine Aa (Nf _ _ _ _) ?_;by_cases h2 : Cl b.1 b.2 a.1 a.2 = true
   · have e : I7 a b = 1 := by unfold I7; rw [if_neg h1, if_pos h2]
     simp (disch := omega) only [h2, e, go_sem]
   · have h2' : Cl b.1 b.2 a.1 a.2 = false := by simpa using h2
     have e : I7 a b = 0 := by unfold I7; rw [if_neg h1, if_neg h2]
     simp (disch := omega) only [h2', e, go_sem]
theorem A0l (x : Ent) (b : Bn) {h d} : FunOk Tryz.prog 168 [.vec 15 (Bq x), .vec 2 [.i .i64 b.1, .i .u32 b.2]] h d (.pv (.i .i64 (I7 x.id b))) [] := by
 refine Al Af fn168 (by simp) rfl rfl fun F => ?_;simp (disch := omega) only [ir168, Dk, go_sem];refine Aa (A2v _ _) ?_;simp (disch := omega) only [go_sem]
theorem Vr {a b : Bn} : (I7 a b < 0) = (Ic a b = true) := by
 unfold I7;by_cases h : Ic a b = true
 · rw [if_pos h]; simp [h]
 · rw [if_neg h]; split <;> simp [h]
theorem Vs {a b : Bn} : (I7 a b = 0) = (a = b) := by
 unfold I7;by_cases h : Ic a b = true
 · rw [if_pos h];refine propext ⟨fun e => by omega, fun e => ?_⟩;subst e; exact absurd h Gb
 · rw [if_neg h];by_cases k : Ic b a = true
   · rw [if_pos k];refine propext ⟨fun e => by omega, fun e => ?_⟩;subst e; exact absurd k Gb
   · rw [if_neg k];refine propext ⟨fun _ => ?_, fun _ => rfl⟩;exact Classical.byContradiction fun e => k (Kj h e)
def Aix (f : Bool) (l : List Ent) (i : Bn) (p : Nat × Nat) : FS := mk [(9, .pv (.i .i64 p.1)), (10, .pv (.i .i64 p.2)), (8, .pv (.i .i64 l.length)), (0, .pv (.sl f 15 (l.map Bq))), (2, .fn (.func 168) []), (4, .p 4 0)] [(4, some (.var (.vec 2 [.i .i64 i.1, .i .u32 i.2])))]
set_option maxHeartbeats 1000000 in
theorem A61 {x : SV} {f : Bool} {l : List Ent} (i : Bn) {h d} (hx : Cw h [x, .vec 2 [.i .i64 i.1, .i .u32 i.2], .fn (.func 168) []] = [.pv (.sl f 15 (l.map Bq)), .vec 2 [.i .i64 i.1, .i .u32 i.2], .fn (.func 168) []]) (hl : Bj [x, .vec 2 [.i .i64 i.1, .i .u32 i.2], .fn (.func 168) []] = true) (hs : Ds l) (hn : l.length ≤ 1000) :
 FunOk Tryz.prog 167 [x, .vec 2 [.i .i64 i.1, .i .u32 i.2], .fn (.func 168) []] h d (.tup [.pv (.i .i64 (F7 l i)), .pv (.b (Ra l i))]) [] := by
 refine C5 Af fn167 (by simp) hl rfl fun F => ?_;rw [hx];simp (disch := omega) only [ir167, List.length_map, go_sem];refine A0 Af (Aix f l i) (fun p => p.1 ≤ p.2 ∧ p.2 ≤ l.length ∧ (∀ j x, j < p.1 → l[j]? = some x → Ic x.id i = true) ∧ ∀ j x, p.2 ≤ j → l[j]? = some x → ¬ Ic x.id i = true) (fun p => p.2 - p.1) (0, l.length) ⟨by simp, by simp, by simp, fun j x hj hx => by simp only at hj; rw [List.getElem?_eq_none hj] at hx; cases hx⟩ (Ah ?_ ?_) fun p hp => ?_
 · (try simp only [Cf, Ce, Cd, Cc, Cb, Ca, B9, B0]); simp (disch := omega) only [go_sem]
 · simp (disch := omega) only [go_sem]
 obtain ⟨a, b⟩ := p;obtain ⟨p1, p2, p3, p4⟩ := hp;simp only at p1 p2 p3 p4;by_cases hlt : a < b
 · have hm : (a + b) / 2 < l.length := by omega
   have hx : l[(a + b) / 2]? = some l[(a + b) / 2] := List.getElem?_eq_getElem hm;have he : (l.map Bq)[(a + b) / 2]? = some (Bq l[(a + b) / 2]) := by rw [List.getElem?_map, hx]; rfl
   have e1 : ((a : Int) + (b : Int)).fdiv (2 ^ min (Int.toNat 1) 64) = (((a + b) / 2 : Nat) : Int) := by
    rw [show (2 : Int) ^ min (Int.toNat 1) 64 = 2 from rfl, Int.fdiv_eq_ediv_of_nonneg _ (by omega)]; omega
   have hm1 : a ≤ (a + b) / 2 := by omega
   have hm2 : (a + b) / 2 < b := by omega
   generalize l[(a + b) / 2] = v at *;generalize (a + b) / 2 = m at *;simp (disch := omega) only [Aix, List.length_map, e1, he, Fy, go_sem];refine Aa (A0l v i) ?_;by_cases hc : Ic v.id i = true
   · have e2 : (I7 v.id i < 0) = True := by rw [Vr]; exact eq_true hc
     simp (disch := omega) only [e2, go_sem];refine Ad (x := (a, b)) (m + 1, b) _ _ rfl ⟨by show m + 1 ≤ b; omega, p2, fun j x hj hx' => ?_, p4⟩ (by show b - (m + 1) < b - a; omega) ?_ ?_
     · by_cases e : j = m
       · subst e; rw [hx] at hx'; cases hx'; exact hc
       · exact He (Wl hs hx' hx (by simp only at hj; omega)) hc
     · (try simp only [Cf, Ce, Cd, Cc, Cb, Ca, B9, B0]); simp (disch := omega) only [go_sem]
     · simp (disch := omega) only [go_sem]
   · have e2 : (I7 v.id i < 0) = False := by rw [Vr]; exact eq_false hc
     simp (disch := omega) only [e2, go_sem];refine Ad (x := (a, b)) (a, m) _ _ rfl ⟨by show a ≤ m; omega, by show m ≤ _; omega, p3, fun j x hj hx' => ?_⟩ (by show m - a < b - a; omega) ?_ ?_
     · by_cases e : j = m
       · subst e; rw [hx] at hx'; cases hx'; exact hc
       · exact fun q => hc (He (Wl hs hx hx' (by simp only at hj; omega)) q)
     · (try simp only [Cf, Ce, Cd, Cc, Cb, Ca, B9, B0]); simp (disch := omega) only [go_sem]
     · simp (disch := omega) only [go_sem]
 · obtain rfl : a = b := by omega
   have hpos : F7 l i = a := Ai3 p2 p3 fun x hx' => p4 a x (Nat.le_refl a) hx';by_cases hal : a < l.length
   · have hx' : l[a]? = some l[a] := List.getElem?_eq_getElem hal;have he : (l.map Bq)[a]? = some (Bq l[a]) := by rw [List.getElem?_map, hx']; rfl
     have hk := Q2 hs i;rw [hpos, hx'] at hk;generalize l[a] = v at *;simp (disch := omega) only [Aix, hal, he, Fy, List.length_map, go_sem];refine Aa (A0l v i) ?_;by_cases hv : v.id = i
     · have e2 : (I7 v.id i = 0) = True := by rw [Vs]; exact eq_true hv
       have e3 : Ra l i = true := by unfold Ra; rw [hk]; simp [hv]
       simp (disch := omega) only [e2, e3, hpos, go_sem]
     · have e2 : (I7 v.id i = 0) = False := by rw [Vs]; exact eq_false hv
       have e3 : Ra l i = false := by unfold Ra; rw [hk]; simp [hv]
       simp (disch := omega) only [e2, e3, hpos, go_sem]
   · have hk := Q2 hs i;rw [hpos, List.getElem?_eq_none (by omega)] at hk;have e3 : Ra l i = false := by unfold Ra; rw [hk]; rfl
     simp (disch := omega) only [Aix, hal, hpos, e3, go_sem]
theorem A0m {x : SV} {f : Bool} {l : List Ent} (i : Bn) {h d} (hx : Cw h [x, .vec 2 [.i .i64 i.1, .i .u32 i.2]] = [.pv (.sl f 15 (l.map Bq)), .vec 2 [.i .i64 i.1, .i .u32 i.2]]) (hl : Bj [x, .vec 2 [.i .i64 i.1, .i .u32 i.2]] = true) (hs : Ds l) (hn : l.length ≤ 1000) :
 FunOk Tryz.prog 155 [x, .vec 2 [.i .i64 i.1, .i .u32 i.2]] h d (.tup [.pv (.i .i64 (F7 l i)), .pv (.b (Ra l i))]) [] := by
 refine C5 Af fn155 (by simp) hl rfl fun F => ?_;rw [hx];simp (disch := omega) only [ir155, go_sem];refine Aa (A61 (l := l) i rfl rfl hs hn) ?_;simp (disch := omega) only [go_sem]
theorem A20 {a : SV} {f : Bool} {l : List Ent} (x : Ent) {h d} (hx : Cw h [a, .vec 15 (Bq x)] = [.pv (.sl f 15 (l.map Bq)), .vec 15 (Bq x)]) (hl : Bj [a, .vec 15 (Bq x)] = true) (hs : Ds l) (hn : l.length ≤ 1000) :
 FunOk Tryz.prog 138 [a, .vec 15 (Bq x)] h d (.os d) [.new d (.row 15 ((R1 l x).map Bq))] := by
 refine Ab3 Af fn138 (by simp) hl (.inr (Jp _)) fun F => ?_;rw [hx];simp (disch := omega) only [ir138, Dk, go_sem];refine Aa (A0m (l := l) x.id rfl rfl hs hn) ?_;have hfl := Jp l;by_cases hi : Ra l x.id = true
 · have e : R1 l x = l := by unfold R1; rw [if_pos hi]
   simp (disch := omega) only [hi, e, go_sem];refine Aa (W7 (es := l.map Bq) rfl rfl (.inr rfl) (by simp; omega) hfl) ?_;simp (disch := omega) only [go_sem]
 · have hi' : Ra l x.id = false := by simpa using hi
   have e : R1 l x = O3 l x := by unfold R1; rw [if_neg hi]
   have hc := Dr x;simp (disch := omega) only [hi', e, go_sem];refine Aa (W7 (es := l.map Bq) rfl rfl (.inr rfl) (by simp; omega) hfl) ?_;simp (disch := omega) only [hc, Fy, go_sem];have hp := Aba l x.id;refine Aa (A2t (l.map Bq) (Bq x) (F7 l x.id) (by simp; omega) (by simp; omega) (fun c hc => by obtain ⟨y, _, rfl⟩ := List.mem_map.1 hc; exact Dr y) hc (by decide) (by decide) (by decide) (by decide) rfl rfl) ?_;simp (disch := omega) only [go_sem];simp [O3, List.map_take, List.map_drop]
def A8 (v : Vc) (r : Int) (q : Nat) : Vc := if 1 ≤ r ∧ r ≤ 8 then D4 v (r - 1).toNat (max (v (r - 1).toNat) q) else v
set_option maxHeartbeats 1000000 in
theorem Abd (v : Vc) (r : Int) (q : Nat) {h d} : FunOk Tryz.prog 105 [.vec 8 (vE v), .vec 2 [.i .i64 r, .i .u32 q]] h d (.vec 8 (vE (A8 v r q))) [] := by
 refine Al Af fn105 (by simp) rfl rfl fun F => ?_;by_cases h1 : 1 ≤ r
 · by_cases h2 : r ≤ 8
   · have e : A8 v r q = D4 v (r - 1).toNat (max (v (r - 1).toNat) q) := by unfold A8; rw [if_pos ⟨h1, h2⟩]
     obtain ⟨k, rfl⟩ : ∃ k : Nat, r = (k : Int) + 1 := ⟨(r - 1).toNat, by omega⟩
     have ek : ((k : Int) + 1 - 1) = (k : Int) := by omega
     rw [ek, Int.toNat_natCast] at e;rw [e];simp (disch := omega) only [ir105, ek, go_sem]
   · have e : A8 v r q = v := by unfold A8; rw [if_neg (by omega)]
     rw [e];simp (disch := omega) only [ir105, go_sem]
 · have e : A8 v r q = v := by unfold A8; rw [if_neg (by omega)]
   rw [e];simp (disch := omega) only [ir105, go_sem]
def U4 (a b : Vc) (k : Nat) : FS := mk [(6, .pv (.i .i64 k)), (5, .p 5 0), (4, .p 4 0), (3, .p 3 0), (2, .p 2 0)] [(2, some (.var (.vec 8 (vE a)))), (3, some (.var (.vec 8 (vE b)))), (5, some (.var (.vec 8 (vE fun i => if i < k then Cp a b i else 0)))), (4, some (.var (.vec 8 (vE fun _ => 0))))]
theorem U9 (a b : Vc) {h d} : FunOk Tryz.prog 102 [.vec 8 (vE a), .vec 8 (vE b)] h d (.vec 8 (vE (Cp a b))) [] := by
 refine Al Af fn102 (by simp) rfl rfl fun F => ?_;simp (disch := omega) only [ir102, go_sem];refine A0 Af (U4 a b) (fun k => k ≤ 8) (fun k => 8 - k) 0 (by simp) (Ah ?_ ?_) fun k hk => ?_
 · simp (disch := omega) only [go_sem]
 · simp (disch := omega) only [Aal, go_sem]
 by_cases hlt : k < 8
 · by_cases hc : a k < b k
   · simp (disch := omega) only [U4, go_sem];refine Ad (k + 1) _ _ rfl (by omega) (by omega) ?_ ?_
     · simp (disch := omega) only [go_sem]
     · simp (disch := omega) only [go_sem];exact Jh (Lq fun i hi => by simp only [D4, Cp]; grind)
   · simp (disch := omega) only [U4, go_sem];refine Ad (k + 1) _ _ rfl (by omega) (by omega) ?_ ?_
     · simp (disch := omega) only [go_sem]
     · simp (disch := omega) only [go_sem];exact Jh (Lq fun i hi => by simp only [D4, Cp]; grind)
 · simp (disch := omega) only [U4, Afu, go_sem]
def Qy (r : Int) (q : Nat) : Vc := fun i => if (i : Int) + 1 = r then q else 0
def Aas (r : Int) (q k : Nat) : FS := mk [(4, .pv (.i .i64 k)), (3, .p 3 0), (2, .p 2 0), (1, .p 1 0)] [(1, some (.var (.vec 2 [.i .i64 r, .i .u32 q]))), (3, some (.var (.vec 8 (vE fun i => if i < k then Qy r q i else 0)))), (2, some (.var (.vec 8 (vE fun _ => 0))))]
theorem A2s (r : Int) (q : Nat) {h d} : FunOk Tryz.prog 103 [.vec 2 [.i .i64 r, .i .u32 q]] h d (.vec 8 (vE (Qy r q))) [] := by
 refine Al Af fn103 (by simp) rfl rfl fun F => ?_;simp (disch := omega) only [ir103, go_sem];refine A0 Af (Aas r q) (fun k => k ≤ 8) (fun k => 8 - k) 0 (by simp) (Ah ?_ ?_) fun k hk => ?_
 · simp (disch := omega) only [go_sem]
 · simp (disch := omega) only [Aal, go_sem]
 by_cases hlt : k < 8
 · by_cases hc : (k : Int) + 1 = r
   · simp (disch := omega) only [Aas, hc, go_sem];refine Ad (k + 1) _ _ rfl (by omega) (by omega) ?_ ?_
     · simp (disch := omega) only [go_sem]
     · simp (disch := omega) only [go_sem];exact Jh (Lq fun i hi => by simp only [D4, Qy]; grind)
   · simp (disch := omega) only [Aas, hc, go_sem];refine Ad (k + 1) _ _ rfl (by omega) (by omega) ?_ ?_
     · simp (disch := omega) only [go_sem]
     · simp (disch := omega) only [go_sem];exact Jh (Lq fun i hi => by simp only [D4, Qy]; grind)
 · simp (disch := omega) only [Aas, Afu, go_sem]
theorem U8 (v : Vc) (r : Int) (q : Nat) {h d} : FunOk Tryz.prog 62 [.vec 8 (vE v), .vec 2 [.i .i64 r, .i .u32 q]] h d (.vec 8 (vE (Cp v (Qy r q)))) [] := by
 refine Al Af fn62 (by simp) rfl rfl fun F => ?_;simp (disch := omega) only [ir62, go_sem];refine Aa (A2s _ _) ?_;simp (disch := omega) only [go_sem];refine Aa (U9 _ _) ?_;simp (disch := omega) only [go_sem]
theorem Acu (v : Vc) (r : Int) (q : Nat) : ∀ i, i < 8 → A8 v r q i = Cp v (Qy r q) i := by
 intro i hi;unfold A8;split
 · simp only [D4, Cp, Qy]; grind
 · simp only [Cp, Qy]; grind
theorem Acx (a b c : Vc) : Cp (Cp a b) c = Cp a (Cp b c) := funext fun i => Nat.max_assoc _ _ _
theorem Afs (a : Vc) : Cp a a = a := funext fun i => Nat.max_self _
def A2o (b : Bn) : Vc := fun i => if 1 ≤ b.1 ∧ b.1 ≤ 8 ∧ (i : Int) + 1 = b.1 then b.2 else 0
theorem Acv (v : Vc) (b : Bn) : A8 v b.1 b.2 = Cp v (A2o b) := by
 funext i;unfold A8 Cp A2o;by_cases h : 1 ≤ b.1 ∧ b.1 ≤ 8
 · rw [if_pos h];unfold D4;by_cases e : i = (b.1 - 1).toNat
   · rw [if_pos e, if_pos (by omega), e]
   · rw [if_neg e, if_neg (by omega)]; simp
 · rw [if_neg h, if_neg (by omega)]; simp
def Agz (x y : Ent) : Ent := { x with gone := Cp x.gone y.gone }
theorem Zk {l : List Ent} {i : Bn} {f : Ent → Ent} (h : ∀ y ∈ l, y.id ≠ i) : Uv l i f = l := by
 unfold Uv;have e1 : ∀ z ∈ l, (if z.id = i then f z else z) = id z := fun z hz => by rw [if_neg (h z hz)]; rfl
 rw [List.map_congr_left e1, List.map_id]
def Agi (l : List Ent) (x : Ent) : List Ent := if Ra l x.id = true then Uv l x.id (fun y => Agz y x) else O3 l x
def Ff : List Ent → Ent → Bool → List Ent
 | [], x, put => if put = true then [] else [x]
 | y :: l, x, put => if y.id = x.id then Agz y x :: Ff l x true else if put = false ∧ Ic x.id y.id = true then x :: y :: Ff l x true else y :: Ff l x put
theorem Ps : ∀ {l : List Ent} {x : Ent}, (∀ y ∈ l, y.id ≠ x.id) → Ff l x true = l
 | [], x, _ => by simp [Ff]
 | y :: l, x, h => by
   simp only [Ff];rw [if_neg (h y List.mem_cons_self), if_neg (by simp), Ps fun z hz => h z (List.mem_cons_of_mem _ hz)]
theorem Asf (y : Ent) (l : List Ent) (i : Bn) (h : y.id ≠ i) : Ra (y :: l) i = Ra l i := by unfold Ra; simp only [Hu]; rw [if_neg h]
theorem Ajw {l : List Ent} {i : Bn} : Ra l i = false ↔ Hu l i = none := by unfold Ra; cases Hu l i <;> simp
theorem A8l {l : List Ent} {i : Bn} : Ra l i = true ↔ ∃ x, Hu l i = some x := by unfold Ra; cases Hu l i <;> simp
theorem Y8 : ∀ {l : List Ent} {x : Ent}, Ds l → Ff l x false = Agi l x
 | [], x, _ => by simp [Ff, Agi, Ra, Hu, O3, F7]
 | y :: l, x, hs => by
   obtain ⟨h1, h2⟩ := List.pairwise_cons.1 hs;simp only [Ff];by_cases e : y.id = x.id
   · have hne : ∀ z ∈ l, z.id ≠ x.id := fun z hz ez => Gb (by have := h1 z hz; rwa [e, ez] at this);rw [if_pos e, Ps hne];have : Ra (y :: l) x.id = true := by unfold Ra; simp [Hu, e]
     unfold Agi;rw [if_pos this];show _ = List.map _ (y :: l);rw [List.map_cons, if_pos e];congr 1;exact (Zk hne).symm
   · rw [if_neg e];by_cases hl : Ic x.id y.id = true
     · have hne : ∀ z ∈ l, z.id ≠ x.id := fun z hz ez => Gb (by have := He hl (h1 z hz); rwa [ez] at this);rw [if_pos (by simp [hl]), Ps hne];have : Ra (y :: l) x.id = false := Ajw.2 (F9.2 fun z hz => by
        rcases List.mem_cons.1 hz with rfl | hz
        · exact e
        · exact hne z hz)
       unfold Agi;rw [if_neg (by rw [this]; simp), Td, if_neg (Nq hl)]
     · rw [if_neg fun h => hl h.2, Y8 h2];unfold Agi;rw [Asf y l _ e];split
       · simp [Uv, e]
       · rw [Td, if_pos (Kj hl fun q => e q.symm)]
def Nn (b : Bn) (y : Ent) : Ent := { y with gone := Cp y.gone (A2o b) }
theorem Asa (b : Bn) (y : Ent) : (Nn b y).id = y.id := rfl
def killL (l : List Ent) (i b : Bn) : List Ent := Uv l i (Nn b)
theorem Ak1 {l : List Ent} (hs : Ds l) (i b : Bn) : Ds (killL l i b) := Apd (Asa b) hs i
theorem Axv (l : List Ent) (i : Bn) (f : Ent → Ent) : (Uv l i f).length = l.length := by simp [Uv]
theorem A8k {l : List Ent} (hs : Ds l) {i : Bn} (h : Ra l i = true) : ∃ y, l[F7 l i]? = some y ∧ Hu l i = some y := by
 obtain ⟨x, hx⟩ := A8l.1 h;refine ⟨x, ?_, hx⟩;have := Q2 hs i;rw [hx] at this;cases h1 : l[F7 l i]? with
 | none => rw [h1] at this; cases this
 | some y =>
   rw [h1] at this;simp only at this;split at this
   · cases this; rfl
   · cases this
set_option maxHeartbeats 1000000 in
theorem Ajb {a : SV} {f : Bool} {l : List Ent} (i b : Bn) {h d} (hx : Cw h [a, .vec 2 [.i .i64 i.1, .i .u32 i.2], .vec 2 [.i .i64 b.1, .i .u32 b.2]] = [.pv (.sl f 15 (l.map Bq)), .vec 2 [.i .i64 i.1, .i .u32 i.2], .vec 2 [.i .i64 b.1, .i .u32 b.2]]) (hl : Bj [a, .vec 2 [.i .i64 i.1, .i .u32 i.2], .vec 2 [.i .i64 b.1, .i .u32 b.2]] = true) (hs : Ds l) (hn : l.length ≤ 1000) :
 FunOk Tryz.prog 158 [a, .vec 2 [.i .i64 i.1, .i .u32 i.2], .vec 2 [.i .i64 b.1, .i .u32 b.2]] h d (.os d) [.new d (.row 15 ((killL l i b).map Bq))] := by
 refine Ab3 Af fn158 (by simp) hl (.inr (Jp _)) fun F => ?_;rw [hx];have hfl := Jp l;simp (disch := omega) only [ir158, go_sem];refine Aa (W7 (es := l.map Bq) rfl rfl (.inr rfl) (by simp; omega) hfl) ?_;simp (disch := omega) only [go_sem];refine Aa (A0m (l := l) i rfl rfl hs hn) ?_;by_cases hi : Ra l i = true
 · obtain ⟨y, h1, h2⟩ := A8k hs hi;have hp : F7 l i < l.length := (List.getElem?_eq_some_iff.1 h1).1;have he : (l.map Bq)[F7 l i]? = some (Bq y) := by rw [List.getElem?_map, h1]; rfl
   have hg : (l.map Bq).getD (F7 l i) [] = Bq y := by rw [List.getD_eq_getElem?_getD, he]; rfl
   have hw := Hb y (A8 y.gone b.1 b.2);have e : (l.map Bq).set (F7 l i) (Bq { y with gone := A8 y.gone b.1 b.2 }) = (killL l i b).map Bq := by
    rw [Acv, ← List.map_set];congr 1;exact Awm hs (f := Nn b) h2
   have hv := Bl (A8 y.gone b.1 b.2);simp (disch := omega) only [hi, List.length_map, he, Io, go_sem];refine Aa (Abd _ _ _) ?_;simp (disch := omega) only [hg, hw, e, List.length_map, go_sem]
 · have hi' : Ra l i = false := by simpa using hi
   have e : killL l i b = l := Zk (F9.1 (Ajw.1 hi'));simp (disch := omega) only [hi', e, go_sem]
theorem Bo (a : Bn) : El [K1.int .i64, K1.int .u32] [.i .i64 a.1, .i .u32 a.2] = True := eq_true rfl
theorem Fo {a b : Bn} (h : a = b) : Sv [.i .i64 a.1, .i .u32 a.2] [.i .i64 b.1, .i .u32 b.2] = true := by subst h; simp [Sv]
theorem Fp {a b : Bn} (h : a ≠ b) : Sv [.i .i64 a.1, .i .u32 a.2] [.i .i64 b.1, .i .u32 b.2] = false := Fg fun e => h (Prod.ext e.1 e.2)
def Sk (f : Bool) (l : List Ent) (x : Ent) (p : Nat × List Ent × Bool) : FS := mk [(7, .pv (.i .i64 p.1)), (6, .pv (.b p.2.2)), (5, .os 40), (3, .p 3 0), (0, .pv (.sl f 15 (l.map Bq)))] [(40, some (.row 15 (p.2.1.map Bq))), (3, some (.var (.vec 15 (Bq x))))]
set_option maxHeartbeats 2000000 in
theorem Abg {a : SV} {f : Bool} {l : List Ent} (x : Ent) {h d} (hx : Cw h [a, .vec 15 (Bq x)] = [.pv (.sl f 15 (l.map Bq)), .vec 15 (Bq x)]) (hl : Bj [a, .vec 15 (Bq x)] = true) (hn : l.length ≤ 1000) :
 FunOk Tryz.prog 100 [a, .vec 15 (Bq x)] h d (.os d) [.new d (.row 15 ((Ff l x false).map Bq))] := by
 refine Ab3 Af fn100 (by simp) hl (.inr (Jp _)) fun F => ?_;rw [hx];have hcx := Dr x;simp (disch := omega) only [ir100, List.length_map, go_sem];refine A0 Af (Sk f l x) (fun p => p.1 ≤ l.length ∧ p.2.1.length ≤ 2 * p.1 ∧ Ff l x false = p.2.1 ++ Ff (l.drop p.1) x p.2.2) (fun p => l.length - p.1) (0, [], false) ⟨Nat.zero_le _, Nat.le_refl _, rfl⟩ (Pl 5 40 15 rfl (by omega) (Ah ?_ ?_)) fun p hp => ?_
 · (try simp only [Cf, Ce, Cd, Cc, Cb, Ca, B9, B0]); simp (disch := omega) only [go_sem]
 · (try simp only [Cf, Ce, Cd, Cc, Cb, Ca, B9, B0]); simp (disch := omega) only [go_sem]
   rfl
 obtain ⟨k, out, put⟩ := p;obtain ⟨p1, p2, p3⟩ := hp;simp only at p1 p2 p3;by_cases hlt : k < l.length
 · have hd : l.drop k = l[k] :: l.drop (k + 1) := List.drop_eq_getElem_cons hlt;have he : (l.map Bq)[k]? = some (Bq l[k]) := by simp [hlt]
   rw [hd] at p3;generalize l[k] = y at *;have hcy := Dr y;simp only [Ff] at p3;by_cases hid : y.id = x.id
   · rw [if_pos hid] at p3;have hp := Fo hid;have hw := Hb y (Cp y.gone x.gone);have hv := Bl (Cp y.gone x.gone);have hm : ({ y with gone := Cp y.gone x.gone } : Ent) = Agz y x := rfl;have hcm := Dr (Agz y x);simp (disch := omega) only [Sk, List.length_map, he, Dk, Bo, hp, Fy, Io, hcy, go_sem];refine Aa (U9 _ _) ?_;simp (disch := omega) only [hw, hm, Fy, hcy, hcm, hv, List.length_map, go_sem];refine ⟨(k + 1, out ++ [Agz y x], true), ⟨by show k + 1 ≤ _; omega, by show List.length (out ++ [Agz y x]) ≤ 2 * (k + 1); simp; omega, by rw [p3]; show _ = (out ++ [Agz y x]) ++ _; simp⟩, by show l.length - (k + 1) < l.length - k; omega, D6 36 40 (by decide) rfl (Ah ?_ ?_)⟩
     · (try simp only [Cf, Ce, Cd, Cc, Cb, Ca, B9, B0]); simp (disch := omega) only [go_sem]
     · (try simp only [Cf, Ce, Cd, Cc, Cb, Ca, B9, B0]); simp (disch := omega) only [go_sem]
       simp
   · rw [if_neg hid] at p3;have hp := Fp hid;by_cases hput : put = true
     · subst hput;rw [if_neg (by simp)] at p3;simp (disch := omega) only [Sk, List.length_map, he, Dk, Bo, hp, Fy, hcy, go_sem];refine ⟨(k + 1, out ++ [y], true), ⟨by show k + 1 ≤ _; omega, by show List.length (out ++ [y]) ≤ 2 * (k + 1); simp; omega, by rw [p3]; show _ = (out ++ [y]) ++ _; simp⟩, by show l.length - (k + 1) < l.length - k; omega, D6 59 40 (by decide) rfl (Ah ?_ ?_)⟩
       · (try simp only [Cf, Ce, Cd, Cc, Cb, Ca, B9, B0]); simp (disch := omega) only [go_sem]
       · (try simp only [Cf, Ce, Cd, Cc, Cb, Ca, B9, B0]); simp (disch := omega) only [go_sem]
         simp
     · obtain rfl : put = false := by simpa using hput
       simp (disch := omega) only [Sk, List.length_map, he, Dk, Bo, hp, Fy, hcy, go_sem];refine Aa (F8 _ _ _ _) ?_;by_cases hl : Ic x.id y.id = true
       · rw [if_pos ⟨rfl, hl⟩] at p3;have hl' : Cl x.id.1 x.id.2 y.id.1 y.id.2 = true := hl;simp (disch := omega) only [hl', List.length_map, he, Fy, hcy, hcx, go_sem];refine ⟨by simp; omega, (k + 1, out ++ [x, y], true), ⟨by show k + 1 ≤ _; omega, by show List.length (out ++ [x, y]) ≤ 2 * (k + 1); simp; omega, by rw [p3]; show _ = (out ++ [x, y]) ++ _; simp⟩, by show l.length - (k + 1) < l.length - k; omega, D6 59 40 (by decide) rfl (Ah ?_ ?_)⟩
         · (try simp only [Cf, Ce, Cd, Cc, Cb, Ca, B9, B0]); simp (disch := omega) only [go_sem]
         · (try simp only [Cf, Ce, Cd, Cc, Cb, Ca, B9, B0]); simp (disch := omega) only [go_sem]
           simp
       · rw [if_neg fun q => hl q.2] at p3;have hl' : Cl x.id.1 x.id.2 y.id.1 y.id.2 = false := by simpa using hl
         simp (disch := omega) only [hl', List.length_map, he, Fy, hcy, go_sem];refine ⟨(k + 1, out ++ [y], false), ⟨by show k + 1 ≤ _; omega, by show List.length (out ++ [y]) ≤ 2 * (k + 1); simp; omega, by rw [p3]; show _ = (out ++ [y]) ++ _; simp⟩, by show l.length - (k + 1) < l.length - k; omega, D6 59 40 (by decide) rfl (Ah ?_ ?_)⟩
         · (try simp only [Cf, Ce, Cd, Cc, Cb, Ca, B9, B0]); simp (disch := omega) only [go_sem]
         · (try simp only [Cf, Ce, Cd, Cc, Cb, Ca, B9, B0]); simp (disch := omega) only [go_sem]
           simp
 · obtain rfl : k = l.length := by omega
   rw [List.drop_length] at p3;simp only [Ff] at p3;by_cases hput : put = true
   · subst hput;simp only [if_true, List.append_nil] at p3;simp (disch := omega) only [Sk, List.length_map, p3, go_sem]
   · obtain rfl : put = false := by simpa using hput
     simp only [Bool.false_eq_true, if_false] at p3;simp (disch := omega) only [Sk, List.length_map, Fy, hcx, go_sem];rw [p3]; simp
structure SlI where
 f : Bool
 z : Nat
 l : List Bn
def SlI.pv (g : SlI) : PV := .sl g.f g.z (g.l.map Ed)
def SlI.ok (g : SlI) : Prop := g.l = [] ∨ g.z = 2
def SlI.nil : SlI := ⟨true, 0, []⟩
structure Evt where
 rep : Int
 seq : Nat
 dep : Vc
 kind : Int
 orep : Int
 oseq : Nat
 drep : Int
 dseq : Nat
 name : List UInt8
 gone : SlI
 base : SlI
 off : Int
 data : List UInt8
 ward : Int
def Bc (e : Evt) : List PV := [.i .i64 e.rep, .i .u32 e.seq] ++ vE e.dep ++ [.i .i64 e.kind, .i .i64 e.orep, .i .u32 e.oseq, .i .i64 e.drep, .i .u32 e.dseq, .s e.name, e.gone.pv, e.base.pv, .i .i64 e.off, .s e.data, .i .i64 e.ward]
theorem Ac (e : Evt) : (Bc e).length = 21 := by simp [Bc, vE, Cj]
theorem Dd (e : Evt) (K : KK) : LoadK (some (Bc e)) 0 1 false K = K (.pv (.i .i64 e.rep)) [] := by
 simp only [LoadK, Hv, eq_iff_iff];exact ⟨fun h => h.2.2, fun h => ⟨by simp [Bc, vE, Cj], .inr trivial, h⟩⟩
theorem Fx (e : Evt) (K : KK) : LoadK (some (Bc e)) 1 1 false K = K (.pv (.i .u32 e.seq)) [] := by
 simp only [LoadK, Hv, eq_iff_iff];exact ⟨fun h => h.2.2, fun h => ⟨by simp [Bc, vE, Cj], .inr trivial, h⟩⟩
theorem Ag (e : Evt) (K : KK) : LoadK (some (Bc e)) 10 1 false K = K (.pv (.i .i64 e.kind)) [] := by
 simp only [LoadK, Hv, eq_iff_iff];exact ⟨fun h => h.2.2, fun h => ⟨by simp [Bc, vE, Cj], .inr trivial, h⟩⟩
theorem Du (e : Evt) (K : KK) : LoadK (some (Bc e)) 15 1 false K = K (.pv (.s e.name)) [] := by
 simp only [LoadK, Hv, eq_iff_iff];exact ⟨fun h => h.2.2, fun h => ⟨by simp [Bc, vE, Cj], .inr trivial, h⟩⟩
theorem Ga (e : Evt) (K : KK) : LoadK (some (Bc e)) 16 1 false K = K (.pv (e.gone.pv)) [] := by
 simp only [LoadK, Hv, eq_iff_iff];exact ⟨fun h => h.2.2, fun h => ⟨by simp [Bc, vE, Cj], .inr trivial, h⟩⟩
theorem Fh (e : Evt) (K : KK) : LoadK (some (Bc e)) 17 1 false K = K (.pv (e.base.pv)) [] := by
 simp only [LoadK, Hv, eq_iff_iff];exact ⟨fun h => h.2.2, fun h => ⟨by simp [Bc, vE, Cj], .inr trivial, h⟩⟩
theorem Jg (e : Evt) (K : KK) : LoadK (some (Bc e)) 18 1 false K = K (.pv (.i .i64 e.off)) [] := by
 simp only [LoadK, Hv, eq_iff_iff];exact ⟨fun h => h.2.2, fun h => ⟨by simp [Bc, vE, Cj], .inr trivial, h⟩⟩
theorem Hk (e : Evt) (K : KK) : LoadK (some (Bc e)) 19 1 false K = K (.pv (.s e.data)) [] := by
 simp only [LoadK, Hv, eq_iff_iff];exact ⟨fun h => h.2.2, fun h => ⟨by simp [Bc, vE, Cj], .inr trivial, h⟩⟩
theorem Ve (e : Evt) (K : KK) : LoadK (some (Bc e)) 20 1 false K = K (.pv (.i .i64 e.ward)) [] := by
 simp only [LoadK, Hv, eq_iff_iff];exact ⟨fun h => h.2.2, fun h => ⟨by simp [Bc, vE, Cj], .inr trivial, h⟩⟩
theorem Aw (e : Evt) (K : KK) : LoadK (some (Bc e)) 0 2 true K = K (.vec 2 ([.i .i64 e.rep, .i .u32 e.seq])) [] := by
 simp only [LoadK, Hv, eq_iff_iff];exact ⟨fun h => h.2.2, fun h => ⟨by simp [Bc, vE, Cj], .inl trivial, h⟩⟩
theorem Fa (e : Evt) (K : KK) : LoadK (some (Bc e)) 2 8 true K = K (.vec 8 (vE e.dep)) [] := by
 simp only [LoadK, Hv, eq_iff_iff];exact ⟨fun h => h.2.2, fun h => ⟨by simp [Bc, vE, Cj], .inl trivial, h⟩⟩
theorem A7 (e : Evt) (K : KK) : LoadK (some (Bc e)) 11 2 true K = K (.vec 2 ([.i .i64 e.orep, .i .u32 e.oseq])) [] := by
 simp only [LoadK, Hv, eq_iff_iff];exact ⟨fun h => h.2.2, fun h => ⟨by simp [Bc, vE, Cj], .inl trivial, h⟩⟩
theorem Dj (e : Evt) (K : KK) : LoadK (some (Bc e)) 13 2 true K = K (.vec 2 ([.i .i64 e.drep, .i .u32 e.dseq])) [] := by
 simp only [LoadK, Hv, eq_iff_iff];exact ⟨fun h => h.2.2, fun h => ⟨by simp [Bc, vE, Cj], .inl trivial, h⟩⟩
theorem Bh (e : Evt) (K : KK) : LoadK (some (Bc e)) 0 21 true K = K (.vec 21 (Bc e)) [] := Xf (Ac e) K
theorem H3 (e : Evt) {j : Nat} (h : j < 8) (K : KK) : LoadK (some (Bc e)) (2 + j) 1 false K = K (.pv (.i .u32 (e.dep j))) [] := by
 have : j = 0 ∨ j = 1 ∨ j = 2 ∨ j = 3 ∨ j = 4 ∨ j = 5 ∨ j = 6 ∨ j = 7 := by omega
 simp only [LoadK, Hv, eq_iff_iff];rcases this with rfl | rfl | rfl | rfl | rfl | rfl | rfl | rfl <;> exact ⟨fun h => h.2.2, fun h => ⟨by simp [Bc, vE, Cj], .inr trivial, h⟩⟩
theorem A1l (e : Evt) (r : Int) (q : Nat) : splice (Bc e) 11 [.i .i64 r, .i .u32 q] = Bc { e with orep := r, oseq := q } := rfl
theorem A1m (e : Evt) (r : Int) (q : Nat) : splice (Bc e) 13 [.i .i64 r, .i .u32 q] = Bc { e with drep := r, dseq := q } := rfl
theorem Ka (e : Evt) (s : List UInt8) : splice (Bc e) 15 [.s s] = Bc { e with name := s } := rfl
theorem Awc (e : Evt) (f : Bool) (z : Nat) (l : List Bn) : splice (Bc e) 16 [.sl f z (l.map Ed)] = Bc { e with gone := ⟨f, z, l⟩ } := rfl
theorem Awd (e : Evt) (f : Bool) (z : Nat) (l : List Bn) : splice (Bc e) 17 [.sl f z (l.map Ed)] = Bc { e with base := ⟨f, z, l⟩ } := rfl
theorem M6 (e : Evt) (n : Int) : splice (Bc e) 18 [.i .i64 n] = Bc { e with off := n } := rfl
theorem Kc (e : Evt) (s : List UInt8) : splice (Bc e) 19 [.s s] = Bc { e with data := s } := rfl
theorem J8 (e : Evt) (n : Int) : splice (Bc e) 20 [.i .i64 n] = Bc { e with ward := n } := rfl
theorem J9 (e : Evt) : splice (Bc e) 11 [.i .i64 0, .i .u32 0] = Bc { e with orep := 0, oseq := 0 } := A1l e 0 0
theorem Kb (e : Evt) : splice (Bc e) 13 [.i .i64 0, .i .u32 0] = Bc { e with drep := 0, dseq := 0 } := A1m e 0 0
theorem Ig (e : Evt) : splice (Bc e) 16 [.sl true 0 []] = Bc { e with gone := .nil } := Awc e true 0 []
theorem Ih (e : Evt) : splice (Bc e) 17 [.sl true 0 []] = Bc { e with base := .nil } := Awd e true 0 []
theorem E1 (e e' : Evt) : splice (Bc e) 0 (Bc e') = Bc e' := rfl
attribute [go_sem] Dd Fx Ag Du Ga Fh Jg Hk Ve Aw Fa A7 Dj Bh Ac SlI.pv Dq List.length_map
def Cq (e : Evt) : Evt :=
 if e.kind = 1 ∨ e.kind = 2 then { e with drep := 0, dseq := 0, name := [] }
 else if e.kind = 3 then { e with orep := 0, oseq := 0, base := .nil, off := 0, data := [] }
 else if e.kind = 4 then { e with orep := 0, oseq := 0, base := .nil, off := 0 }
 else if e.kind = 5 then { e with orep := 0, oseq := 0, base := .nil, data := [] }
 else if e.kind = 6 then { e with orep := 0, oseq := 0, gone := .nil }
 else if e.kind = 7 then { e with orep := 0, oseq := 0, gone := .nil, drep := 0, dseq := 0, name := [] }
 else if e.kind = 8 then { e with ward := 0 }
 else e
set_option maxHeartbeats 4000000 in
theorem A2x (e : Evt) {h d} : FunOk Tryz.prog 112 [.vec 21 (Bc e)] h d (.vec 21 (Bc (Cq e))) [] := by
 refine Al Af fn112 (by simp) rfl rfl fun F => ?_;have hl := Ac e;by_cases h1 : e.kind = 1
 · have eb : Cq e = { e with drep := 0, dseq := 0, name := [] } := by simp [Cq, h1]
   simp (disch := omega) only [ir112, Ag, h1, Kb, Ka, J9, Ih, Ig, M6, Kc, J8, Bh, Ac, eb, go_sem]
 by_cases h2 : e.kind = 2
 · have eb : Cq e = { e with drep := 0, dseq := 0, name := [] } := by simp [Cq, h2]
   simp (disch := omega) only [ir112, Ag, h2, Kb, Ka, J9, Ih, Ig, M6, Kc, J8, Bh, Ac, eb, go_sem]
 by_cases h3 : e.kind = 3
 · have eb : Cq e = { e with orep := 0, oseq := 0, base := .nil, off := 0, data := [] } := by simp [Cq, h3]
   simp (disch := omega) only [ir112, Ag, h3, Kb, Ka, J9, Ih, Ig, M6, Kc, J8, Bh, Ac, eb, go_sem]
 by_cases h4 : e.kind = 4
 · have eb : Cq e = { e with orep := 0, oseq := 0, base := .nil, off := 0 } := by simp [Cq, h4]
   simp (disch := omega) only [ir112, Ag, h4, Kb, Ka, J9, Ih, Ig, M6, Kc, J8, Bh, Ac, eb, go_sem]
 by_cases h5 : e.kind = 5
 · have eb : Cq e = { e with orep := 0, oseq := 0, base := .nil, data := [] } := by simp [Cq, h5]
   simp (disch := omega) only [ir112, Ag, h5, Kb, Ka, J9, Ih, Ig, M6, Kc, J8, Bh, Ac, eb, go_sem]
 by_cases h6 : e.kind = 6
 · have eb : Cq e = { e with orep := 0, oseq := 0, gone := .nil } := by simp [Cq, h6]
   simp (disch := omega) only [ir112, Ag, h6, Kb, Ka, J9, Ih, Ig, M6, Kc, J8, Bh, Ac, eb, go_sem]
 by_cases h7 : e.kind = 7
 · have eb : Cq e = { e with orep := 0, oseq := 0, gone := .nil, drep := 0, dseq := 0, name := [] } := by simp [Cq, h7]
   simp (disch := omega) only [ir112, Ag, h7, Kb, Ka, J9, Ih, Ig, M6, Kc, J8, Bh, Ac, eb, go_sem]
 by_cases h8 : e.kind = 8
 · have eb : Cq e = { e with ward := 0 } := by simp [Cq, h8]
   simp (disch := omega) only [ir112, Ag, h8, Kb, Ka, J9, Ih, Ig, M6, Kc, J8, Bh, Ac, eb, go_sem]
 have eb : Cq e = e := by simp [Cq, h1, h2, h3, h4, h5, h6, h7, h8]
 simp (disch := omega) only [ir112, Ag, h1, h2, h3, h4, h5, h6, h7, h8, Bh, Ac, eb, go_sem]
end Go.Proofs.YthmjebkldgdeiaaGreat.Fw
namespace Go.Proofs.YthmjebkldgdeiaaGreat.Fw
open Go.RowKit Go.Proofs
def Cg (r : Int) (q : Nat) : Bool := decide (r = 0 ∧ q = 0)
theorem S8 (r : Int) (q : Nat) (K : KK) : LoadK (some [PV.i .i64 r, PV.i .u32 q]) 0 1 false K = K (.pv (.i .i64 r)) [] := Abr ..
theorem S7 (r : Int) (q : Nat) (K : KK) : LoadK (some [PV.i .i64 r, PV.i .u32 q]) 1 1 false K = K (.pv (.i .u32 q)) [] := by
 rw [Ajn]; exact Abr ..
theorem A2 (r : Int) (q : Nat) {h d} : FunOk Tryz.prog 117 [.vec 2 [.i .i64 r, .i .u32 q]] h d (.pv (.b (Cg r q))) [] := by
 refine Al Af fn117 (by simp) rfl rfl fun F => ?_;by_cases h1 : r = 0
 · by_cases h2 : q = 0
   · have e : Cg r q = true := decide_eq_true ⟨h1, h2⟩;simp (disch := omega) only [ir117, S8, S7, h1, h2, e, Int.natCast_zero, go_sem];rw [← h1, ← h2, e]
   · have e : Cg r q = false := decide_eq_false (by omega);have h3 : ¬ (q : Int) = 0 := by omega
     simp (disch := omega) only [ir117, S8, S7, h3, e, h1, go_sem];rw [← h1, e]
 · have e : Cg r q = false := decide_eq_false (by omega);simp (disch := omega) only [ir117, S8, S7, h1, e, go_sem]
theorem Ae (r : Int) (q : Nat) : El [K1.int .i64, K1.int .u32] [.i .i64 r, .i .u32 q] = True := eq_true rfl
theorem Au : El [K1.int .i64, K1.int .u32] [.i .i64 0, .i .u32 0] = True := eq_true rfl
theorem Ar (r : Int) (q : Nat) : Sv [.i .i64 r, .i .u32 q] [.i .i64 0, .i .u32 0] = Cg r q := by
 by_cases h : r = 0 ∧ q = 0
 · rw [show Cg r q = true from decide_eq_true h];exact Gw (q' := 0) h
 · rw [show Cg r q = false from decide_eq_false h];exact Fg (q' := 0) h
def C4 (e : Evt) : Bool := Cg e.drep e.dseq || Bg e.dep e.drep e.dseq
theorem Abh (e : Evt) {h d} : FunOk Tryz.prog 114 [.vec 21 (Bc e)] h d (.pv (.b (C4 e))) [] := by
 refine Al Af fn114 (by simp) rfl rfl fun F => ?_;have hl := Ac e;cases hz : Cg e.drep e.dseq with
 | true =>
   have eb : C4 e = true := by simp [C4, hz]
   simp (disch := omega) only [ir114, Dj, Ac, Ae, Au, Ar, hz, eb, go_sem]
 | false =>
   have eb : C4 e = Bg e.dep e.drep e.dseq := by simp [C4, hz]
   simp (disch := omega) only [ir114, Dj, Fa, Ac, Ae, Au, Ar, hz, eb, go_sem];refine Aa (G2 _ _ _) ?_;simp (disch := omega) only [go_sem]
def Cv (n : Int) : Bool := decide (0 ≤ n ∧ n ≤ 200)
theorem W4 (n : Int) {h d} : FunOk Tryz.prog 113 [.pv (.i .i64 n)] h d (.pv (.b (Cv n))) [] := by
 refine Al Af fn113 (by simp) rfl rfl fun F => ?_;by_cases h1 : 0 ≤ n
 · have e : Cv n = decide (n ≤ 200) := decide_eq_decide.2 (by omega);simp (disch := omega) only [ir113, h1, e, go_sem]
 · have e : Cv n = false := decide_eq_false (by omega);simp (disch := omega) only [ir113, h1, e, go_sem]
def Avc (a : Vc) (l : List Bn) : Prop := ∀ i, (h : i < l.length) → Bg a l[i].1 l[i].2 = true ∧ (0 < i → Cl l[i - 1].1 l[i - 1].2 l[i].1 l[i].2 = true)
open Classical in
noncomputable def Hd (a : Vc) (l : List Bn) : Bool := decide (Avc a l)
theorem Ai1 {a : Vc} {l : List Bn} (h : Avc a l) : Hd a l = true := by simp [Hd, h]
theorem U7 {a : Vc} {l : List Bn} (h : ¬ Avc a l) : Hd a l = false := by simp [Hd, h]
theorem Ek (x : Bn) (K : KK) : LoadK (some (Ed x)) 0 2 true K = K (.vec 2 [.i .i64 x.1, .i .u32 x.2]) [] := Xf (by rfl) K
def Qj (f : Bool) (z : Nat) (l : List Bn) (a : Vc) (k : Nat) : FS := mk [(15, .pv (.i .i64 k)), (14, .pv (.i .i64 l.length)), (13, .pv (.sl f z (l.map Ed))), (0, .pv (.sl f z (l.map Ed))), (5, .p 5 0)] [(5, some (.var (.vec 8 (vE a))))]
noncomputable def Ef (l : List Bn) (most : Int) (a : Vc) : Bool := decide ((l.length : Int) ≤ most) && Hd a l
theorem Y7 {a : Vc} {l : List Bn} {k : Nat} (hk : ∀ i, (h : i < l.length) → i < k → Bg a l[i].1 l[i].2 = true ∧ (0 < i → Cl l[i - 1].1 l[i - 1].2 l[i].1 l[i].2 = true)) (hlt : k < l.length)
 (h1 : Bg a l[k].1 l[k].2 = true) (h2 : 0 < k → Cl l[k - 1].1 l[k - 1].2 l[k].1 l[k].2 = true) : ∀ i, (h : i < l.length) → i < k + 1 → Bg a l[i].1 l[i].2 = true ∧ (0 < i → Cl l[i - 1].1 l[i - 1].2 l[i].1 l[i].2 = true) := fun i h hi => by
 by_cases e : i = k
 · subst e; exact ⟨h1, h2⟩
 · exact hk i h (by omega)
set_option maxHeartbeats 2000000 in
theorem Adx {f : Bool} {z : Nat} {l : List Bn} {most : Int} {a : Vc} {h d} (hz : l = [] ∨ z = 2) (hn : l.length ≤ 1000) :
 FunOk Tryz.prog 116 [.pv (.sl f z (l.map Ed)), .pv (.i .i64 most), .vec 8 (vE a)] h d (.pv (.b (Ef l most a))) [] := by
 refine Al Af fn116 (by simp) rfl rfl fun F => ?_;by_cases hm : most < (l.length : Int)
 · have eb : Ef l most a = false := by
    have : ¬ (l.length : Int) ≤ most := by omega
    simp [Ef, this]
   simp (disch := omega) only [ir116, List.length_map, hm, eb, go_sem]
 have eb : Ef l most a = Hd a l := by
  have : (l.length : Int) ≤ most := by omega
  simp [Ef, this]
 rw [eb];simp (disch := omega) only [ir116, List.length_map, hm, go_sem];refine A0 Af (Qj f z l a) (fun k => k ≤ l.length ∧ ∀ i, (h : i < l.length) → i < k → Bg a l[i].1 l[i].2 = true ∧ (0 < i → Cl l[i - 1].1 l[i - 1].2 l[i].1 l[i].2 = true)) (fun k => l.length - k) 0 (by simp) (Ah ?_ ?_) fun k hk => ?_
 · simp (disch := omega) only [List.length_map, go_sem]
 · simp (disch := omega) only [go_sem]
 obtain ⟨hk1, hk2⟩ := hk;by_cases hlt : k < l.length
 · have hz2 : z = 2 := hz.resolve_left fun e => by subst e; simp at hlt
   subst hz2;have he : (l.map Ed)[k]? = some (Ed l[k]) := by simp [hlt]
   have hst := Y7 hk2 hlt;by_cases hh : Bg a l[k].1 l[k].2 = true
   · by_cases h0 : k = 0
     · subst h0;have e0 : (l.map Ed)[0]? = some (Ed l[0]) := he;simp (disch := omega) only [Qj, List.length_map, he, e0, Ek, Dq, Int.natCast_zero, go_sem];refine Aa (G2 _ _ _) ?_;simp (disch := omega) only [hh, Int.natCast_zero, go_sem];refine Ad (x := (0 : Nat)) (1 : Nat) _ _ rfl ⟨by omega, hst hh (by omega)⟩ (by omega) ?_ ?_
       · simp (disch := omega) only [go_sem]
       · simp (disch := omega) only [go_sem]
     · have hk' : k - 1 < l.length := by omega
       have he' : (l.map Ed)[k - 1]? = some (Ed l[k - 1]) := by simp [hk']
       have ek : ((k : Int) - 1).toNat = k - 1 := by omega
       have hpos : (0 : Int) < k := by omega
       by_cases hlt2 : Cl l[k - 1].1 l[k - 1].2 l[k].1 l[k].2 = true
       · simp (disch := omega) only [Qj, List.length_map, he, he', ek, hpos, Ek, Dq, go_sem];refine Aa (G2 _ _ _) ?_;simp (disch := omega) only [hh, he, he', ek, hpos, Ek, List.length_map, go_sem];refine Aa (Nf _ _ _ _) ?_;simp (disch := omega) only [hlt2, go_sem];refine Ad (k + 1) _ _ rfl ⟨by omega, hst hh fun _ => hlt2⟩ (by omega) ?_ ?_
         · simp (disch := omega) only [go_sem]
         · simp (disch := omega) only [go_sem]
       · have hlt3 : Cl l[k - 1].1 l[k - 1].2 l[k].1 l[k].2 = false := by simpa using hlt2
         have er := U7 (a := a) (l := l) fun h => hlt2 ((h k hlt).2 (by omega));simp (disch := omega) only [Qj, List.length_map, he, he', ek, hpos, Ek, Dq, go_sem];refine Aa (G2 _ _ _) ?_;simp (disch := omega) only [hh, he, he', ek, hpos, Ek, List.length_map, go_sem];refine Aa (Nf _ _ _ _) ?_;simp (disch := omega) only [hlt3, er, Qj, go_sem]
   · have hh' : Bg a l[k].1 l[k].2 = false := by simpa using hh
     have er := U7 (a := a) (l := l) fun h => hh (h k hlt).1;simp (disch := omega) only [Qj, List.length_map, he, Ek, Dq, go_sem];refine Aa (G2 _ _ _) ?_;simp (disch := omega) only [hh', er, Qj, go_sem]
 · obtain rfl : k = l.length := by omega
   have er := Ai1 (a := a) (l := l) fun i h => hk2 i h h;simp (disch := omega) only [Qj, List.length_map, er, Qj, go_sem]
def Lt (f : Bool) (z : Nat) (l : List Bn) (a : Vc) (k : Nat) : FS := mk [(5, .pv (.i .i64 k)), (0, .pv (.sl f z (l.map Ed))), (3, .p 3 0)] [(3, some (.var (.vec 8 (vE a))))]
set_option maxHeartbeats 2000000 in
theorem Aql {f : Bool} {z : Nat} {l : List Bn} {a : Vc} {h d} (hz : l = [] ∨ z = 2) (hn : l.length ≤ 1000) :
 FunOk Tryz.prog 118 [.pv (.sl f z (l.map Ed)), .vec 8 (vE a)] h d (.pv (.b (Hd a l))) [] := by
 refine Al Af fn118 (by simp) rfl rfl fun F => ?_;simp (disch := omega) only [ir118, List.length_map, go_sem];refine A0 Af (Lt f z l a) (fun k => k ≤ l.length ∧ ∀ i, (h : i < l.length) → i < k → Bg a l[i].1 l[i].2 = true ∧ (0 < i → Cl l[i - 1].1 l[i - 1].2 l[i].1 l[i].2 = true)) (fun k => l.length - k) 0 (by simp) (Ah ?_ ?_) fun k hk => ?_
 · simp (disch := omega) only [go_sem]
 · simp (disch := omega) only [go_sem]
 obtain ⟨hk1, hk2⟩ := hk;by_cases hlt : k < l.length
 · have hz2 : z = 2 := hz.resolve_left fun e => by subst e; simp at hlt
   subst hz2;have he : (l.map Ed)[k]? = some (Ed l[k]) := by simp [hlt]
   have hst := Y7 hk2 hlt;by_cases hh : Bg a l[k].1 l[k].2 = true
   · by_cases h0 : k = 0
     · subst h0;have e0 : (l.map Ed)[0]? = some (Ed l[0]) := he;simp (disch := omega) only [Lt, List.length_map, he, e0, Ek, Dq, Int.natCast_zero, go_sem];refine Aa (Nh _ _ _) ?_;simp (disch := omega) only [hh, Int.natCast_zero, go_sem];refine Ad (x := (0 : Nat)) (1 : Nat) _ _ rfl ⟨by omega, hst hh (by omega)⟩ (by omega) ?_ ?_
       · simp (disch := omega) only [go_sem]
       · simp (disch := omega) only [go_sem]
     · have hk' : k - 1 < l.length := by omega
       have he' : (l.map Ed)[k - 1]? = some (Ed l[k - 1]) := by simp [hk']
       have ek : ((k : Int) - 1).toNat = k - 1 := by omega
       have hpos : (0 : Int) < k := by omega
       by_cases hlt2 : Cl l[k - 1].1 l[k - 1].2 l[k].1 l[k].2 = true
       · simp (disch := omega) only [Lt, List.length_map, he, he', ek, hpos, Ek, Dq, go_sem];refine Aa (Nh _ _ _) ?_;simp (disch := omega) only [hh, he, he', ek, hpos, Ek, List.length_map, go_sem];refine Aa (F8 _ _ _ _) ?_;simp (disch := omega) only [hlt2, go_sem];refine Ad (k + 1) _ _ rfl ⟨by omega, hst hh fun _ => hlt2⟩ (by omega) ?_ ?_
         · simp (disch := omega) only [go_sem]
         · simp (disch := omega) only [go_sem]
       · have hlt3 : Cl l[k - 1].1 l[k - 1].2 l[k].1 l[k].2 = false := by simpa using hlt2
         have er := U7 (a := a) (l := l) fun h => hlt2 ((h k hlt).2 (by omega));simp (disch := omega) only [Lt, List.length_map, he, he', ek, hpos, Ek, Dq, go_sem];refine Aa (Nh _ _ _) ?_;simp (disch := omega) only [hh, he, he', ek, hpos, Ek, List.length_map, go_sem];refine Aa (F8 _ _ _ _) ?_;simp (disch := omega) only [hlt3, er, Lt, go_sem]
   · have hh' : Bg a l[k].1 l[k].2 = false := by simpa using hh
     have er := U7 (a := a) (l := l) fun h => hh (h k hlt).1;simp (disch := omega) only [Lt, List.length_map, he, Ek, Dq, go_sem];refine Aa (Nh _ _ _) ?_;simp (disch := omega) only [hh', er, Lt, go_sem]
 · obtain rfl : k = l.length := by omega
   have er := Ai1 (a := a) (l := l) fun i h => hk2 i h h;simp (disch := omega) only [Lt, List.length_map, er, Lt, go_sem]
def Am (e : Evt) (o d g b f t w : Bool) : Bool := (o || Cg e.orep e.oseq) && ((d || (Cg e.drep e.dseq && decide (e.name = []))) && ((g || decide ((e.gone.l.length : Int) = 0)) && ((b || decide ((e.base.l.length : Int) = 0)) && ((f || decide (e.off = 0)) && ((t || decide (e.data = [])) && (w || decide (e.ward = 0)))))))
set_option maxHeartbeats 4000000 in
theorem Aja (e : Evt) {h d} : FunOk Tryz.prog 120 [.vec 21 (Bc e), .pv (.b false), .pv (.b true), .pv (.b false), .pv (.b false), .pv (.b false), .pv (.b false), .pv (.b false)] h d (.pv (.b (Am e false true false false false false false))) [] := by
 refine Al Af fn120 (by simp) rfl rfl fun F => ?_;have hl := Ac e;by_cases hz1' : Cg e.orep e.oseq = false
 · have hz1 := hz1';have eb : Am e false true false false false false false = false := by simp only [Am, hz1, go_sem, Bool.true_or]
   simp (disch := omega) only [ir120, Ac, hz1, eb, go_sem];refine Aa (A2 _ _) ?_;simp (disch := omega) only [Ac, hz1, eb, go_sem]
 have hz1 : Cg e.orep e.oseq = true := by simpa using hz1'
 by_cases hgo : (e.gone.l.length : Int) = 0;rotate_left
 · have eb : Am e false true false false false false false = false := by simp only [Am, hz1, hgo, go_sem, Bool.true_or]
   simp (disch := omega) only [ir120, Ac, hz1, hgo, eb, go_sem];refine Aa (A2 _ _) ?_;simp (disch := omega) only [Ac, hz1, hgo, eb, go_sem]
 by_cases hba : (e.base.l.length : Int) = 0;rotate_left
 · have eb : Am e false true false false false false false = false := by simp only [Am, hz1, hgo, hba, go_sem, Bool.true_or]
   simp (disch := omega) only [ir120, Ac, hz1, hgo, hba, eb, go_sem];refine Aa (A2 _ _) ?_;simp (disch := omega) only [Ac, hz1, hgo, hba, eb, go_sem]
 by_cases hof : e.off = 0;rotate_left
 · have eb : Am e false true false false false false false = false := by simp only [Am, hz1, hgo, hba, hof, go_sem, Bool.true_or]
   simp (disch := omega) only [ir120, Ac, hz1, hgo, hba, hof, eb, go_sem];refine Aa (A2 _ _) ?_;simp (disch := omega) only [Ac, hz1, hgo, hba, hof, eb, go_sem]
 by_cases hda : e.data = [];rotate_left
 · have eb : Am e false true false false false false false = false := by simp only [Am, hz1, hgo, hba, hof, hda, go_sem, Bool.true_or]
   simp (disch := omega) only [ir120, Ac, hz1, hgo, hba, hof, hda, eb, go_sem];refine Aa (A2 _ _) ?_;simp (disch := omega) only [Ac, hz1, hgo, hba, hof, hda, eb, go_sem]
 by_cases hwa : e.ward = 0;rotate_left
 · have eb : Am e false true false false false false false = false := by simp only [Am, hz1, hgo, hba, hof, hda, hwa, go_sem, Bool.true_or]
   simp (disch := omega) only [ir120, Ac, hz1, hgo, hba, hof, hda, hwa, eb, go_sem];refine Aa (A2 _ _) ?_;simp (disch := omega) only [Ac, hz1, hgo, hba, hof, hda, hwa, eb, go_sem]
 have eb : Am e false true false false false false false = true := by simp only [Am, hz1, hgo, hba, hof, hda, hwa, go_sem, Bool.true_or]
 simp (disch := omega) only [ir120, Ac, hz1, hgo, hba, hof, hda, hwa, eb, go_sem];refine Aa (A2 _ _) ?_;simp (disch := omega) only [Ac, hz1, hgo, hba, hof, hda, hwa, eb, go_sem]
set_option maxHeartbeats 4000000 in
theorem Ago (e : Evt) {h d} : FunOk Tryz.prog 120 [.vec 21 (Bc e), .pv (.b true), .pv (.b false), .pv (.b false), .pv (.b true), .pv (.b true), .pv (.b true), .pv (.b false)] h d (.pv (.b (Am e true false false true true true false))) [] := by
 refine Al Af fn120 (by simp) rfl rfl fun F => ?_;have hl := Ac e;by_cases hz2' : Cg e.drep e.dseq = false
 · have hz2 := hz2';have eb : Am e true false false true true true false = false := by simp only [Am, hz2, go_sem, Bool.true_or]
   simp (disch := omega) only [ir120, Ac, hz2, eb, go_sem];refine Aa (A2 _ _) ?_;simp (disch := omega) only [Ac, hz2, eb, go_sem]
 have hz2 : Cg e.drep e.dseq = true := by simpa using hz2'
 by_cases hnm : e.name = [];rotate_left
 · have eb : Am e true false false true true true false = false := by simp only [Am, hz2, hnm, go_sem, Bool.true_or]
   simp (disch := omega) only [ir120, Ac, hz2, hnm, eb, go_sem];refine Aa (A2 _ _) ?_;simp (disch := omega) only [Ac, hz2, hnm, eb, go_sem]
 by_cases hgo : (e.gone.l.length : Int) = 0;rotate_left
 · have eb : Am e true false false true true true false = false := by simp only [Am, hz2, hnm, hgo, go_sem, Bool.true_or]
   simp (disch := omega) only [ir120, Ac, hz2, hnm, hgo, eb, go_sem];refine Aa (A2 _ _) ?_;simp (disch := omega) only [Ac, hz2, hnm, hgo, eb, go_sem]
 by_cases hwa : e.ward = 0;rotate_left
 · have eb : Am e true false false true true true false = false := by simp only [Am, hz2, hnm, hgo, hwa, go_sem, Bool.true_or]
   simp (disch := omega) only [ir120, Ac, hz2, hnm, hgo, hwa, eb, go_sem];refine Aa (A2 _ _) ?_;simp (disch := omega) only [Ac, hz2, hnm, hgo, hwa, eb, go_sem]
 have eb : Am e true false false true true true false = true := by simp only [Am, hz2, hnm, hgo, hwa, go_sem, Bool.true_or]
 simp (disch := omega) only [ir120, Ac, hz2, hnm, hgo, hwa, eb, go_sem];refine Aa (A2 _ _) ?_;simp (disch := omega) only [Ac, hz2, hnm, hgo, hwa, eb, go_sem]
set_option maxHeartbeats 4000000 in
theorem Alm (e : Evt) {h d} : FunOk Tryz.prog 120 [.vec 21 (Bc e), .pv (.b true), .pv (.b false), .pv (.b false), .pv (.b true), .pv (.b true), .pv (.b false), .pv (.b false)] h d (.pv (.b (Am e true false false true true false false))) [] := by
 refine Al Af fn120 (by simp) rfl rfl fun F => ?_;have hl := Ac e;by_cases hz2' : Cg e.drep e.dseq = false
 · have hz2 := hz2';have eb : Am e true false false true true false false = false := by simp only [Am, hz2, go_sem, Bool.true_or]
   simp (disch := omega) only [ir120, Ac, hz2, eb, go_sem];refine Aa (A2 _ _) ?_;simp (disch := omega) only [Ac, hz2, eb, go_sem]
 have hz2 : Cg e.drep e.dseq = true := by simpa using hz2'
 by_cases hnm : e.name = [];rotate_left
 · have eb : Am e true false false true true false false = false := by simp only [Am, hz2, hnm, go_sem, Bool.true_or]
   simp (disch := omega) only [ir120, Ac, hz2, hnm, eb, go_sem];refine Aa (A2 _ _) ?_;simp (disch := omega) only [Ac, hz2, hnm, eb, go_sem]
 by_cases hgo : (e.gone.l.length : Int) = 0;rotate_left
 · have eb : Am e true false false true true false false = false := by simp only [Am, hz2, hnm, hgo, go_sem, Bool.true_or]
   simp (disch := omega) only [ir120, Ac, hz2, hnm, hgo, eb, go_sem];refine Aa (A2 _ _) ?_;simp (disch := omega) only [Ac, hz2, hnm, hgo, eb, go_sem]
 by_cases hda : e.data = [];rotate_left
 · have eb : Am e true false false true true false false = false := by simp only [Am, hz2, hnm, hgo, hda, go_sem, Bool.true_or]
   simp (disch := omega) only [ir120, Ac, hz2, hnm, hgo, hda, eb, go_sem];refine Aa (A2 _ _) ?_;simp (disch := omega) only [Ac, hz2, hnm, hgo, hda, eb, go_sem]
 by_cases hwa : e.ward = 0;rotate_left
 · have eb : Am e true false false true true false false = false := by simp only [Am, hz2, hnm, hgo, hda, hwa, go_sem, Bool.true_or]
   simp (disch := omega) only [ir120, Ac, hz2, hnm, hgo, hda, hwa, eb, go_sem];refine Aa (A2 _ _) ?_;simp (disch := omega) only [Ac, hz2, hnm, hgo, hda, hwa, eb, go_sem]
 have eb : Am e true false false true true false false = true := by simp only [Am, hz2, hnm, hgo, hda, hwa, go_sem, Bool.true_or]
 simp (disch := omega) only [ir120, Ac, hz2, hnm, hgo, hda, hwa, eb, go_sem];refine Aa (A2 _ _) ?_;simp (disch := omega) only [Ac, hz2, hnm, hgo, hda, hwa, eb, go_sem]
set_option maxHeartbeats 4000000 in
theorem Aln (e : Evt) {h d} : FunOk Tryz.prog 120 [.vec 21 (Bc e), .pv (.b true), .pv (.b false), .pv (.b false), .pv (.b true), .pv (.b false), .pv (.b true), .pv (.b false)] h d (.pv (.b (Am e true false false true false true false))) [] := by
 refine Al Af fn120 (by simp) rfl rfl fun F => ?_;have hl := Ac e;by_cases hz2' : Cg e.drep e.dseq = false
 · have hz2 := hz2';have eb : Am e true false false true false true false = false := by simp only [Am, hz2, go_sem, Bool.true_or]
   simp (disch := omega) only [ir120, Ac, hz2, eb, go_sem];refine Aa (A2 _ _) ?_;simp (disch := omega) only [Ac, hz2, eb, go_sem]
 have hz2 : Cg e.drep e.dseq = true := by simpa using hz2'
 by_cases hnm : e.name = [];rotate_left
 · have eb : Am e true false false true false true false = false := by simp only [Am, hz2, hnm, go_sem, Bool.true_or]
   simp (disch := omega) only [ir120, Ac, hz2, hnm, eb, go_sem];refine Aa (A2 _ _) ?_;simp (disch := omega) only [Ac, hz2, hnm, eb, go_sem]
 by_cases hgo : (e.gone.l.length : Int) = 0;rotate_left
 · have eb : Am e true false false true false true false = false := by simp only [Am, hz2, hnm, hgo, go_sem, Bool.true_or]
   simp (disch := omega) only [ir120, Ac, hz2, hnm, hgo, eb, go_sem];refine Aa (A2 _ _) ?_;simp (disch := omega) only [Ac, hz2, hnm, hgo, eb, go_sem]
 by_cases hof : e.off = 0;rotate_left
 · have eb : Am e true false false true false true false = false := by simp only [Am, hz2, hnm, hgo, hof, go_sem, Bool.true_or]
   simp (disch := omega) only [ir120, Ac, hz2, hnm, hgo, hof, eb, go_sem];refine Aa (A2 _ _) ?_;simp (disch := omega) only [Ac, hz2, hnm, hgo, hof, eb, go_sem]
 by_cases hwa : e.ward = 0;rotate_left
 · have eb : Am e true false false true false true false = false := by simp only [Am, hz2, hnm, hgo, hof, hwa, go_sem, Bool.true_or]
   simp (disch := omega) only [ir120, Ac, hz2, hnm, hgo, hof, hwa, eb, go_sem];refine Aa (A2 _ _) ?_;simp (disch := omega) only [Ac, hz2, hnm, hgo, hof, hwa, eb, go_sem]
 have eb : Am e true false false true false true false = true := by simp only [Am, hz2, hnm, hgo, hof, hwa, go_sem, Bool.true_or]
 simp (disch := omega) only [ir120, Ac, hz2, hnm, hgo, hof, hwa, eb, go_sem];refine Aa (A2 _ _) ?_;simp (disch := omega) only [Ac, hz2, hnm, hgo, hof, hwa, eb, go_sem]
set_option maxHeartbeats 4000000 in
theorem Aqo (e : Evt) {h d} : FunOk Tryz.prog 120 [.vec 21 (Bc e), .pv (.b true), .pv (.b false), .pv (.b true), .pv (.b false), .pv (.b false), .pv (.b false), .pv (.b false)] h d (.pv (.b (Am e true false true false false false false))) [] := by
 refine Al Af fn120 (by simp) rfl rfl fun F => ?_;have hl := Ac e;by_cases hz2' : Cg e.drep e.dseq = false
 · have hz2 := hz2';have eb : Am e true false true false false false false = false := by simp only [Am, hz2, go_sem, Bool.true_or]
   simp (disch := omega) only [ir120, Ac, hz2, eb, go_sem];refine Aa (A2 _ _) ?_;simp (disch := omega) only [Ac, hz2, eb, go_sem]
 have hz2 : Cg e.drep e.dseq = true := by simpa using hz2'
 by_cases hnm : e.name = [];rotate_left
 · have eb : Am e true false true false false false false = false := by simp only [Am, hz2, hnm, go_sem, Bool.true_or]
   simp (disch := omega) only [ir120, Ac, hz2, hnm, eb, go_sem];refine Aa (A2 _ _) ?_;simp (disch := omega) only [Ac, hz2, hnm, eb, go_sem]
 by_cases hba : (e.base.l.length : Int) = 0;rotate_left
 · have eb : Am e true false true false false false false = false := by simp only [Am, hz2, hnm, hba, go_sem, Bool.true_or]
   simp (disch := omega) only [ir120, Ac, hz2, hnm, hba, eb, go_sem];refine Aa (A2 _ _) ?_;simp (disch := omega) only [Ac, hz2, hnm, hba, eb, go_sem]
 by_cases hof : e.off = 0;rotate_left
 · have eb : Am e true false true false false false false = false := by simp only [Am, hz2, hnm, hba, hof, go_sem, Bool.true_or]
   simp (disch := omega) only [ir120, Ac, hz2, hnm, hba, hof, eb, go_sem];refine Aa (A2 _ _) ?_;simp (disch := omega) only [Ac, hz2, hnm, hba, hof, eb, go_sem]
 by_cases hda : e.data = [];rotate_left
 · have eb : Am e true false true false false false false = false := by simp only [Am, hz2, hnm, hba, hof, hda, go_sem, Bool.true_or]
   simp (disch := omega) only [ir120, Ac, hz2, hnm, hba, hof, hda, eb, go_sem];refine Aa (A2 _ _) ?_;simp (disch := omega) only [Ac, hz2, hnm, hba, hof, hda, eb, go_sem]
 by_cases hwa : e.ward = 0;rotate_left
 · have eb : Am e true false true false false false false = false := by simp only [Am, hz2, hnm, hba, hof, hda, hwa, go_sem, Bool.true_or]
   simp (disch := omega) only [ir120, Ac, hz2, hnm, hba, hof, hda, hwa, eb, go_sem];refine Aa (A2 _ _) ?_;simp (disch := omega) only [Ac, hz2, hnm, hba, hof, hda, hwa, eb, go_sem]
 have eb : Am e true false true false false false false = true := by simp only [Am, hz2, hnm, hba, hof, hda, hwa, go_sem, Bool.true_or]
 simp (disch := omega) only [ir120, Ac, hz2, hnm, hba, hof, hda, hwa, eb, go_sem];refine Aa (A2 _ _) ?_;simp (disch := omega) only [Ac, hz2, hnm, hba, hof, hda, hwa, eb, go_sem]
set_option maxHeartbeats 4000000 in
theorem All (e : Evt) {h d} : FunOk Tryz.prog 120 [.vec 21 (Bc e), .pv (.b true), .pv (.b true), .pv (.b true), .pv (.b false), .pv (.b false), .pv (.b false), .pv (.b false)] h d (.pv (.b (Am e true true true false false false false))) [] := by
 refine Al Af fn120 (by simp) rfl rfl fun F => ?_;have hl := Ac e;by_cases hba : (e.base.l.length : Int) = 0;rotate_left
 · have eb : Am e true true true false false false false = false := by simp only [Am, hba, go_sem, Bool.true_or]
   simp (disch := omega) only [ir120, Ac, hba, eb, go_sem]
 by_cases hof : e.off = 0;rotate_left
 · have eb : Am e true true true false false false false = false := by simp only [Am, hba, hof, go_sem, Bool.true_or]
   simp (disch := omega) only [ir120, Ac, hba, hof, eb, go_sem]
 by_cases hda : e.data = [];rotate_left
 · have eb : Am e true true true false false false false = false := by simp only [Am, hba, hof, hda, go_sem, Bool.true_or]
   simp (disch := omega) only [ir120, Ac, hba, hof, hda, eb, go_sem]
 by_cases hwa : e.ward = 0;rotate_left
 · have eb : Am e true true true false false false false = false := by simp only [Am, hba, hof, hda, hwa, go_sem, Bool.true_or]
   simp (disch := omega) only [ir120, Ac, hba, hof, hda, hwa, eb, go_sem]
 have eb : Am e true true true false false false false = true := by simp only [Am, hba, hof, hda, hwa, go_sem, Bool.true_or]
 simp (disch := omega) only [ir120, Ac, hba, hof, hda, hwa, eb, go_sem]
set_option maxHeartbeats 4000000 in
theorem Aw2 (e : Evt) {h d} : FunOk Tryz.prog 120 [.vec 21 (Bc e), .pv (.b false), .pv (.b false), .pv (.b false), .pv (.b false), .pv (.b false), .pv (.b false), .pv (.b true)] h d (.pv (.b (Am e false false false false false false true))) [] := by
 refine Al Af fn120 (by simp) rfl rfl fun F => ?_;have hl := Ac e;by_cases hz1' : Cg e.orep e.oseq = false
 · have hz1 := hz1';have eb : Am e false false false false false false true = false := by simp only [Am, hz1, go_sem, Bool.true_or]
   simp (disch := omega) only [ir120, Ac, hz1, eb, go_sem];refine Aa (A2 _ _) ?_;simp (disch := omega) only [Ac, hz1, eb, go_sem]
 have hz1 : Cg e.orep e.oseq = true := by simpa using hz1'
 by_cases hz2' : Cg e.drep e.dseq = false
 · have hz2 := hz2';have eb : Am e false false false false false false true = false := by simp only [Am, hz1, hz2, go_sem, Bool.true_or]
   simp (disch := omega) only [ir120, Ac, hz1, hz2, eb, go_sem];refine Aa (A2 _ _) ?_;simp (disch := omega) only [Ac, hz1, hz2, eb, go_sem];refine Aa (A2 _ _) ?_;simp (disch := omega) only [Ac, hz1, hz2, eb, go_sem]
 have hz2 : Cg e.drep e.dseq = true := by simpa using hz2'
 by_cases hnm : e.name = [];rotate_left
 · have eb : Am e false false false false false false true = false := by simp only [Am, hz1, hz2, hnm, go_sem, Bool.true_or]
   simp (disch := omega) only [ir120, Ac, hz1, hz2, hnm, eb, go_sem];refine Aa (A2 _ _) ?_;simp (disch := omega) only [Ac, hz1, hz2, hnm, eb, go_sem];refine Aa (A2 _ _) ?_;simp (disch := omega) only [Ac, hz1, hz2, hnm, eb, go_sem]
 by_cases hgo : (e.gone.l.length : Int) = 0;rotate_left
 · have eb : Am e false false false false false false true = false := by simp only [Am, hz1, hz2, hnm, hgo, go_sem, Bool.true_or]
   simp (disch := omega) only [ir120, Ac, hz1, hz2, hnm, hgo, eb, go_sem];refine Aa (A2 _ _) ?_;simp (disch := omega) only [Ac, hz1, hz2, hnm, hgo, eb, go_sem];refine Aa (A2 _ _) ?_;simp (disch := omega) only [Ac, hz1, hz2, hnm, hgo, eb, go_sem]
 by_cases hba : (e.base.l.length : Int) = 0;rotate_left
 · have eb : Am e false false false false false false true = false := by simp only [Am, hz1, hz2, hnm, hgo, hba, go_sem, Bool.true_or]
   simp (disch := omega) only [ir120, Ac, hz1, hz2, hnm, hgo, hba, eb, go_sem];refine Aa (A2 _ _) ?_;simp (disch := omega) only [Ac, hz1, hz2, hnm, hgo, hba, eb, go_sem];refine Aa (A2 _ _) ?_;simp (disch := omega) only [Ac, hz1, hz2, hnm, hgo, hba, eb, go_sem]
 by_cases hof : e.off = 0;rotate_left
 · have eb : Am e false false false false false false true = false := by simp only [Am, hz1, hz2, hnm, hgo, hba, hof, go_sem, Bool.true_or]
   simp (disch := omega) only [ir120, Ac, hz1, hz2, hnm, hgo, hba, hof, eb, go_sem];refine Aa (A2 _ _) ?_;simp (disch := omega) only [Ac, hz1, hz2, hnm, hgo, hba, hof, eb, go_sem];refine Aa (A2 _ _) ?_;simp (disch := omega) only [Ac, hz1, hz2, hnm, hgo, hba, hof, eb, go_sem]
 by_cases hda : e.data = [];rotate_left
 · have eb : Am e false false false false false false true = false := by simp only [Am, hz1, hz2, hnm, hgo, hba, hof, hda, go_sem, Bool.true_or]
   simp (disch := omega) only [ir120, Ac, hz1, hz2, hnm, hgo, hba, hof, hda, eb, go_sem];refine Aa (A2 _ _) ?_;simp (disch := omega) only [Ac, hz1, hz2, hnm, hgo, hba, hof, hda, eb, go_sem];refine Aa (A2 _ _) ?_;simp (disch := omega) only [Ac, hz1, hz2, hnm, hgo, hba, hof, hda, eb, go_sem]
 have eb : Am e false false false false false false true = true := by simp only [Am, hz1, hz2, hnm, hgo, hba, hof, hda, go_sem, Bool.true_or]
 simp (disch := omega) only [ir120, Ac, hz1, hz2, hnm, hgo, hba, hof, hda, eb, go_sem];refine Aa (A2 _ _) ?_;simp (disch := omega) only [Ac, hz1, hz2, hnm, hgo, hba, hof, hda, eb, go_sem];refine Aa (A2 _ _) ?_;simp (disch := omega) only [Ac, hz1, hz2, hnm, hgo, hba, hof, hda, eb, go_sem]
set_option maxHeartbeats 4000000 in
theorem Aw3 (e : Evt) {h d} : FunOk Tryz.prog 120 [.vec 21 (Bc e), .pv (.b false), .pv (.b false), .pv (.b false), .pv (.b false), .pv (.b false), .pv (.b false), .pv (.b false)] h d (.pv (.b (Am e false false false false false false false))) [] := by
 refine Al Af fn120 (by simp) rfl rfl fun F => ?_;have hl := Ac e;by_cases hz1' : Cg e.orep e.oseq = false
 · have hz1 := hz1';have eb : Am e false false false false false false false = false := by simp only [Am, hz1, go_sem, Bool.true_or]
   simp (disch := omega) only [ir120, Ac, hz1, eb, go_sem];refine Aa (A2 _ _) ?_;simp (disch := omega) only [Ac, hz1, eb, go_sem]
 have hz1 : Cg e.orep e.oseq = true := by simpa using hz1'
 by_cases hz2' : Cg e.drep e.dseq = false
 · have hz2 := hz2';have eb : Am e false false false false false false false = false := by simp only [Am, hz1, hz2, go_sem, Bool.true_or]
   simp (disch := omega) only [ir120, Ac, hz1, hz2, eb, go_sem];refine Aa (A2 _ _) ?_;simp (disch := omega) only [Ac, hz1, hz2, eb, go_sem];refine Aa (A2 _ _) ?_;simp (disch := omega) only [Ac, hz1, hz2, eb, go_sem]
 have hz2 : Cg e.drep e.dseq = true := by simpa using hz2'
 by_cases hnm : e.name = [];rotate_left
 · have eb : Am e false false false false false false false = false := by simp only [Am, hz1, hz2, hnm, go_sem, Bool.true_or]
   simp (disch := omega) only [ir120, Ac, hz1, hz2, hnm, eb, go_sem];refine Aa (A2 _ _) ?_;simp (disch := omega) only [Ac, hz1, hz2, hnm, eb, go_sem];refine Aa (A2 _ _) ?_;simp (disch := omega) only [Ac, hz1, hz2, hnm, eb, go_sem]
 by_cases hgo : (e.gone.l.length : Int) = 0;rotate_left
 · have eb : Am e false false false false false false false = false := by simp only [Am, hz1, hz2, hnm, hgo, go_sem, Bool.true_or]
   simp (disch := omega) only [ir120, Ac, hz1, hz2, hnm, hgo, eb, go_sem];refine Aa (A2 _ _) ?_;simp (disch := omega) only [Ac, hz1, hz2, hnm, hgo, eb, go_sem];refine Aa (A2 _ _) ?_;simp (disch := omega) only [Ac, hz1, hz2, hnm, hgo, eb, go_sem]
 by_cases hba : (e.base.l.length : Int) = 0;rotate_left
 · have eb : Am e false false false false false false false = false := by simp only [Am, hz1, hz2, hnm, hgo, hba, go_sem, Bool.true_or]
   simp (disch := omega) only [ir120, Ac, hz1, hz2, hnm, hgo, hba, eb, go_sem];refine Aa (A2 _ _) ?_;simp (disch := omega) only [Ac, hz1, hz2, hnm, hgo, hba, eb, go_sem];refine Aa (A2 _ _) ?_;simp (disch := omega) only [Ac, hz1, hz2, hnm, hgo, hba, eb, go_sem]
 by_cases hof : e.off = 0;rotate_left
 · have eb : Am e false false false false false false false = false := by simp only [Am, hz1, hz2, hnm, hgo, hba, hof, go_sem, Bool.true_or]
   simp (disch := omega) only [ir120, Ac, hz1, hz2, hnm, hgo, hba, hof, eb, go_sem];refine Aa (A2 _ _) ?_;simp (disch := omega) only [Ac, hz1, hz2, hnm, hgo, hba, hof, eb, go_sem];refine Aa (A2 _ _) ?_;simp (disch := omega) only [Ac, hz1, hz2, hnm, hgo, hba, hof, eb, go_sem]
 by_cases hda : e.data = [];rotate_left
 · have eb : Am e false false false false false false false = false := by simp only [Am, hz1, hz2, hnm, hgo, hba, hof, hda, go_sem, Bool.true_or]
   simp (disch := omega) only [ir120, Ac, hz1, hz2, hnm, hgo, hba, hof, hda, eb, go_sem];refine Aa (A2 _ _) ?_;simp (disch := omega) only [Ac, hz1, hz2, hnm, hgo, hba, hof, hda, eb, go_sem];refine Aa (A2 _ _) ?_;simp (disch := omega) only [Ac, hz1, hz2, hnm, hgo, hba, hof, hda, eb, go_sem]
 by_cases hwa : e.ward = 0;rotate_left
 · have eb : Am e false false false false false false false = false := by simp only [Am, hz1, hz2, hnm, hgo, hba, hof, hda, hwa, go_sem, Bool.true_or]
   simp (disch := omega) only [ir120, Ac, hz1, hz2, hnm, hgo, hba, hof, hda, hwa, eb, go_sem];refine Aa (A2 _ _) ?_;simp (disch := omega) only [Ac, hz1, hz2, hnm, hgo, hba, hof, hda, hwa, eb, go_sem];refine Aa (A2 _ _) ?_;simp (disch := omega) only [Ac, hz1, hz2, hnm, hgo, hba, hof, hda, hwa, eb, go_sem]
 have eb : Am e false false false false false false false = true := by simp only [Am, hz1, hz2, hnm, hgo, hba, hof, hda, hwa, go_sem, Bool.true_or]
 simp (disch := omega) only [ir120, Ac, hz1, hz2, hnm, hgo, hba, hof, hda, hwa, eb, go_sem];refine Aa (A2 _ _) ?_;simp (disch := omega) only [Ac, hz1, hz2, hnm, hgo, hba, hof, hda, hwa, eb, go_sem];refine Aa (A2 _ _) ?_;simp (disch := omega) only [Ac, hz1, hz2, hnm, hgo, hba, hof, hda, hwa, eb, go_sem]
inductive RdR where
 | skip
 | err (e : Int)
 | val (x : Int) (rest : List UInt8)
theorem Acr (n : Nat) : IntKind.u8.wrap (n : Int) = ((UInt8.ofNat n).toNat : Int) := by
 rw [UInt8.toNat_ofNat'];simp [IntKind.wrap, IntKind.signed, IntKind.bits]
theorem Az9 (l p l' p') : Aoe (.it l p) (.it l' p') = (l = l' ∧ p = p') := (rfl)
attribute [go_sem] Az9
def Ms (b : UInt8) : Bool := decide ((97 ≤ b.toNat ∧ b.toNat ≤ 122) ∨ (65 ≤ b.toNat ∧ b.toNat ≤ 90) ∨ (48 ≤ b.toNat ∧ b.toNat ≤ 57) ∨ b.toNat = 46 ∨ b.toNat = 95 ∨ b.toNat = 45)
def Dg (s : List UInt8) : Bool := decide (1 ≤ s.length ∧ s.length ≤ 12 ∧ s ≠ [46] ∧ s ≠ [46, 46]) && s.all Ms
theorem Anl {s : List UInt8} {pos : Nat} (h : pos < s.length) (ha : (s.getD pos 0).toNat < 128) : Rr s pos = ((s.getD pos 0).toNat, 1) := by
 have hs : pos < (⟨s.toArray⟩ : ByteArray).size := by simpa [ByteArray.size] using h
 have e : (⟨s.toArray⟩ : ByteArray)[pos]'hs = s.getD pos 0 := by
  rw [List.getD_eq_getElem?_getD, List.getElem?_eq_getElem h]; rfl
 have := decode_ascii ⟨s.toArray⟩ pos hs (by rw [e]; exact ha);unfold Rr;rw [this, e]
theorem Ay8 {s : List UInt8} {pos : Nat} (h : pos < s.length) (ha : ¬ (s.getD pos 0).toNat < 128) : 128 ≤ (Rr s pos).1 ∧ (Rr s pos).1 < 2147483648 := by
 have hs : pos < (⟨s.toArray⟩ : ByteArray).size := by simpa [ByteArray.size] using h
 have e : (⟨s.toArray⟩ : ByteArray).get! (pos + 0) = s.getD pos 0 := by
  show (⟨s.toArray⟩ : ByteArray).get! pos = _;have : (⟨s.toArray⟩ : ByteArray)[pos]'hs = s.getD pos 0 := by
   rw [List.getD_eq_getElem?_getD, List.getElem?_eq_getElem h]; rfl
  rw [← this];show (s.toArray)[pos]! = (s.toArray)[pos];rw [getElem!_pos]
 unfold Rr Utf8.decode;simp only [e, ha, if_false];unfold Utf8.runeError;split
 · split
   · simp only; omega
   · simp
 · split
   · split
     · rename_i hc; simp only [Bool.and_eq_true, decide_eq_true_eq] at hc ⊢; omega
     · simp
   · split
     · split
       · rename_i hc; simp only [Bool.and_eq_true, decide_eq_true_eq] at hc ⊢; omega
       · simp
     · simp
theorem Atp (n : Nat) (h : 128 ≤ n) : (Xx n).length ≤ 4 ∧ 2 ≤ (Xx n).length ∧ 128 ≤ ((Xx n).getD ((Xx n).length - 1) 0).toNat := by
 have key : ∀ c : Nat, 128 ≤ c → ∀ l : List UInt8, l = (if c < 0x80 then [UInt8.ofNat c] else if c < 0x800 then [UInt8.ofNat (0xC0 + c / 64), UInt8.ofNat (0x80 + c % 64)] else if c < 0x10000 then [UInt8.ofNat (0xE0 + c / 4096), UInt8.ofNat (0x80 + c / 64 % 64), UInt8.ofNat (0x80 + c % 64)] else [UInt8.ofNat (0xF0 + c / 262144), UInt8.ofNat (0x80 + c / 4096 % 64), UInt8.ofNat (0x80 + c / 64 % 64), UInt8.ofNat (0x80 + c % 64)]) → l.length ≤ 4 ∧ 2 ≤ l.length ∧ 128 ≤ (l.getD (l.length - 1) 0).toNat := by
  intro c hc l hl;have hb : 128 ≤ (UInt8.ofNat (0x80 + c % 64)).toNat := by rw [UInt8.toNat_ofNat']; omega
  rw [if_neg (by omega)] at hl;split at hl
  · subst hl; exact ⟨by simp, by simp, hb⟩
  · split at hl
    · subst hl; exact ⟨by simp, by simp, hb⟩
    · subst hl; exact ⟨by simp, by simp, hb⟩
 refine key (if Utf8.valid (n : Int) then n else 0xFFFD) (by split <;> omega) _ ?_;unfold Xx Utf8.encode Utf8.runeError;simp only [Int.toNat_natCast];generalize (if Utf8.valid (n : Int) = true then n else 0xFFFD) = c;split
 · rfl
 · split
   · rfl
   · split <;> rfl
theorem A6w (s : List UInt8) (c : UInt8) {h} : Aag Tryz.prog 185 [.pv (.s s), .pv (.i .u8 c.toNat)] h (.pv (.i .i64 (Lib.indexByte s c))) := by
 intro F N ρ st a w hR hh vs hc;simp only [ConcL] at hc;obtain ⟨v, us, rfl, hv, u, us', rfl, hu, rfl⟩ := hc;have hv := Np hv;have hu := Fi hu;subst hv; subst hu;refine ⟨_, ?_, Dn⟩;rw [run_callFunc_extern (fn := (Tryz.prog.funcs[185]?).getD default) (by kernel_rfl) (by kernel_rfl) (by kernel_rfl) (by kernel_rfl) (e := Extern.BytealgIndexByte.indexByte) (by kernel_rfl)];rw [Lib.run_indexByteString];simp
theorem A6x (s : List UInt8) (c : UInt8) {h d} : FunOk Tryz.prog 182 [.pv (.s s), .pv (.i .u8 c.toNat)] h d (.pv (.i .i64 (Lib.indexByte s c))) [] := by
 refine Al Af fn182 (by simp) rfl rfl fun F => ?_;simp (disch := omega) only [ir182, go_sem];refine Rx (A6w s c) ?_;simp (disch := omega) only [go_sem]
theorem A2u (s : List UInt8) (c : UInt8) {h d} : FunOk Tryz.prog 175 [.pv (.s s), .pv (.i .u8 c.toNat)] h d (.pv (.i .i64 (Lib.indexByte s c))) [] := by
 refine Al Af fn175 (by simp) rfl rfl fun F => ?_;simp (disch := omega) only [ir175, go_sem];refine Aa (A6x s c) ?_;simp (disch := omega) only [go_sem]
def Sd (n : Nat) : Bool := decide (n < 55296 ∨ 57343 < n ∧ n ≤ 1114111)
theorem Aw1 (n : Nat) {h d} : FunOk Tryz.prog 176 [.pv (.i .i32 n)] h d (.pv (.b (Sd n))) [] := by
 refine Al Af fn176 (by simp) rfl rfl fun F => ?_;have h0 : (0 : Int) ≤ n := by omega
 by_cases h1 : (n : Int) < 55296
 · have e : Sd n = true := decide_eq_true (by omega);simp (disch := omega) only [ir176, h0, h1, e, go_sem]
 by_cases h2 : (57343 : Int) < n
 · by_cases h3 : (n : Int) ≤ 1114111
   · have e : Sd n = true := decide_eq_true (by omega);simp (disch := omega) only [ir176, h0, h1, h2, h3, e, go_sem]
   · have e : Sd n = false := decide_eq_false (by omega);simp (disch := omega) only [ir176, h0, h1, h2, h3, e, go_sem]
 · have e : Sd n = false := decide_eq_false (by omega);simp (disch := omega) only [ir176, h0, h1, h2, e, go_sem]
def ixD (n : Nat) : Int := if n < 128 then Lib.indexByte [46, 95, 45] (UInt8.ofNat n) else -1
def Af4 (k : Nat) : FS := mk [(175, .p 175 0), (0, .pv (.s [46, 95, 45]))] [(175, some (.it [46, 95, 45] k))]
def Yz (rs : List UInt8) (i : Int) (_ : Unit) : FS := mk [(9, .pv (.i .i64 i)), (8, .pv (.i .i64 i)), (7, .pv (.s rs)), (10, .pv (.i .i64 0)), (0, .pv (.s [46, 95, 45]))] []
theorem Anc (n : Nat) (h : 128 ≤ n) : (∃ a b, Xx n = [a, b] ∧ 128 ≤ b.toNat) ∨ (∃ a b c, Xx n = [a, b, c] ∧ 128 ≤ c.toNat) ∨ (∃ a b c d, Xx n = [a, b, c, d] ∧ 128 ≤ d.toNat) := by
 obtain ⟨h1, h2, h3⟩ := Atp n h;generalize Xx n = l at *
 match l, h1, h2, h3 with
 | [a, b], _, _, h3 => exact .inl ⟨a, b, rfl, h3⟩
 | [a, b, c], _, _, h3 => exact .inr (.inl ⟨a, b, c, rfl, h3⟩)
 | [a, b, c, d], _, _, h3 => exact .inr (.inr ⟨a, b, c, d, rfl, h3⟩)
 | [], _, h2, _ => simp at h2
 | [a], _, h2, _ => simp at h2
 | a :: b :: c :: d :: e :: r, h1, _, _ => simp at h1
theorem Ajy {s : List UInt8} {b : UInt8} (h : s = [95, 45] ∨ s = [45] ∨ s = []) (hb : 128 ≤ b.toNat) : Lib.indexByte s b = -1 := by
 have ne : ∀ c : UInt8, c.toNat < 128 → (c == b) = false := fun c hc => by
  rw [beq_eq_false_iff_ne]; intro e; subst e; omega
 rcases h with rfl | rfl | rfl <;> simp [Lib.indexByte, ne 95 (by decide), ne 45 (by decide)]
set_option maxHeartbeats 4000000 in
theorem Adw (n : Nat) (hn : n < 2147483648) {h d} : FunOk Tryz.prog 164 [.pv (.s [46, 95, 45]), .pv (.i .i32 n)] h d (.pv (.i .i64 (ixD n))) [] := by
 refine Al Af fn164 (by simp) rfl rfl fun F => ?_;have h0 : (0 : Int) ≤ n := by omega
 by_cases h1 : (n : Int) < 128
 · have e : ixD n = Lib.indexByte [46, 95, 45] (UInt8.ofNat n) := by unfold ixD; rw [if_pos (by omega)]
   have ew : IntKind.u8.wrap (n : Int) = ((UInt8.ofNat n).toNat : Int) := Acr _;simp (disch := omega) only [ir164, h0, h1, ew, go_sem];refine Aa (A2u _ _) ?_;simp (disch := omega) only [e, go_sem]
 have e : ixD n = -1 := by unfold ixD; rw [if_neg (by omega)]
 by_cases h2 : (n : Int) = 65533
 · simp (disch := omega) only [ir164, h0, h1, h2, go_sem];have hl3 : (([46, 95, 45] : List UInt8).length) = 3 := rfl;have d0 : Rr [46, 95, 45] 0 = (46, 1) := by decide
   have d1 : Rr [46, 95, 45] 1 = (95, 1) := by decide
   have d2 : Rr [46, 95, 45] 2 = (45, 1) := by decide
   refine A0 Af Af4 (fun k => k ≤ 3) (fun k => 3 - k) 0 (by omega) (Ah ?_ ?_) fun k hk => ?_
   · simp (disch := omega) only [go_sem]
   · simp (disch := omega) only [go_sem]
   by_cases hlt : k < 3
   · have : k = 0 ∨ k = 1 ∨ k = 2 := by omega
     rcases this with rfl | rfl | rfl
     all_goals simp (disch := omega) only [Af4, hl3, d0, d1, d2, go_sem]
     · refine Ad (x := (0 : Nat)) (1 : Nat) _ _ rfl (by omega) (by omega) ?_ ?_
       · simp (disch := omega) only [go_sem]
       · simp (disch := omega) only [go_sem]
     · refine Ad (x := (1 : Nat)) (2 : Nat) _ _ rfl (by omega) (by omega) ?_ ?_
       · simp (disch := omega) only [go_sem]
       · simp (disch := omega) only [go_sem]
     · refine Ad (x := (2 : Nat)) (3 : Nat) _ _ rfl (by omega) (by omega) ?_ ?_
       · simp (disch := omega) only [go_sem]
       · simp (disch := omega) only [go_sem]
   · obtain rfl : k = 3 := by omega
     simp (disch := omega) only [Af4, hl3, e, go_sem]
 · simp (disch := omega) only [ir164, h0, h1, h2, go_sem];refine Aa (Aw1 n) ?_;cases hv : Sd n with
   | false => simp (disch := omega) only [hv, e, go_sem]
   | true =>
     have hl3 : (([46, 95, 45] : List UInt8).length : Int) = 3 := rfl;rcases Anc n (by omega) with ⟨a, b, he, hb⟩ | ⟨a, b, c, he, hb⟩ | ⟨a, b, c, d, he, hb⟩
     ·
      have hlen : (([a, b] : List UInt8).length : Int) = 2 := rfl;have hg : ((([46, 95, 45] : List UInt8).getD (Int.toNat 1) 0).toNat : Int) = 95 := rfl;have hg' : ([a, b] : List UInt8).getD (Int.toNat 1) 0 = b := rfl;have hne : ¬ (95 : Int) = (b.toNat : Int) := by omega
      have hdr : List.drop ((1 : Int) + 1).toNat (List.take 3 ([46, 95, 45] : List UInt8)) = [45] := rfl;have hib : Lib.indexByte [45] b = -1 := Ajy (by simp) hb;simp (disch := omega) only [hv, he, hlen, go_sem];refine A0 Af (Yz [a, b] 1) (fun _ => True) (fun _ => 0) () trivial (Ah ?_ ?_) fun _ _ => ?_
      · simp (disch := omega) only [go_sem]
      · simp (disch := omega) only [go_sem]
      simp (disch := omega) only [Yz, hl3, hlen, hg, hg', hne, hdr, go_sem];refine Aa (A2u [45] b) ?_;simp (disch := omega) only [hib, e, go_sem]
     ·
      have hlen : (([a, b, c] : List UInt8).length : Int) = 3 := rfl;have hg : ((([46, 95, 45] : List UInt8).getD (Int.toNat 2) 0).toNat : Int) = 45 := rfl;have hg' : ([a, b, c] : List UInt8).getD (Int.toNat 2) 0 = c := rfl;have hne : ¬ (45 : Int) = (c.toNat : Int) := by omega
      have hdr : List.drop ((2 : Int) + 1).toNat (List.take 3 ([46, 95, 45] : List UInt8)) = [] := rfl;have hib : Lib.indexByte [] c = -1 := Ajy (by simp) hb;simp (disch := omega) only [hv, he, hlen, go_sem];refine A0 Af (Yz [a, b, c] 2) (fun _ => True) (fun _ => 0) () trivial (Ah ?_ ?_) fun _ _ => ?_
      · simp (disch := omega) only [go_sem]
      · simp (disch := omega) only [go_sem]
      simp (disch := omega) only [Yz, hl3, hlen, hg, hg', hne, hdr, go_sem];refine Aa (A2u [] c) ?_;simp (disch := omega) only [hib, e, go_sem]
     · have hlen : (([a, b, c, d] : List UInt8).length : Int) = 4 := rfl;simp (disch := omega) only [hv, he, hlen, go_sem];refine A0 Af (Yz [a, b, c, d] 3) (fun _ => True) (fun _ => 0) () trivial (Ah ?_ ?_) fun _ _ => ?_
       · simp (disch := omega) only [go_sem]
       · simp (disch := omega) only [go_sem]
       simp (disch := omega) only [Yz, hl3, hlen, e, go_sem]
def Ani (n : Nat) : Bool := decide (n = 46 ∨ n = 95 ∨ n = 45)
theorem Ax3 (n : Nat) : decide (0 ≤ ixD n) = Ani n := by
 by_cases h : n < 128
 · have : ∀ m, m < 128 → decide (0 ≤ ixD m) = Ani m := by decide
   exact this n h
 · have e : ixD n = -1 := by unfold ixD; rw [if_neg h]
   rw [e];have : ¬ (n = 46 ∨ n = 95 ∨ n = 45) := by omega
   simp [Ani]; omega
theorem Jy (n : Nat) (hn : n < 2147483648) {h d} : FunOk Tryz.prog 143 [.pv (.s [46, 95, 45]), .pv (.i .i32 n)] h d (.pv (.b (Ani n))) [] := by
 refine Al Af fn143 (by simp) rfl rfl fun F => ?_;have e := Ax3 n;simp (disch := omega) only [ir143, go_sem];refine Aa (Adw n hn) ?_;simp (disch := omega) only [e, go_sem]
def Aeh (n : Nat) : Bool := decide ((97 ≤ n ∧ n ≤ 122) ∨ (65 ≤ n ∧ n ≤ 90))
theorem Adu (n : Nat) {h d} : FunOk Tryz.prog 142 [.pv (.i .i32 n)] h d (.pv (.b (Aeh n))) [] := by
 refine Al Af fn142 (by simp) rfl rfl fun F => ?_;have : n < 65 ∨ (65 ≤ n ∧ n ≤ 90) ∨ (91 ≤ n ∧ n ≤ 96) ∨ (97 ≤ n ∧ n ≤ 122) ∨ 123 ≤ n := by omega
 rcases this with h1 | h1 | h1 | h1 | h1
 · have e : Aeh n = false := decide_eq_false (by omega);simp (disch := omega) only [ir142, e, go_sem]
 · have e : Aeh n = true := decide_eq_true (by omega);simp (disch := omega) only [ir142, e, go_sem]
 · have e : Aeh n = false := decide_eq_false (by omega);simp (disch := omega) only [ir142, e, go_sem]
 · have e : Aeh n = true := decide_eq_true (by omega);simp (disch := omega) only [ir142, e, go_sem]
 · have e : Aeh n = false := decide_eq_false (by omega);simp (disch := omega) only [ir142, e, go_sem]
theorem Xc {s : List UInt8} {k : Nat} (hk : k < s.length) (h : Ms (s.getD k 0) = false) : Dg s = false := by
 have hm : s.getD k 0 ∈ s := by rw [List.getD_eq_getElem?_getD, List.getElem?_eq_getElem hk]; exact List.getElem_mem hk
 unfold Dg;rw [show s.all Ms = false from by rw [List.all_eq_false]; exact ⟨_, hm, by rw [h]; decide⟩, Bool.and_false]
theorem Zj {s : List UInt8} (h1 : 1 ≤ s.length) (h2 : s.length ≤ 12) (h3 : s ≠ [46]) (h4 : s ≠ [46, 46]) (h : ∀ k, k < s.length → Ms (s.getD k 0) = true) : Dg s = true := by
 unfold Dg;rw [decide_eq_true ⟨h1, h2, h3, h4⟩, Bool.true_and, List.all_eq_true];intro b hb;obtain ⟨k, hk, rfl⟩ := List.getElem_of_mem hb;have := h k hk
 rwa [List.getD_eq_getElem?_getD, List.getElem?_eq_getElem hk] at this
theorem Nk {s : List UInt8} (h : ¬ (1 ≤ s.length ∧ s.length ≤ 12 ∧ s ≠ [46] ∧ s ≠ [46, 46])) : Dg s = false := by
 unfold Dg; rw [decide_eq_false h, Bool.false_and]
def Aau (s : List UInt8) (k : Nat) : FS := mk [(22, .p 22 0), (0, .pv (.s s))] [(22, some (.it s k))]
set_option maxHeartbeats 4000000 in
theorem Agk (s : List UInt8) {h d} : FunOk Tryz.prog 115 [.pv (.s s)] h d (.pv (.b (Dg s))) [] := by
 refine Al Af fn115 (by simp) rfl rfl fun F => ?_;by_cases h1 : s = []
 · subst h1;have e : Dg [] = false := Nk (by simp);have hl0 : (([] : List UInt8).length : Int) = 0 := rfl;simp (disch := omega) only [ir115, hl0, e, go_sem]
 have h1' : 1 ≤ s.length := List.length_pos_iff.2 h1;by_cases h2 : 12 < (s.length : Int)
 · have e : Dg s = false := Nk (by omega);simp (disch := omega) only [ir115, h1, h2, e, go_sem]
 by_cases h3 : s = [46]
 · subst h3;have e : Dg [46] = false := Nk (fun h => h.2.2.1 rfl);have hl0 : (([46] : List UInt8).length : Int) = 1 := rfl;simp (disch := omega) only [ir115, h1, hl0, e, go_sem]
 by_cases h4 : s = [46, 46]
 · subst h4;have e : Dg [46, 46] = false := Nk (fun h => h.2.2.2 rfl);have hl0 : (([46, 46] : List UInt8).length : Int) = 2 := rfl;simp (disch := omega) only [ir115, h1, h3, hl0, e, go_sem]
 simp (disch := omega) only [ir115, h1, h2, h3, h4, go_sem];refine A0 Af (Aau s) (fun k => k ≤ s.length ∧ ∀ j, j < k → Ms (s.getD j 0) = true) (fun k => s.length - k) 0 (by simp) (Ah ?_ ?_) fun k hk => ?_
 · simp (disch := omega) only [go_sem]
 · simp (disch := omega) only [go_sem]
 obtain ⟨hk1, hk2⟩ := hk;by_cases hlt : k < s.length
 · by_cases ha : (s.getD k 0).toNat < 128
   · have hd := Anl hlt ha;have hgo : Ms (s.getD k 0) = true → (k + 1 ≤ s.length ∧ ∀ j, j < k + 1 → Ms (s.getD j 0) = true) := fun h => ⟨hlt, fun j hj => by
      by_cases e : j = k
      · subst e; exact h
      · exact hk2 j (by omega)⟩
     have hbad := fun h => Xc (s := s) hlt h;generalize hb : s.getD k 0 = b at *;simp (disch := omega) only [Aau, hd, go_sem];refine Aa (Adu _) ?_;cases hL : Aeh b.toNat with
     | true =>
       have hL' : (97 ≤ b.toNat ∧ b.toNat ≤ 122) ∨ (65 ≤ b.toNat ∧ b.toNat ≤ 90) := of_decide_eq_true hL;simp (disch := omega) only [hL, go_sem];refine Ad (k + 1) _ _ rfl (hgo (decide_eq_true (by omega))) (by omega) ?_ ?_
       · simp (disch := omega) only [go_sem]
       · simp (disch := omega) only [go_sem]
     | false =>
       have hL' : ¬ ((97 ≤ b.toNat ∧ b.toNat ≤ 122) ∨ (65 ≤ b.toNat ∧ b.toNat ≤ 90)) := of_decide_eq_false hL;by_cases hdg : 48 ≤ b.toNat ∧ b.toNat ≤ 57
       · simp (disch := omega) only [hL, go_sem];refine Ad (k + 1) _ _ rfl (hgo (decide_eq_true (by omega))) (by omega) ?_ ?_
         · simp (disch := omega) only [go_sem]
         · simp (disch := omega) only [go_sem]
       · have ht : b.toNat < 48 ∨ (48 ≤ b.toNat ∧ 57 < b.toNat) := by omega
         cases hdt : Ani b.toNat with
         | true =>
           have hdt' : b.toNat = 46 ∨ b.toNat = 95 ∨ b.toNat = 45 := of_decide_eq_true hdt;have hg := hgo (decide_eq_true (by omega));rcases ht with ht | ht
           all_goals simp (disch := omega) only [hL, go_sem]
           all_goals refine Aa (Jy b.toNat (by omega)) ?_
           all_goals simp (disch := omega) only [hdt, go_sem]
           all_goals refine Ad (k + 1) _ _ rfl hg (by omega) ?_ ?_
           all_goals simp (disch := omega) only [go_sem]
         | false =>
           have hdt' : ¬ (b.toNat = 46 ∨ b.toNat = 95 ∨ b.toNat = 45) := of_decide_eq_false hdt;have hg := hbad (decide_eq_false (by omega));rcases ht with ht | ht
           all_goals simp (disch := omega) only [hL, go_sem]
           all_goals refine Aa (Jy b.toNat (by omega)) ?_
           all_goals simp (disch := omega) only [hdt, hg, go_sem]
   · obtain ⟨hd1, hd2⟩ := Ay8 hlt ha;have hg := Xc (s := s) hlt (decide_eq_false (by omega));generalize hc : (Rr s k).1 = c at *;have hL : Aeh c = false := decide_eq_false (by omega);have hdt : Ani c = false := decide_eq_false (by omega);simp (disch := omega) only [Aau, hc, go_sem];refine Aa (Adu _) ?_;simp (disch := omega) only [hL, go_sem];refine Aa (Jy c hd2) ?_;simp (disch := omega) only [hdt, hg, go_sem]
 · obtain rfl : k = s.length := by omega
   have e := Zj h1' (by omega) h3 h4 hk2;simp (disch := omega) only [Aau, e, go_sem]
def U3 (s : List UInt8) (k : Nat) : FS := mk [(3, .pv (.i .i64 k)), (0, .pv (.s s))] []
set_option maxHeartbeats 4000000 in
theorem Abi (s : List UInt8) {h d} : FunOk Tryz.prog 119 [.pv (.s s)] h d (.pv (.b (Dg s))) [] := by
 refine Al Af fn119 (by simp) rfl rfl fun F => ?_;by_cases h1 : s = []
 · subst h1;have e : Dg [] = false := Nk (by simp);have hl0 : (([] : List UInt8).length : Int) = 0 := rfl;simp (disch := omega) only [ir119, hl0, e, go_sem]
 have h1' : 1 ≤ s.length := List.length_pos_iff.2 h1;by_cases h2 : 12 < (s.length : Int)
 · have e : Dg s = false := Nk (by omega);simp (disch := omega) only [ir119, h1, h2, e, go_sem]
 by_cases h3 : s = [46]
 · subst h3;have e : Dg [46] = false := Nk (fun h => h.2.2.1 rfl);have hl0 : (([46] : List UInt8).length : Int) = 1 := rfl;simp (disch := omega) only [ir119, h1, hl0, e, go_sem]
 by_cases h4 : s = [46, 46]
 · subst h4;have e : Dg [46, 46] = false := Nk (fun h => h.2.2.2 rfl);have hl0 : (([46, 46] : List UInt8).length : Int) = 2 := rfl;simp (disch := omega) only [ir119, h1, h3, hl0, e, go_sem]
 simp (disch := omega) only [ir119, h1, h2, h3, h4, go_sem];refine A0 Af (U3 s) (fun k => k ≤ s.length ∧ ∀ j, j < k → Ms (s.getD j 0) = true) (fun k => s.length - k) 0 (by simp) (Ah ?_ ?_) fun k hk => ?_
 · simp (disch := omega) only [go_sem]
 · simp (disch := omega) only [go_sem]
 obtain ⟨hk1, hk2⟩ := hk;by_cases hlt : k < s.length
 · have hgo : Ms (s.getD k 0) = true → (k + 1 ≤ s.length ∧ ∀ j, j < k + 1 → Ms (s.getD j 0) = true) := fun h => ⟨hlt, fun j hj => by
    by_cases e : j = k
    · subst e; exact h
    · exact hk2 j (by omega)⟩
   have hbad := fun h => Xc (s := s) hlt h;generalize hb : s.getD k 0 = b at *;by_cases hok : Ms b = true
   · have hok' := of_decide_eq_true hok;have hg := hgo hok;have : (97 ≤ b.toNat ∧ b.toNat ≤ 122) ∨ (65 ≤ b.toNat ∧ b.toNat ≤ 90) ∨ (48 ≤ b.toNat ∧ b.toNat ≤ 57) ∨ b.toNat = 46 ∨ b.toNat = 95 ∨ b.toNat = 45 := by omega
     rcases this with hc | hc | hc | hc | hc | hc
     all_goals simp (disch := omega) only [U3, hb, hc, go_sem]
     all_goals refine Ad (k + 1) _ _ rfl hg (by omega) ?_ ?_
     all_goals simp (disch := omega) only [go_sem]
   · have hok0 : Ms b = false := by simpa using hok
     have hok' := of_decide_eq_false hok0;have hg := hbad hok0;have : b.toNat < 45 ∨ b.toNat = 47 ∨ (58 ≤ b.toNat ∧ b.toNat ≤ 64) ∨ (91 ≤ b.toNat ∧ b.toNat ≤ 94) ∨ b.toNat = 96 ∨ 123 ≤ b.toNat := by omega
     rcases this with hc | hc | hc | hc | hc | hc
     all_goals simp (disch := omega) only [U3, hb, hc, hg, go_sem]
 · obtain rfl : k = s.length := by omega
   have e := Zj h1' (by omega) h3 h4 hk2;simp (disch := omega) only [U3, e, go_sem]
end Go.Proofs.YthmjebkldgdeiaaGreat.Fw
namespace Go.Proofs.YthmjebkldgdeiaaGreat.Fw
open Go.RowKit Go.Proofs
def Ix (e : Evt) : Prop := 1 ≤ e.rep ∧ e.rep ≤ 8 ∧ 1 ≤ e.seq ∧ e.seq ≤ 1048576 ∧ e.dep (e.rep - 1).toNat + 1 = e.seq ∧ 1 ≤ e.kind ∧ e.kind ≤ 9
def O8 (e : Evt) : Prop := ∀ i, i < 8 → e.dep i ≤ 1048576
def Cs (b : Evt) : Bool := Cg b.orep b.oseq && (Cg b.drep b.dseq && (decide (b.name = []) && (decide ((b.gone.l.length : Int) = 0) && (decide ((b.base.l.length : Int) = 0) && (decide (b.off = 0) && (decide (b.data = []) && decide (b.ward = 0)))))))
noncomputable def Gh (e : Evt) : Bool :=
 if e.kind = 1 ∨ e.kind = 2 then (C4 e && (Dg e.name))
 else if e.kind = 3 then (Bg e.dep e.orep e.oseq && (Ef e.base.l 1 e.dep && (Cv (e.off) && (decide ((1 : Int) ≤ (e.data.length : Int)) && (Cv ((e.data.length : Int)) && (Cv (e.off + (e.data.length : Int))))))))
 else if e.kind = 4 then (Bg e.dep e.orep e.oseq && (Ef e.base.l 1 e.dep && (Cv (e.off))))
 else if e.kind = 5 then (Bg e.dep e.orep e.oseq && (Ef e.base.l 8 e.dep && (decide ((2 : Int) ≤ (e.base.l.length : Int)) && (Cv ((e.data.length : Int))))))
 else if e.kind = 6 then (Bg e.dep e.orep e.oseq && (Ef e.gone.l 8 e.dep))
 else if e.kind = 7 then (Bg e.dep e.orep e.oseq && (Ef e.gone.l 8 e.dep && (C4 e && (Dg e.name))))
 else if e.kind = 8 then (decide (1 ≤ e.ward) && (decide (e.ward ≤ 4)))
 else true
open Classical in
noncomputable def Bd (e : Evt) : Bool := decide (Ix e) && (decide (O8 e) && (Cs (Cq e) && Gh e))
theorem Ge {e : Evt} (h : ¬ Ix e) : Bd e = false := by simp [Bd, h]
theorem Akb {e : Evt} (h : ¬ O8 e) : Bd e = false := by simp [Bd, h]
theorem Azb {e : Evt} (h : Cs (Cq e) = false) : Bd e = false := by simp [Bd, h]
theorem Azc {e : Evt} (h1 : Ix e) (h2 : O8 e) (h3 : Cs (Cq e) = true) : Bd e = Gh e := by simp [Bd, h1, h2, h3]
def ev (e : Evt) : Prop := e.gone.ok ∧ e.base.ok ∧ e.gone.l.length ≤ 1000 ∧ e.base.l.length ≤ 1000 ∧ e.data.length ≤ 100000
theorem Abv {e : Evt} (h : e.kind = 1) : Gh e = (C4 e && (Dg e.name)) := by simp [Gh, h]
theorem Ajt {e : Evt} (h : e.kind = 2) : Gh e = (C4 e && (Dg e.name)) := by simp [Gh, h]
theorem Ki {e : Evt} (h : e.kind = 3) : Gh e = (Bg e.dep e.orep e.oseq && (Ef e.base.l 1 e.dep && (Cv (e.off) && (decide ((1 : Int) ≤ (e.data.length : Int)) && (Cv ((e.data.length : Int)) && (Cv (e.off + (e.data.length : Int)))))))) := by simp [Gh, h]
theorem Oo {e : Evt} (h : e.kind = 4) : Gh e = (Bg e.dep e.orep e.oseq && (Ef e.base.l 1 e.dep && (Cv (e.off)))) := by simp [Gh, h]
theorem Om {e : Evt} (h : e.kind = 5) : Gh e = (Bg e.dep e.orep e.oseq && (Ef e.base.l 8 e.dep && (decide ((2 : Int) ≤ (e.base.l.length : Int)) && (Cv ((e.data.length : Int)))))) := by simp [Gh, h]
theorem Vg {e : Evt} (h : e.kind = 6) : Gh e = (Bg e.dep e.orep e.oseq && (Ef e.gone.l 8 e.dep)) := by simp [Gh, h]
theorem Vf {e : Evt} (h : e.kind = 7) : Gh e = (Bg e.dep e.orep e.oseq && (Ef e.gone.l 8 e.dep && (C4 e && (Dg e.name)))) := by simp [Gh, h]
theorem Ajs {e : Evt} (h : e.kind = 8) : Gh e = (decide (1 ≤ e.ward) && (decide (e.ward ≤ 4))) := by simp [Gh, h]
theorem Ajr {e : Evt} (h : e.kind = 9) : Gh e = (true) := by simp [Gh, h]
def Aiw (e : Evt) (k : Nat) : FS := mk [(55, .pv (.i .i64 k)), (54, .vec 8 (vE e.dep)), (1, .p 1 0)] [(1, some (.var (.vec 21 (Bc e))))]
set_option maxHeartbeats 16000000 in
theorem Aw9 (e : Evt) (he : ev e) {h d} : FunOk Tryz.prog 82 [.vec 21 (Bc e)] h d (.pv (.b (Bd e))) [] := by
 refine Al Af fn82 (by simp) rfl rfl fun F => ?_;have hl := Ac e;obtain ⟨hg, hb, hgn, hbn, hdl⟩ := he;by_cases r1 : e.rep < 1
 · have eb := Ge (e := e) fun h => by have := h.1; omega
   simp (disch := omega) only [ir82, Dd, r1, eb, go_sem]
 by_cases r2 : 8 < e.rep
 · have eb := Ge (e := e) fun h => by have := h.2.1; omega
   simp (disch := omega) only [ir82, Dd, r1, r2, eb, go_sem]
 by_cases r3 : (e.seq : Int) < 1
 · have eb := Ge (e := e) fun h => by have := h.2.2.1; omega
   simp (disch := omega) only [ir82, Dd, Fx, r1, r2, r3, eb, go_sem]
 by_cases r4 : 1048576 < (e.seq : Int)
 · have eb := Ge (e := e) fun h => by have := h.2.2.2.1; omega
   simp (disch := omega) only [ir82, Dd, Fx, r1, r2, r3, r4, eb, go_sem]
 obtain ⟨k, hk⟩ : ∃ k : Nat, e.rep = (k : Int) + 1 := ⟨(e.rep - 1).toNat, by omega⟩
 have hk8 : k < 8 := by omega
 have ek : ((k : Int) + 1 - 1) = (k : Int) := by omega
 have ekn : (e.rep - 1).toNat = k := by omega
 by_cases r5 : (e.dep k : Int) = (e.seq : Int) - 1;rotate_left
 · have eb := Ge (e := e) fun h => by have := h.2.2.2.2.1; rw [ekn] at this; omega
   simp (disch := omega) only [ir82, Dd, Fx, H3, hk, ek, r3, r4, r5, eb, go_sem]
 by_cases r6 : e.kind < 1
 · have eb := Ge (e := e) fun h => by have := h.2.2.2.2.2.1; omega
   simp (disch := omega) only [ir82, Dd, Fx, Ag, H3, hk, ek, r3, r4, r5, r6, eb, go_sem]
 by_cases r7 : 9 < e.kind
 · have eb := Ge (e := e) fun h => by have := h.2.2.2.2.2.2; omega
   simp (disch := omega) only [ir82, Dd, Fx, Ag, H3, hk, ek, r3, r4, r5, r6, r7, eb, go_sem]
 have hB : Ix e := ⟨by omega, by omega, by omega, by omega, by rw [ekn]; omega, by omega, by omega⟩
 simp (disch := omega) only [ir82, Dd, Fx, Ag, Fa, H3, hk, ek, r3, r4, r5, r6, r7, go_sem];refine A0 Af (Aiw e) (fun k => k ≤ 8 ∧ ∀ i, i < k → e.dep i ≤ 1048576) (fun k => 8 - k) 0 (by simp) (Ah ?_ ?_) fun j hj => ?_
 · simp (disch := omega) only [go_sem]
 · simp (disch := omega) only [go_sem]
 obtain ⟨hj1, hj2⟩ := hj;by_cases hlt : j < 8
 · by_cases hd : 1048576 < (e.dep j : Int)
   · have eb := Akb (e := e) fun h => by have := h j hlt; omega
     simp (disch := omega) only [Aiw, hd, eb, go_sem]
   · simp (disch := omega) only [Aiw, hd, go_sem];refine Ad (j + 1) _ _ rfl ⟨by omega, fun i hi => ?_⟩ (by omega) ?_ ?_
     · by_cases e : i = j
       · subst e; omega
       · exact hj2 i (by omega)
     · simp (disch := omega) only [go_sem]
     · simp (disch := omega) only [go_sem]
 obtain rfl : j = 8 := by omega
 have hD : O8 e := hj2;simp (disch := omega) only [Aiw, Bh, go_sem];refine Aa (A2x e) ?_;have cz := Azb (e := e);have ck := fun h3 => Azc (e := e) hB hD h3;have hbl := Ac (Cq e);generalize Cq e = b at *

 by_cases z1' : Cg b.orep b.oseq = false
 · have eb := cz (by simp only [Cs, z1', decide_true, decide_false, Bool.true_and, Bool.false_and, Bool.and_true, Bool.and_false, Bool.and_self]);simp (disch := omega) only [Ae, Au, Ar, E1, hl, hbl, z1', eb, go_sem]
 have z1 : Cg b.orep b.oseq = true := by simpa using z1'
 by_cases z2' : Cg b.drep b.dseq = false
 · have eb := cz (by simp only [Cs, z1, z2', decide_true, decide_false, Bool.true_and, Bool.false_and, Bool.and_true, Bool.and_false, Bool.and_self]);simp (disch := omega) only [Ae, Au, Ar, E1, hl, hbl, z1, z2', eb, go_sem]
 have z2 : Cg b.drep b.dseq = true := by simpa using z2'
 by_cases z3 : b.name = [];rotate_left
 · have eb := cz (by simp only [Cs, z1, z2, z3, decide_true, decide_false, Bool.true_and, Bool.false_and, Bool.and_true, Bool.and_false, Bool.and_self]);simp (disch := omega) only [Ae, Au, Ar, E1, hl, hbl, z1, z2, z3, eb, go_sem]
 by_cases z4 : (b.gone.l.length : Int) = 0;rotate_left
 · have eb := cz (by simp only [Cs, z1, z2, z3, z4, decide_true, decide_false, Bool.true_and, Bool.false_and, Bool.and_true, Bool.and_false, Bool.and_self]);simp (disch := omega) only [Ae, Au, Ar, E1, hl, hbl, z1, z2, z3, z4, eb, go_sem]
 by_cases z5 : (b.base.l.length : Int) = 0;rotate_left
 · have eb := cz (by simp only [Cs, z1, z2, z3, z4, z5, decide_true, decide_false, Bool.true_and, Bool.false_and, Bool.and_true, Bool.and_false, Bool.and_self]);simp (disch := omega) only [Ae, Au, Ar, E1, hl, hbl, z1, z2, z3, z4, z5, eb, go_sem]
 by_cases z6 : b.off = 0;rotate_left
 · have eb := cz (by simp only [Cs, z1, z2, z3, z4, z5, z6, decide_true, decide_false, Bool.true_and, Bool.false_and, Bool.and_true, Bool.and_false, Bool.and_self]);simp (disch := omega) only [Ae, Au, Ar, E1, hl, hbl, z1, z2, z3, z4, z5, z6, eb, go_sem]
 by_cases z7 : b.data = [];rotate_left
 · have eb := cz (by simp only [Cs, z1, z2, z3, z4, z5, z6, z7, decide_true, decide_false, Bool.true_and, Bool.false_and, Bool.and_true, Bool.and_false, Bool.and_self]);simp (disch := omega) only [Ae, Au, Ar, E1, hl, hbl, z1, z2, z3, z4, z5, z6, z7, eb, go_sem]
 by_cases z8 : b.ward = 0;rotate_left
 · have eb := cz (by simp only [Cs, z1, z2, z3, z4, z5, z6, z7, z8, decide_true, decide_false, Bool.true_and, Bool.false_and, Bool.and_true, Bool.and_false, Bool.and_self]);simp (disch := omega) only [Ae, Au, Ar, E1, hl, hbl, z1, z2, z3, z4, z5, z6, z7, z8, eb, go_sem]
 have ez := ck (by simp only [Cs, z1, z2, z3, z4, z5, z6, z7, z8, decide_true, decide_false, Bool.true_and, Bool.false_and, Bool.and_true, Bool.and_false, Bool.and_self]);have hkk : e.kind = 1 ∨ e.kind = 2 ∨ e.kind = 3 ∨ e.kind = 4 ∨ e.kind = 5 ∨ e.kind = 6 ∨ e.kind = 7 ∨ e.kind = 8 ∨ e.kind = 9 := by omega
 rcases hkk with hki | hki | hki | hki | hki | hki | hki | hki | hki
 · rw [Abv hki] at ez;simp (disch := omega) only [Ae, Au, Ar, E1, hl, hbl, z1, z2, z3, z4, z5, z6, z7, z8, hki, go_sem];refine Aa (Abh e) ?_;by_cases s0' : C4 e = false
   · simp only [s0', decide_true, decide_false, Bool.true_and, Bool.false_and, Bool.and_true, Bool.and_false, Bool.and_self] at ez;simp (disch := omega) only [Ae, Au, Ar, s0', ez, go_sem]
   have s0 : C4 e = true := by simpa using s0'
   simp (disch := omega) only [Ae, Au, Ar, s0, go_sem];refine Aa (Agk _) ?_;by_cases s1' : Dg e.name = false
   · simp only [s0, s1', decide_true, decide_false, Bool.true_and, Bool.false_and, Bool.and_true, Bool.and_false, Bool.and_self] at ez;simp (disch := omega) only [Ae, Au, Ar, s0, s1', ez, go_sem]
   have s1 : Dg e.name = true := by simpa using s1'
   simp only [s0, s1, decide_true, decide_false, Bool.true_and, Bool.false_and, Bool.and_true, Bool.and_false, Bool.and_self] at ez;simp (disch := omega) only [Ae, Au, Ar, s0, s1, ez, go_sem]
 · rw [Ajt hki] at ez;simp (disch := omega) only [Ae, Au, Ar, E1, hl, hbl, z1, z2, z3, z4, z5, z6, z7, z8, hki, go_sem];refine Aa (Abh e) ?_;by_cases s0' : C4 e = false
   · simp only [s0', decide_true, decide_false, Bool.true_and, Bool.false_and, Bool.and_true, Bool.and_false, Bool.and_self] at ez;simp (disch := omega) only [Ae, Au, Ar, s0', ez, go_sem]
   have s0 : C4 e = true := by simpa using s0'
   simp (disch := omega) only [Ae, Au, Ar, s0, go_sem];refine Aa (Agk _) ?_;by_cases s1' : Dg e.name = false
   · simp only [s0, s1', decide_true, decide_false, Bool.true_and, Bool.false_and, Bool.and_true, Bool.and_false, Bool.and_self] at ez;simp (disch := omega) only [Ae, Au, Ar, s0, s1', ez, go_sem]
   have s1 : Dg e.name = true := by simpa using s1'
   simp only [s0, s1, decide_true, decide_false, Bool.true_and, Bool.false_and, Bool.and_true, Bool.and_false, Bool.and_self] at ez;simp (disch := omega) only [Ae, Au, Ar, s0, s1, ez, go_sem]
 · rw [Ki hki] at ez;simp (disch := omega) only [Ae, Au, Ar, E1, hl, hbl, z1, z2, z3, z4, z5, z6, z7, z8, hki, go_sem];refine Aa (G2 _ _ _) ?_;by_cases s0' : Bg e.dep e.orep e.oseq = false
   · simp only [s0', decide_true, decide_false, Bool.true_and, Bool.false_and, Bool.and_true, Bool.and_false, Bool.and_self] at ez;simp (disch := omega) only [Ae, Au, Ar, s0', ez, go_sem]
   have s0 : Bg e.dep e.orep e.oseq = true := by simpa using s0'
   simp (disch := omega) only [Ae, Au, Ar, s0, go_sem];refine Aa (Adx (l := e.base.l) (most := 1) hb hbn) ?_;by_cases s1' : Ef e.base.l 1 e.dep = false
   · simp only [s0, s1', decide_true, decide_false, Bool.true_and, Bool.false_and, Bool.and_true, Bool.and_false, Bool.and_self] at ez;simp (disch := omega) only [Ae, Au, Ar, s0, s1', ez, go_sem]
   have s1 : Ef e.base.l 1 e.dep = true := by simpa using s1'
   simp (disch := omega) only [Ae, Au, Ar, s0, s1, go_sem];refine Aa (W4 (e.off)) ?_;by_cases s2' : Cv (e.off) = false
   · simp only [s0, s1, s2', decide_true, decide_false, Bool.true_and, Bool.false_and, Bool.and_true, Bool.and_false, Bool.and_self] at ez;simp (disch := omega) only [Ae, Au, Ar, s0, s1, s2', ez, go_sem]
   have s2 : Cv (e.off) = true := by simpa using s2'
   have s2b := of_decide_eq_true s2;by_cases s3 : (1 : Int) ≤ (e.data.length : Int);rotate_left
   · simp only [s0, s1, s2, s3, decide_true, decide_false, Bool.true_and, Bool.false_and, Bool.and_true, Bool.and_false, Bool.and_self] at ez;simp (disch := omega) only [Ae, Au, Ar, s0, s1, s2, s3, ez, go_sem]
   simp (disch := omega) only [Ae, Au, Ar, s0, s1, s2, s3, go_sem];refine Aa (W4 ((e.data.length : Int))) ?_;by_cases s4' : Cv ((e.data.length : Int)) = false
   · simp only [s0, s1, s2, s3, s4', decide_true, decide_false, Bool.true_and, Bool.false_and, Bool.and_true, Bool.and_false, Bool.and_self] at ez;simp (disch := omega) only [Ae, Au, Ar, s0, s1, s2, s3, s4', ez, go_sem]
   have s4 : Cv ((e.data.length : Int)) = true := by simpa using s4'
   have s4b := of_decide_eq_true s4;simp (disch := omega) only [Ae, Au, Ar, s0, s1, s2, s3, s4, go_sem];refine Aa (W4 (e.off + (e.data.length : Int))) ?_;by_cases s5' : Cv (e.off + (e.data.length : Int)) = false
   · simp only [s0, s1, s2, s3, s4, s5', decide_true, decide_false, Bool.true_and, Bool.false_and, Bool.and_true, Bool.and_false, Bool.and_self] at ez;simp (disch := omega) only [Ae, Au, Ar, s0, s1, s2, s3, s4, s5', ez, go_sem]
   have s5 : Cv (e.off + (e.data.length : Int)) = true := by simpa using s5'
   have s5b := of_decide_eq_true s5;simp only [s0, s1, s2, s3, s4, s5, decide_true, decide_false, Bool.true_and, Bool.false_and, Bool.and_true, Bool.and_false, Bool.and_self] at ez;simp (disch := omega) only [Ae, Au, Ar, s0, s1, s2, s3, s4, s5, ez, go_sem]
 · rw [Oo hki] at ez;simp (disch := omega) only [Ae, Au, Ar, E1, hl, hbl, z1, z2, z3, z4, z5, z6, z7, z8, hki, go_sem];refine Aa (G2 _ _ _) ?_;by_cases s0' : Bg e.dep e.orep e.oseq = false
   · simp only [s0', decide_true, decide_false, Bool.true_and, Bool.false_and, Bool.and_true, Bool.and_false, Bool.and_self] at ez;simp (disch := omega) only [Ae, Au, Ar, s0', ez, go_sem]
   have s0 : Bg e.dep e.orep e.oseq = true := by simpa using s0'
   simp (disch := omega) only [Ae, Au, Ar, s0, go_sem];refine Aa (Adx (l := e.base.l) (most := 1) hb hbn) ?_;by_cases s1' : Ef e.base.l 1 e.dep = false
   · simp only [s0, s1', decide_true, decide_false, Bool.true_and, Bool.false_and, Bool.and_true, Bool.and_false, Bool.and_self] at ez;simp (disch := omega) only [Ae, Au, Ar, s0, s1', ez, go_sem]
   have s1 : Ef e.base.l 1 e.dep = true := by simpa using s1'
   simp (disch := omega) only [Ae, Au, Ar, s0, s1, go_sem];refine Aa (W4 (e.off)) ?_;by_cases s2' : Cv (e.off) = false
   · simp only [s0, s1, s2', decide_true, decide_false, Bool.true_and, Bool.false_and, Bool.and_true, Bool.and_false, Bool.and_self] at ez;simp (disch := omega) only [Ae, Au, Ar, s0, s1, s2', ez, go_sem]
   have s2 : Cv (e.off) = true := by simpa using s2'
   have s2b := of_decide_eq_true s2;simp only [s0, s1, s2, decide_true, decide_false, Bool.true_and, Bool.false_and, Bool.and_true, Bool.and_false, Bool.and_self] at ez;simp (disch := omega) only [Ae, Au, Ar, s0, s1, s2, ez, go_sem]
 · rw [Om hki] at ez;simp (disch := omega) only [Ae, Au, Ar, E1, hl, hbl, z1, z2, z3, z4, z5, z6, z7, z8, hki, go_sem];refine Aa (G2 _ _ _) ?_;by_cases s0' : Bg e.dep e.orep e.oseq = false
   · simp only [s0', decide_true, decide_false, Bool.true_and, Bool.false_and, Bool.and_true, Bool.and_false, Bool.and_self] at ez;simp (disch := omega) only [Ae, Au, Ar, s0', ez, go_sem]
   have s0 : Bg e.dep e.orep e.oseq = true := by simpa using s0'
   simp (disch := omega) only [Ae, Au, Ar, s0, go_sem];refine Aa (Adx (l := e.base.l) (most := 8) hb hbn) ?_;by_cases s1' : Ef e.base.l 8 e.dep = false
   · simp only [s0, s1', decide_true, decide_false, Bool.true_and, Bool.false_and, Bool.and_true, Bool.and_false, Bool.and_self] at ez;simp (disch := omega) only [Ae, Au, Ar, s0, s1', ez, go_sem]
   have s1 : Ef e.base.l 8 e.dep = true := by simpa using s1'
   by_cases s2 : (2 : Int) ≤ (e.base.l.length : Int);rotate_left
   · simp only [s0, s1, s2, decide_true, decide_false, Bool.true_and, Bool.false_and, Bool.and_true, Bool.and_false, Bool.and_self] at ez;simp (disch := omega) only [Ae, Au, Ar, s0, s1, s2, ez, go_sem]
   simp (disch := omega) only [Ae, Au, Ar, s0, s1, s2, go_sem];refine Aa (W4 ((e.data.length : Int))) ?_;by_cases s3' : Cv ((e.data.length : Int)) = false
   · simp only [s0, s1, s2, s3', decide_true, decide_false, Bool.true_and, Bool.false_and, Bool.and_true, Bool.and_false, Bool.and_self] at ez;simp (disch := omega) only [Ae, Au, Ar, s0, s1, s2, s3', ez, go_sem]
   have s3 : Cv ((e.data.length : Int)) = true := by simpa using s3'
   have s3b := of_decide_eq_true s3;simp only [s0, s1, s2, s3, decide_true, decide_false, Bool.true_and, Bool.false_and, Bool.and_true, Bool.and_false, Bool.and_self] at ez;simp (disch := omega) only [Ae, Au, Ar, s0, s1, s2, s3, ez, go_sem]
 · rw [Vg hki] at ez;simp (disch := omega) only [Ae, Au, Ar, E1, hl, hbl, z1, z2, z3, z4, z5, z6, z7, z8, hki, go_sem];refine Aa (G2 _ _ _) ?_;by_cases s0' : Bg e.dep e.orep e.oseq = false
   · simp only [s0', decide_true, decide_false, Bool.true_and, Bool.false_and, Bool.and_true, Bool.and_false, Bool.and_self] at ez;simp (disch := omega) only [Ae, Au, Ar, s0', ez, go_sem]
   have s0 : Bg e.dep e.orep e.oseq = true := by simpa using s0'
   simp (disch := omega) only [Ae, Au, Ar, s0, go_sem];refine Aa (Adx (l := e.gone.l) (most := 8) hg hgn) ?_;by_cases s1' : Ef e.gone.l 8 e.dep = false
   · simp only [s0, s1', decide_true, decide_false, Bool.true_and, Bool.false_and, Bool.and_true, Bool.and_false, Bool.and_self] at ez;simp (disch := omega) only [Ae, Au, Ar, s0, s1', ez, go_sem]
   have s1 : Ef e.gone.l 8 e.dep = true := by simpa using s1'
   simp only [s0, s1, decide_true, decide_false, Bool.true_and, Bool.false_and, Bool.and_true, Bool.and_false, Bool.and_self] at ez;simp (disch := omega) only [Ae, Au, Ar, s0, s1, ez, go_sem]
 · rw [Vf hki] at ez;simp (disch := omega) only [Ae, Au, Ar, E1, hl, hbl, z1, z2, z3, z4, z5, z6, z7, z8, hki, go_sem];refine Aa (G2 _ _ _) ?_;by_cases s0' : Bg e.dep e.orep e.oseq = false
   · simp only [s0', decide_true, decide_false, Bool.true_and, Bool.false_and, Bool.and_true, Bool.and_false, Bool.and_self] at ez;simp (disch := omega) only [Ae, Au, Ar, s0', ez, go_sem]
   have s0 : Bg e.dep e.orep e.oseq = true := by simpa using s0'
   simp (disch := omega) only [Ae, Au, Ar, s0, go_sem];refine Aa (Adx (l := e.gone.l) (most := 8) hg hgn) ?_;by_cases s1' : Ef e.gone.l 8 e.dep = false
   · simp only [s0, s1', decide_true, decide_false, Bool.true_and, Bool.false_and, Bool.and_true, Bool.and_false, Bool.and_self] at ez;simp (disch := omega) only [Ae, Au, Ar, s0, s1', ez, go_sem]
   have s1 : Ef e.gone.l 8 e.dep = true := by simpa using s1'
   simp (disch := omega) only [Ae, Au, Ar, s0, s1, go_sem];refine Aa (Abh e) ?_;by_cases s2' : C4 e = false
   · simp only [s0, s1, s2', decide_true, decide_false, Bool.true_and, Bool.false_and, Bool.and_true, Bool.and_false, Bool.and_self] at ez;simp (disch := omega) only [Ae, Au, Ar, s0, s1, s2', ez, go_sem]
   have s2 : C4 e = true := by simpa using s2'
   simp (disch := omega) only [Ae, Au, Ar, s0, s1, s2, go_sem];refine Aa (Agk _) ?_;by_cases s3' : Dg e.name = false
   · simp only [s0, s1, s2, s3', decide_true, decide_false, Bool.true_and, Bool.false_and, Bool.and_true, Bool.and_false, Bool.and_self] at ez;simp (disch := omega) only [Ae, Au, Ar, s0, s1, s2, s3', ez, go_sem]
   have s3 : Dg e.name = true := by simpa using s3'
   simp only [s0, s1, s2, s3, decide_true, decide_false, Bool.true_and, Bool.false_and, Bool.and_true, Bool.and_false, Bool.and_self] at ez;simp (disch := omega) only [Ae, Au, Ar, s0, s1, s2, s3, ez, go_sem]
 · rw [Ajs hki] at ez;by_cases s0 : 1 ≤ e.ward;rotate_left
   · simp only [s0, decide_true, decide_false, Bool.true_and, Bool.false_and, Bool.and_true, Bool.and_false, Bool.and_self] at ez;simp (disch := omega) only [Ae, Au, Ar, E1, hl, hbl, z1, z2, z3, z4, z5, z6, z7, z8, hki, s0, ez, go_sem]
   by_cases s1 : e.ward ≤ 4;rotate_left
   · simp only [s0, s1, decide_true, decide_false, Bool.true_and, Bool.false_and, Bool.and_true, Bool.and_false, Bool.and_self] at ez;simp (disch := omega) only [Ae, Au, Ar, E1, hl, hbl, z1, z2, z3, z4, z5, z6, z7, z8, hki, s0, s1, ez, go_sem]
   simp only [s0, s1, decide_true, decide_false, Bool.true_and, Bool.false_and, Bool.and_true, Bool.and_false, Bool.and_self] at ez;simp (disch := omega) only [Ae, Au, Ar, E1, hl, hbl, z1, z2, z3, z4, z5, z6, z7, z8, hki, s0, s1, ez, go_sem]
 · rw [Ajr hki] at ez;simp (disch := omega) only [Ae, Au, Ar, E1, hl, hbl, z1, z2, z3, z4, z5, z6, z7, z8, hki, ez, go_sem]
theorem Gs {e : Evt} (h1 : Ix e) (h2 : O8 e) : Bd e = (Cs (Cq e) && Gh e) := by simp [Bd, h1, h2]
theorem Lp : Cg 0 0 = true := rfl
theorem Asq (l : List Bn) (n : Int) (a : Vc) : Ef l n a = (Hd a l && decide ((l.length : Int) ≤ n)) := by unfold Ef; rw [Bool.and_comm]
theorem A0o (f : Int) (s : List UInt8) : (Cv f && (decide ((1 : Int) ≤ (s.length : Int)) && (Cv (s.length : Int) && Cv (f + (s.length : Int))))) = (Cv f && (!decide (s = []) && decide ((s.length : Int) ≤ 200 - f))) := by
 have e1 : decide ((1 : Int) ≤ (s.length : Int)) = !decide (s = []) := by
  cases s with
  | nil => rfl
  | cons a s => simp; omega
 rw [e1];unfold Cv;by_cases h1 : 0 ≤ f ∧ f ≤ 200
 · rw [decide_eq_true h1, Bool.true_and, Bool.true_and];congr 1;rw [← Bool.decide_and];exact decide_eq_decide.2 (by omega)
 · rw [decide_eq_false h1, Bool.false_and, Bool.false_and]
theorem Apl (s : List UInt8) : Cv (s.length : Int) = decide ((s.length : Int) ≤ 200) := decide_eq_decide.2 (by omega)
theorem Avl {e : Evt} (h : e.kind = 1) : Cs (Cq e) = Am e false true false false false false false := by simp [Cs, Cq, Am, h, Lp, SlI.nil, Bool.and_assoc]
theorem Azl {e : Evt} (h1 : Ix e) (h2 : O8 e) (h : e.kind = 1) : Bd e = (Am e false true false false false false false && (C4 e && (Dg e.name))) := by rw [Gs h1 h2, Avl h, Abv h]
theorem A0z {e : Evt} (h : e.kind = 2) : Cs (Cq e) = Am e false true false false false false false := by simp [Cs, Cq, Am, h, Lp, SlI.nil, Bool.and_assoc]
theorem Azk {e : Evt} (h1 : Ix e) (h2 : O8 e) (h : e.kind = 2) : Bd e = (Am e false true false false false false false && (C4 e && (Dg e.name))) := by rw [Gs h1 h2, A0z h, Ajt h]
theorem Bap {e : Evt} (h : e.kind = 3) : Cs (Cq e) = Am e true false false true true true false := by simp [Cs, Cq, Am, h, Lp, SlI.nil, Bool.and_assoc]
theorem Azj {e : Evt} (h1 : Ix e) (h2 : O8 e) (h : e.kind = 3) : Bd e = (Am e true false false true true true false && (Bg e.dep e.orep e.oseq && (Hd e.dep e.base.l && (decide ((e.base.l.length : Int) ≤ 1) && (Cv e.off && (!decide (e.data = []) && (decide ((e.data.length : Int) ≤ 200 - e.off)))))))) := by rw [Gs h1 h2, Bap h, Ki h]; simp only [Asq, A0o, Bool.and_assoc]
theorem A50 {e : Evt} (h : e.kind = 4) : Cs (Cq e) = Am e true false false true true false false := by simp [Cs, Cq, Am, h, Lp, SlI.nil, Bool.and_assoc]
theorem Azi {e : Evt} (h1 : Ix e) (h2 : O8 e) (h : e.kind = 4) : Bd e = (Am e true false false true true false false && (Bg e.dep e.orep e.oseq && (Hd e.dep e.base.l && (decide ((e.base.l.length : Int) ≤ 1) && (Cv e.off))))) := by rw [Gs h1 h2, A50 h, Oo h]; simp only [Asq, A0o, Bool.and_assoc]
theorem Bao {e : Evt} (h : e.kind = 5) : Cs (Cq e) = Am e true false false true false true false := by simp [Cs, Cq, Am, h, Lp, SlI.nil, Bool.and_assoc]
theorem Azh {e : Evt} (h1 : Ix e) (h2 : O8 e) (h : e.kind = 5) : Bd e = (Am e true false false true false true false && (Bg e.dep e.orep e.oseq && (Hd e.dep e.base.l && (decide ((2 : Int) ≤ (e.base.l.length : Int)) && (decide ((e.base.l.length : Int) ≤ 8) && (decide ((e.data.length : Int) ≤ 200))))))) := by rw [Gs h1 h2, Bao h, Om h]; simp only [Asq, Apl, Bool.and_assoc]; congr 3; cases decide ((e.base.l.length : Int) ≤ 8) <;> cases decide ((2 : Int) ≤ (e.base.l.length : Int)) <;> rfl
theorem A5z {e : Evt} (h : e.kind = 6) : Cs (Cq e) = Am e true false true false false false false := by simp [Cs, Cq, Am, h, Lp, SlI.nil, Bool.and_assoc]
theorem Azg {e : Evt} (h1 : Ix e) (h2 : O8 e) (h : e.kind = 6) : Bd e = (Am e true false true false false false false && (Bg e.dep e.orep e.oseq && (Ef e.gone.l 8 e.dep))) := by rw [Gs h1 h2, A5z h, Vg h]
theorem A5y {e : Evt} (h : e.kind = 7) : Cs (Cq e) = Am e true true true false false false false := by simp [Cs, Cq, Am, h, Lp, SlI.nil, Bool.and_assoc]
theorem Azf {e : Evt} (h1 : Ix e) (h2 : O8 e) (h : e.kind = 7) : Bd e = (Am e true true true false false false false && (Bg e.dep e.orep e.oseq && (Ef e.gone.l 8 e.dep && (C4 e && (Dg e.name))))) := by rw [Gs h1 h2, A5y h, Vf h]
theorem A0y {e : Evt} (h : e.kind = 8) : Cs (Cq e) = Am e false false false false false false true := by simp [Cs, Cq, Am, h, Lp, SlI.nil, Bool.and_assoc]
theorem Aze {e : Evt} (h1 : Ix e) (h2 : O8 e) (h : e.kind = 8) : Bd e = (Am e false false false false false false true && (decide (1 ≤ e.ward) && (decide (e.ward ≤ 4)))) := by rw [Gs h1 h2, A0y h, Ajs h]
theorem A0x {e : Evt} (h : e.kind = 9) : Cs (Cq e) = Am e false false false false false false false := by simp [Cs, Cq, Am, h, Lp, SlI.nil, Bool.and_assoc]
theorem Azd {e : Evt} (h1 : Ix e) (h2 : O8 e) (h : e.kind = 9) : Bd e = (Am e false false false false false false false && (true)) := by rw [Gs h1 h2, A0x h, Ajr h]
def Aaz (e : Evt) (k : Nat) : FS := mk [(3, .pv (.i .i64 k)), (1, .p 1 0)] [(1, some (.var (.vec 21 (Bc e))))]
theorem A06 {a b : Nat} (ha : a < 4294967296) (hb : 1 ≤ b ∧ b ≤ 1048576) (h : ¬ a + 1 = b) : ¬ IntKind.u32.wrap ((a : Int) + 1) = (b : Int) := by
 by_cases h1 : a + 1 < 4294967296
 · rw [Acs (by omega)]; omega
 · have : (a : Int) + 1 = 4294967296 := by omega
   rw [this];have : IntKind.u32.wrap 4294967296 = 0 := by decide
   rw [this]; omega
set_option maxHeartbeats 40000000 in
theorem Ad1 (e : Evt) (he : ev e) (hdep : ∀ i, i < 8 → e.dep i < 4294967296) {h d} : FunOk Tryz.prog 83 [.vec 21 (Bc e)] h d (.pv (.b (Bd e))) [] := by
 refine Al Af fn83 (by simp) rfl rfl fun F => ?_;have hl := Ac e;obtain ⟨hg, hb, hgn, hbn, hdl⟩ := he;by_cases r1 : e.rep < 1
 · have eb := Ge (e := e) fun h => by have := h.1; omega
   (try simp only [Cf, Ce, Cd, Cc, Cb, Ca, B9, B0]); simp (maxSteps := 10000000) (disch := omega) only [ir83, Dd, r1, eb, go_sem]
 by_cases r2 : 8 < e.rep
 · have eb := Ge (e := e) fun h => by have := h.2.1; omega
   (try simp only [Cf, Ce, Cd, Cc, Cb, Ca, B9, B0]); simp (maxSteps := 10000000) (disch := omega) only [ir83, Dd, r1, r2, eb, go_sem]
 by_cases r3 : (e.seq : Int) < 1
 · have eb := Ge (e := e) fun h => by have := h.2.2.1; omega
   (try simp only [Cf, Ce, Cd, Cc, Cb, Ca, B9, B0]); simp (maxSteps := 10000000) (disch := omega) only [ir83, Dd, Fx, r1, r2, r3, eb, go_sem]
 by_cases r4 : 1048576 < (e.seq : Int)
 · have eb := Ge (e := e) fun h => by have := h.2.2.2.1; omega
   (try simp only [Cf, Ce, Cd, Cc, Cb, Ca, B9, B0]); simp (maxSteps := 10000000) (disch := omega) only [ir83, Dd, Fx, r1, r2, r3, r4, eb, go_sem]
 obtain ⟨k, hk⟩ : ∃ k : Nat, e.rep = (k : Int) + 1 := ⟨(e.rep - 1).toNat, by omega⟩
 have hk8 : k < 8 := by omega
 have ekn : (e.rep - 1).toNat = k := by omega
 have egv : Hx e.dep ((k : Int) + 1) = e.dep k := by
  have e1 : ((k : Int) + 1 - 1).toNat = k := by omega
  simp [Hx, e1]; omega
 have hdk := hdep k hk8;by_cases r5 : e.dep k + 1 = e.seq;rotate_left
 · have eb := Ge (e := e) fun h => by have := h.2.2.2.2.1; rw [ekn] at this; omega
   have hw := A06 hdk (by omega) r5
   (try simp only [Cf, Ce, Cd, Cc, Cb, Ca, B9, B0]); simp (maxSteps := 10000000) (disch := omega) only [ir83, Dd, Fx, Fa, Dq, hk, r3, r4, eb, go_sem]
   refine Aa (Pw _ _) ?_
   (try simp only [Cf, Ce, Cd, Cc, Cb, Ca, B9, B0]); simp (maxSteps := 10000000) (disch := omega) only [egv, hw, Fx, eb, go_sem]
 have r5' : (e.dep k : Int) + 1 = (e.seq : Int) := by omega
 (try simp only [Cf, Ce, Cd, Cc, Cb, Ca, B9, B0]); simp (maxSteps := 10000000) (disch := omega) only [ir83, Dd, Fx, Fa, Dq, hk, r3, r4, go_sem]
 refine Aa (Pw _ _) ?_
 (try simp only [Cf, Ce, Cd, Cc, Cb, Ca, B9, B0]); simp (maxSteps := 10000000) (disch := omega) only [egv, r5', Fx, go_sem]
 refine A0 Af (Aaz e) (fun k => k ≤ 8 ∧ ∀ i, i < k → e.dep i ≤ 1048576) (fun k => 8 - k) 0 (by simp) (Ah ?_ ?_) fun j hj => ?_
 · (try simp only [Cf, Ce, Cd, Cc, Cb, Ca, B9, B0]); simp (maxSteps := 10000000) (disch := omega) only [go_sem]
 · (try simp only [Cf, Ce, Cd, Cc, Cb, Ca, B9, B0]); simp (maxSteps := 10000000) (disch := omega) only [go_sem]
 obtain ⟨hj1, hj2⟩ := hj;by_cases hlt : j < 8
 · by_cases hd : 1048576 < (e.dep j : Int)
   · have eb := Akb (e := e) fun h => by have := h j hlt; omega
     (try simp only [Cf, Ce, Cd, Cc, Cb, Ca, B9, B0]); simp (maxSteps := 10000000) (disch := omega) only [Aaz, H3, hd, eb, go_sem]
   · (try simp only [Cf, Ce, Cd, Cc, Cb, Ca, B9, B0]); simp (maxSteps := 10000000) (disch := omega) only [Aaz, H3, hd, go_sem]
     refine Ad (j + 1) _ _ rfl ⟨by omega, fun i hi => ?_⟩ (by omega) ?_ ?_
     · by_cases e : i = j
       · subst e; omega
       · exact hj2 i (by omega)
     · (try simp only [Cf, Ce, Cd, Cc, Cb, Ca, B9, B0]); simp (maxSteps := 10000000) (disch := omega) only [go_sem]
     · (try simp only [Cf, Ce, Cd, Cc, Cb, Ca, B9, B0]); simp (maxSteps := 10000000) (disch := omega) only [go_sem]
 obtain rfl : j = 8 := by omega
 have hD : O8 e := hj2
 (try simp only [Cf, Ce, Cd, Cc, Cb, Ca, B9, B0]); simp (maxSteps := 10000000) (disch := omega) only [Aaz, Ac, go_sem]
 refine Aa (Nh _ _ _) ?_
 (try simp only [Cf, Ce, Cd, Cc, Cb, Ca, B9, B0]); simp (maxSteps := 10000000) (disch := omega) only [Ac, go_sem]
 refine Aa (A2 _ _) ?_;by_cases hz' : Cg e.drep e.dseq = false
 all_goals first
  | (have hpl : C4 e = Bg e.dep e.drep e.dseq := by simp only [C4, hz', Bool.false_or]
     (try simp only [Cf, Ce, Cd, Cc, Cb, Ca, B9, B0]); simp (maxSteps := 10000000) (disch := omega) only [hz', go_sem]
     refine Aa (Nh _ _ _) ?_)
  | (have hz : Cg e.drep e.dseq = true := by simpa using hz'
     have hpl : C4 e = true := by simp only [C4, hz, Bool.true_or]
     (try simp only [Cf, Ce, Cd, Cc, Cb, Ca, B9, B0]); simp (maxSteps := 10000000) (disch := omega) only [hz, go_sem])
 all_goals by_cases hgl0 : (e.gone.l.length : Int) ≤ 8
 all_goals first
  | (have hgl : Ef e.gone.l 8 e.dep = Hd e.dep e.gone.l := by simp only [Ef, hgl0, decide_true, Bool.true_and]
     (try simp only [Cf, Ce, Cd, Cc, Cb, Ca, B9, B0]); simp (maxSteps := 10000000) (disch := omega) only [hgl0, go_sem]
     refine Aa (Aql (l := e.gone.l) hg hgn) ?_
     (try simp only [Cf, Ce, Cd, Cc, Cb, Ca, B9, B0]); simp (maxSteps := 10000000) (disch := omega) only [hgl0, go_sem])
  | (have hgl : Ef e.gone.l 8 e.dep = false := by simp only [Ef, hgl0, decide_false, Bool.false_and]
     (try simp only [Cf, Ce, Cd, Cc, Cb, Ca, B9, B0]); simp (maxSteps := 10000000) (disch := omega) only [hgl0, go_sem])
 all_goals refine Aa (Aql (l := e.base.l) hb hbn) ?_
 all_goals by_cases ho1 : 0 ≤ e.off
 rotate_left
 all_goals by_cases ho2 : e.off ≤ 200
 all_goals try (exfalso; omega)
 all_goals first
  | (have hso : Cv e.off = true := decide_eq_true ⟨ho1, ho2⟩
     (try simp only [Cf, Ce, Cd, Cc, Cb, Ca, B9, B0]); simp (maxSteps := 10000000) (disch := omega) only [hgl0, ho1, ho2, go_sem])
  | (have hso : Cv e.off = false := decide_eq_false (by omega)
     (try simp only [Cf, Ce, Cd, Cc, Cb, Ca, B9, B0]); simp (maxSteps := 10000000) (disch := omega) only [hgl0, ho1, ho2, go_sem])
 all_goals
  by_cases hkr : 1 ≤ e.kind ∧ e.kind ≤ 9;rotate_left
  · have eb := Ge (e := e) fun h => by have := h.2.2.2.2.2; omega
    have hn1 : ¬ e.kind = 1 := by omega
    have hn2 : ¬ e.kind = 2 := by omega
    have hn3 : ¬ e.kind = 3 := by omega
    have hn4 : ¬ e.kind = 4 := by omega
    have hn5 : ¬ e.kind = 5 := by omega
    have hn6 : ¬ e.kind = 6 := by omega
    have hn7 : ¬ e.kind = 7 := by omega
    have hn8 : ¬ e.kind = 8 := by omega
    have hn9 : ¬ e.kind = 9 := by omega
    (try simp only [Cf, Ce, Cd, Cc, Cb, Ca, B9, B0]); simp (maxSteps := 10000000) (disch := omega) only [Ac, hn1, hn2, hn3, hn4, hn5, hn6, hn7, hn8, hn9, eb, go_sem]
  have hB : Ix e := ⟨by omega, by omega, by omega, by omega, by rw [ekn]; omega, by omega, by omega⟩
  have hkk : e.kind = 1 ∨ e.kind = 2 ∨ e.kind = 3 ∨ e.kind = 4 ∨ e.kind = 5 ∨ e.kind = 6 ∨ e.kind = 7 ∨ e.kind = 8 ∨ e.kind = 9 := by omega
  rcases hkk with hki | hki | hki | hki | hki | hki | hki | hki | hki
  · have ez := Azl hB hD hki;by_cases s0' : C4 e = false
    · first
       | exact absurd (hpl.symm.trans s0') (by decide)
       | (have s0b := hpl.symm.trans s0'
          simp only [s0', decide_true, decide_false, Bool.true_and, Bool.false_and, Bool.and_true, Bool.and_false, Bool.and_self, Bool.not_true, Bool.not_false] at ez
          (try simp only [Cf, Ce, Cd, Cc, Cb, Ca, B9, B0]); simp (maxSteps := 10000000) (disch := omega) only [Ac, hki, s0b, ez, go_sem])
    have s0 : C4 e = true := by simpa using s0'
    have s0b := hpl.symm.trans s0
    first
     | exact absurd s0b (by decide)
     | ((try simp only [Cf, Ce, Cd, Cc, Cb, Ca, B9, B0]); simp (maxSteps := 10000000) (disch := omega) only [Ac, hki, s0b, go_sem]
        refine Aa (Abi _) ?_;by_cases s1' : Dg e.name = false
        · simp only [s0, s1', decide_true, decide_false, Bool.true_and, Bool.false_and, Bool.and_true, Bool.and_false, Bool.and_self, Bool.not_true, Bool.not_false] at ez
          (try simp only [Cf, Ce, Cd, Cc, Cb, Ca, B9, B0]); simp (maxSteps := 10000000) (disch := omega) only [Ac, s0b, s1', ez, go_sem]
        have s1 : Dg e.name = true := by simpa using s1'
        (try simp only [Cf, Ce, Cd, Cc, Cb, Ca, B9, B0]); simp (maxSteps := 10000000) (disch := omega) only [Ac, s0b, s1, go_sem]
        refine Aa (Aja e) ?_;simp only [s0, s1, decide_true, decide_false, Bool.true_and, Bool.false_and, Bool.and_true, Bool.and_false, Bool.and_self, Bool.not_true, Bool.not_false] at ez
        (try simp only [Cf, Ce, Cd, Cc, Cb, Ca, B9, B0]); simp (maxSteps := 10000000) (disch := omega) only [s0b, s1, ez, go_sem])
  · have ez := Azk hB hD hki;by_cases s0' : C4 e = false
    · first
       | exact absurd (hpl.symm.trans s0') (by decide)
       | (have s0b := hpl.symm.trans s0'
          simp only [s0', decide_true, decide_false, Bool.true_and, Bool.false_and, Bool.and_true, Bool.and_false, Bool.and_self, Bool.not_true, Bool.not_false] at ez
          (try simp only [Cf, Ce, Cd, Cc, Cb, Ca, B9, B0]); simp (maxSteps := 10000000) (disch := omega) only [Ac, hki, s0b, ez, go_sem])
    have s0 : C4 e = true := by simpa using s0'
    have s0b := hpl.symm.trans s0
    first
     | exact absurd s0b (by decide)
     | ((try simp only [Cf, Ce, Cd, Cc, Cb, Ca, B9, B0]); simp (maxSteps := 10000000) (disch := omega) only [Ac, hki, s0b, go_sem]
        refine Aa (Abi _) ?_;by_cases s1' : Dg e.name = false
        · simp only [s0, s1', decide_true, decide_false, Bool.true_and, Bool.false_and, Bool.and_true, Bool.and_false, Bool.and_self, Bool.not_true, Bool.not_false] at ez
          (try simp only [Cf, Ce, Cd, Cc, Cb, Ca, B9, B0]); simp (maxSteps := 10000000) (disch := omega) only [Ac, s0b, s1', ez, go_sem]
        have s1 : Dg e.name = true := by simpa using s1'
        (try simp only [Cf, Ce, Cd, Cc, Cb, Ca, B9, B0]); simp (maxSteps := 10000000) (disch := omega) only [Ac, s0b, s1, go_sem]
        refine Aa (Aja e) ?_;simp only [s0, s1, decide_true, decide_false, Bool.true_and, Bool.false_and, Bool.and_true, Bool.and_false, Bool.and_self, Bool.not_true, Bool.not_false] at ez
        (try simp only [Cf, Ce, Cd, Cc, Cb, Ca, B9, B0]); simp (maxSteps := 10000000) (disch := omega) only [s0b, s1, ez, go_sem])
  · have ez := Azj hB hD hki;by_cases s0' : Bg e.dep e.orep e.oseq = false
    · simp only [s0', decide_true, decide_false, Bool.true_and, Bool.false_and, Bool.and_true, Bool.and_false, Bool.and_self, Bool.not_true, Bool.not_false] at ez
      (try simp only [Cf, Ce, Cd, Cc, Cb, Ca, B9, B0]); simp (maxSteps := 10000000) (disch := omega) only [Ac, hki, s0', ez, go_sem]
    have s0 : Bg e.dep e.orep e.oseq = true := by simpa using s0'
    by_cases s1' : Hd e.dep e.base.l = false
    · simp only [s0, s1', decide_true, decide_false, Bool.true_and, Bool.false_and, Bool.and_true, Bool.and_false, Bool.and_self, Bool.not_true, Bool.not_false] at ez
      (try simp only [Cf, Ce, Cd, Cc, Cb, Ca, B9, B0]); simp (maxSteps := 10000000) (disch := omega) only [Ac, hki, s0, s1', ez, go_sem]
    have s1 : Hd e.dep e.base.l = true := by simpa using s1'
    by_cases s2 : (e.base.l.length : Int) ≤ 1;rotate_left
    · simp only [s0, s1, s2, decide_true, decide_false, Bool.true_and, Bool.false_and, Bool.and_true, Bool.and_false, Bool.and_self, Bool.not_true, Bool.not_false] at ez
      (try simp only [Cf, Ce, Cd, Cc, Cb, Ca, B9, B0]); simp (maxSteps := 10000000) (disch := omega) only [Ac, hki, s0, s1, s2, ez, go_sem]
    by_cases s3' : Cv e.off = false
    · first
       | exact absurd (hso.symm.trans s3') (by decide)
       | (have s3b := hso.symm.trans s3'
          simp only [s0, s1, s2, s3', decide_true, decide_false, Bool.true_and, Bool.false_and, Bool.and_true, Bool.and_false, Bool.and_self, Bool.not_true, Bool.not_false] at ez
          (try simp only [Cf, Ce, Cd, Cc, Cb, Ca, B9, B0]); simp (maxSteps := 10000000) (disch := omega) only [Ac, hki, s0, s1, s2, s3b, ez, go_sem])
    have s3 : Cv e.off = true := by simpa using s3'
    have s3b := hso.symm.trans s3
    first
     | exact absurd s3b (by decide)
     | (by_cases s4 : e.data = []
        · simp only [s0, s1, s2, s3, s4, decide_true, decide_false, Bool.true_and, Bool.false_and, Bool.and_true, Bool.and_false, Bool.and_self, Bool.not_true, Bool.not_false] at ez
          (try simp only [Cf, Ce, Cd, Cc, Cb, Ca, B9, B0]); simp (maxSteps := 10000000) (disch := omega) only [Ac, hki, s0, s1, s2, s4, ez, go_sem]
        by_cases s5 : (e.data.length : Int) ≤ 200 - e.off;rotate_left
        · simp only [s0, s1, s2, s3, s4, s5, decide_true, decide_false, Bool.true_and, Bool.false_and, Bool.and_true, Bool.and_false, Bool.and_self, Bool.not_true, Bool.not_false] at ez
          (try simp only [Cf, Ce, Cd, Cc, Cb, Ca, B9, B0]); simp (maxSteps := 10000000) (disch := omega) only [Ac, hki, s0, s1, s2, s4, s5, ez, go_sem]
        (try simp only [Cf, Ce, Cd, Cc, Cb, Ca, B9, B0]); simp (maxSteps := 10000000) (disch := omega) only [Ac, hki, s0, s1, s2, s4, s5, go_sem]
        refine Aa (Ago e) ?_;simp only [s0, s1, s2, s3, s4, s5, decide_true, decide_false, Bool.true_and, Bool.false_and, Bool.and_true, Bool.and_false, Bool.and_self, Bool.not_true, Bool.not_false] at ez
        (try simp only [Cf, Ce, Cd, Cc, Cb, Ca, B9, B0]); simp (maxSteps := 10000000) (disch := omega) only [s0, s1, s2, s4, s5, ez, go_sem])
  · have ez := Azi hB hD hki;by_cases s0' : Bg e.dep e.orep e.oseq = false
    · simp only [s0', decide_true, decide_false, Bool.true_and, Bool.false_and, Bool.and_true, Bool.and_false, Bool.and_self, Bool.not_true, Bool.not_false] at ez
      (try simp only [Cf, Ce, Cd, Cc, Cb, Ca, B9, B0]); simp (maxSteps := 10000000) (disch := omega) only [Ac, hki, s0', ez, go_sem]
    have s0 : Bg e.dep e.orep e.oseq = true := by simpa using s0'
    by_cases s1' : Hd e.dep e.base.l = false
    · simp only [s0, s1', decide_true, decide_false, Bool.true_and, Bool.false_and, Bool.and_true, Bool.and_false, Bool.and_self, Bool.not_true, Bool.not_false] at ez
      (try simp only [Cf, Ce, Cd, Cc, Cb, Ca, B9, B0]); simp (maxSteps := 10000000) (disch := omega) only [Ac, hki, s0, s1', ez, go_sem]
    have s1 : Hd e.dep e.base.l = true := by simpa using s1'
    by_cases s2 : (e.base.l.length : Int) ≤ 1;rotate_left
    · simp only [s0, s1, s2, decide_true, decide_false, Bool.true_and, Bool.false_and, Bool.and_true, Bool.and_false, Bool.and_self, Bool.not_true, Bool.not_false] at ez
      (try simp only [Cf, Ce, Cd, Cc, Cb, Ca, B9, B0]); simp (maxSteps := 10000000) (disch := omega) only [Ac, hki, s0, s1, s2, ez, go_sem]
    by_cases s3' : Cv e.off = false
    · first
       | exact absurd (hso.symm.trans s3') (by decide)
       | (have s3b := hso.symm.trans s3'
          simp only [s0, s1, s2, s3', decide_true, decide_false, Bool.true_and, Bool.false_and, Bool.and_true, Bool.and_false, Bool.and_self, Bool.not_true, Bool.not_false] at ez
          (try simp only [Cf, Ce, Cd, Cc, Cb, Ca, B9, B0]); simp (maxSteps := 10000000) (disch := omega) only [Ac, hki, s0, s1, s2, s3b, ez, go_sem])
    have s3 : Cv e.off = true := by simpa using s3'
    have s3b := hso.symm.trans s3
    first
     | exact absurd s3b (by decide)
     | ((try simp only [Cf, Ce, Cd, Cc, Cb, Ca, B9, B0]); simp (maxSteps := 10000000) (disch := omega) only [Ac, hki, s0, s1, s2, go_sem]
        refine Aa (Alm e) ?_;simp only [s0, s1, s2, s3, decide_true, decide_false, Bool.true_and, Bool.false_and, Bool.and_true, Bool.and_false, Bool.and_self, Bool.not_true, Bool.not_false] at ez
        (try simp only [Cf, Ce, Cd, Cc, Cb, Ca, B9, B0]); simp (maxSteps := 10000000) (disch := omega) only [s0, s1, s2, ez, go_sem])
  · have ez := Azh hB hD hki;by_cases s0' : Bg e.dep e.orep e.oseq = false
    · simp only [s0', decide_true, decide_false, Bool.true_and, Bool.false_and, Bool.and_true, Bool.and_false, Bool.and_self, Bool.not_true, Bool.not_false] at ez
      (try simp only [Cf, Ce, Cd, Cc, Cb, Ca, B9, B0]); simp (maxSteps := 10000000) (disch := omega) only [Ac, hki, s0', ez, go_sem]
    have s0 : Bg e.dep e.orep e.oseq = true := by simpa using s0'
    by_cases s1' : Hd e.dep e.base.l = false
    · simp only [s0, s1', decide_true, decide_false, Bool.true_and, Bool.false_and, Bool.and_true, Bool.and_false, Bool.and_self, Bool.not_true, Bool.not_false] at ez
      (try simp only [Cf, Ce, Cd, Cc, Cb, Ca, B9, B0]); simp (maxSteps := 10000000) (disch := omega) only [Ac, hki, s0, s1', ez, go_sem]
    have s1 : Hd e.dep e.base.l = true := by simpa using s1'
    by_cases s2 : (2 : Int) ≤ (e.base.l.length : Int);rotate_left
    · simp only [s0, s1, s2, decide_true, decide_false, Bool.true_and, Bool.false_and, Bool.and_true, Bool.and_false, Bool.and_self, Bool.not_true, Bool.not_false] at ez
      (try simp only [Cf, Ce, Cd, Cc, Cb, Ca, B9, B0]); simp (maxSteps := 10000000) (disch := omega) only [Ac, hki, s0, s1, s2, ez, go_sem]
    by_cases s3 : (e.base.l.length : Int) ≤ 8;rotate_left
    · simp only [s0, s1, s2, s3, decide_true, decide_false, Bool.true_and, Bool.false_and, Bool.and_true, Bool.and_false, Bool.and_self, Bool.not_true, Bool.not_false] at ez
      (try simp only [Cf, Ce, Cd, Cc, Cb, Ca, B9, B0]); simp (maxSteps := 10000000) (disch := omega) only [Ac, hki, s0, s1, s2, s3, ez, go_sem]
    by_cases s4 : (e.data.length : Int) ≤ 200;rotate_left
    · simp only [s0, s1, s2, s3, s4, decide_true, decide_false, Bool.true_and, Bool.false_and, Bool.and_true, Bool.and_false, Bool.and_self, Bool.not_true, Bool.not_false] at ez
      (try simp only [Cf, Ce, Cd, Cc, Cb, Ca, B9, B0]); simp (maxSteps := 10000000) (disch := omega) only [Ac, hki, s0, s1, s2, s3, s4, ez, go_sem]
    (try simp only [Cf, Ce, Cd, Cc, Cb, Ca, B9, B0]); simp (maxSteps := 10000000) (disch := omega) only [Ac, hki, s0, s1, s2, s3, s4, go_sem]
    refine Aa (Aln e) ?_;simp only [s0, s1, s2, s3, s4, decide_true, decide_false, Bool.true_and, Bool.false_and, Bool.and_true, Bool.and_false, Bool.and_self, Bool.not_true, Bool.not_false] at ez
    (try simp only [Cf, Ce, Cd, Cc, Cb, Ca, B9, B0]); simp (maxSteps := 10000000) (disch := omega) only [s0, s1, s2, s3, s4, ez, go_sem]
  · have ez := Azg hB hD hki;by_cases s0' : Bg e.dep e.orep e.oseq = false
    · simp only [s0', decide_true, decide_false, Bool.true_and, Bool.false_and, Bool.and_true, Bool.and_false, Bool.and_self, Bool.not_true, Bool.not_false] at ez
      (try simp only [Cf, Ce, Cd, Cc, Cb, Ca, B9, B0]); simp (maxSteps := 10000000) (disch := omega) only [Ac, hki, s0', ez, go_sem]
    have s0 : Bg e.dep e.orep e.oseq = true := by simpa using s0'
    by_cases s1' : Ef e.gone.l 8 e.dep = false
    · first
       | exact absurd (hgl.symm.trans s1') (by decide)
       | (have s1b := hgl.symm.trans s1'
          simp only [s0, s1', decide_true, decide_false, Bool.true_and, Bool.false_and, Bool.and_true, Bool.and_false, Bool.and_self, Bool.not_true, Bool.not_false] at ez
          (try simp only [Cf, Ce, Cd, Cc, Cb, Ca, B9, B0]); simp (maxSteps := 10000000) (disch := omega) only [Ac, hki, s0, s1b, ez, go_sem])
    have s1 : Ef e.gone.l 8 e.dep = true := by simpa using s1'
    have s1b := hgl.symm.trans s1
    first
     | exact absurd s1b (by decide)
     | ((try simp only [Cf, Ce, Cd, Cc, Cb, Ca, B9, B0]); simp (maxSteps := 10000000) (disch := omega) only [Ac, hki, s0, s1b, go_sem]
        refine Aa (Aqo e) ?_;simp only [s0, s1, decide_true, decide_false, Bool.true_and, Bool.false_and, Bool.and_true, Bool.and_false, Bool.and_self, Bool.not_true, Bool.not_false] at ez
        (try simp only [Cf, Ce, Cd, Cc, Cb, Ca, B9, B0]); simp (maxSteps := 10000000) (disch := omega) only [s0, s1b, ez, go_sem])
  · have ez := Azf hB hD hki;by_cases s0' : Bg e.dep e.orep e.oseq = false
    · simp only [s0', decide_true, decide_false, Bool.true_and, Bool.false_and, Bool.and_true, Bool.and_false, Bool.and_self, Bool.not_true, Bool.not_false] at ez
      (try simp only [Cf, Ce, Cd, Cc, Cb, Ca, B9, B0]); simp (maxSteps := 10000000) (disch := omega) only [Ac, hki, s0', ez, go_sem]
    have s0 : Bg e.dep e.orep e.oseq = true := by simpa using s0'
    by_cases s1' : Ef e.gone.l 8 e.dep = false
    · first
       | exact absurd (hgl.symm.trans s1') (by decide)
       | (have s1b := hgl.symm.trans s1'
          simp only [s0, s1', decide_true, decide_false, Bool.true_and, Bool.false_and, Bool.and_true, Bool.and_false, Bool.and_self, Bool.not_true, Bool.not_false] at ez
          (try simp only [Cf, Ce, Cd, Cc, Cb, Ca, B9, B0]); simp (maxSteps := 10000000) (disch := omega) only [Ac, hki, s0, s1b, ez, go_sem])
    have s1 : Ef e.gone.l 8 e.dep = true := by simpa using s1'
    have s1b := hgl.symm.trans s1
    first
     | exact absurd s1b (by decide)
     | (by_cases s2' : C4 e = false
        · first
           | exact absurd (hpl.symm.trans s2') (by decide)
           | (have s2b := hpl.symm.trans s2'
              simp only [s0, s1, s2', decide_true, decide_false, Bool.true_and, Bool.false_and, Bool.and_true, Bool.and_false, Bool.and_self, Bool.not_true, Bool.not_false] at ez
              (try simp only [Cf, Ce, Cd, Cc, Cb, Ca, B9, B0]); simp (maxSteps := 10000000) (disch := omega) only [Ac, hki, s0, s1b, s2b, ez, go_sem])
        have s2 : C4 e = true := by simpa using s2'
        have s2b := hpl.symm.trans s2
        first
         | exact absurd s2b (by decide)
         | ((try simp only [Cf, Ce, Cd, Cc, Cb, Ca, B9, B0]); simp (maxSteps := 10000000) (disch := omega) only [Ac, hki, s0, s1b, s2b, go_sem]
            refine Aa (Abi _) ?_;by_cases s3' : Dg e.name = false
            · simp only [s0, s1, s2, s3', decide_true, decide_false, Bool.true_and, Bool.false_and, Bool.and_true, Bool.and_false, Bool.and_self, Bool.not_true, Bool.not_false] at ez
              (try simp only [Cf, Ce, Cd, Cc, Cb, Ca, B9, B0]); simp (maxSteps := 10000000) (disch := omega) only [Ac, s0, s1b, s2b, s3', ez, go_sem]
            have s3 : Dg e.name = true := by simpa using s3'
            (try simp only [Cf, Ce, Cd, Cc, Cb, Ca, B9, B0]); simp (maxSteps := 10000000) (disch := omega) only [Ac, s0, s1b, s2b, s3, go_sem]
            refine Aa (All e) ?_;simp only [s0, s1, s2, s3, decide_true, decide_false, Bool.true_and, Bool.false_and, Bool.and_true, Bool.and_false, Bool.and_self, Bool.not_true, Bool.not_false] at ez
            (try simp only [Cf, Ce, Cd, Cc, Cb, Ca, B9, B0]); simp (maxSteps := 10000000) (disch := omega) only [s0, s1b, s2b, s3, ez, go_sem]))
  · have ez := Aze hB hD hki;by_cases s0 : 1 ≤ e.ward;rotate_left
    · simp only [s0, decide_true, decide_false, Bool.true_and, Bool.false_and, Bool.and_true, Bool.and_false, Bool.and_self, Bool.not_true, Bool.not_false] at ez
      (try simp only [Cf, Ce, Cd, Cc, Cb, Ca, B9, B0]); simp (maxSteps := 10000000) (disch := omega) only [Ac, hki, s0, ez, go_sem]
    by_cases s1 : e.ward ≤ 4;rotate_left
    · simp only [s0, s1, decide_true, decide_false, Bool.true_and, Bool.false_and, Bool.and_true, Bool.and_false, Bool.and_self, Bool.not_true, Bool.not_false] at ez
      (try simp only [Cf, Ce, Cd, Cc, Cb, Ca, B9, B0]); simp (maxSteps := 10000000) (disch := omega) only [Ac, hki, s0, s1, ez, go_sem]
    (try simp only [Cf, Ce, Cd, Cc, Cb, Ca, B9, B0]); simp (maxSteps := 10000000) (disch := omega) only [Ac, hki, s0, s1, go_sem]
    refine Aa (Aw2 e) ?_;simp only [s0, s1, decide_true, decide_false, Bool.true_and, Bool.false_and, Bool.and_true, Bool.and_false, Bool.and_self, Bool.not_true, Bool.not_false] at ez
    (try simp only [Cf, Ce, Cd, Cc, Cb, Ca, B9, B0]); simp (maxSteps := 10000000) (disch := omega) only [s0, s1, ez, go_sem]
  · have ez := Azd hB hD hki
    (try simp only [Cf, Ce, Cd, Cc, Cb, Ca, B9, B0]); simp (maxSteps := 10000000) (disch := omega) only [Ac, hki, go_sem]
    refine Aa (Aw3 e) ?_;simp only [decide_true, decide_false, Bool.true_and, Bool.false_and, Bool.and_true, Bool.and_false, Bool.and_self, Bool.not_true, Bool.not_false] at ez
    (try simp only [Cf, Ce, Cd, Cc, Cb, Ca, B9, B0]); simp (maxSteps := 10000000) (disch := omega) only [ez, go_sem]
end Go.Proofs.YthmjebkldgdeiaaGreat.Fw
namespace Go.Proofs.YthmjebkldgdeiaaGreat.Fw
open Go.RowKit Go.Proofs
def zs (n : Nat) : List UInt8 := List.replicate n 0
theorem R7 (n : Nat) : (zs n).length = n := by simp [zs]
theorem Aig (n : Nat) : zs (n + 1) = zs n ++ [0] := by simp [zs, List.replicate_succ']
theorem A0w : zs 0 = [] := rfl
theorem A6g (l : List UInt8) : Be l ++ [[.i .u8 0]] = Be (l ++ [0]) := by
 rw [← Un]; rfl
def Aap (n : Int) (k : Nat) : FS := mk [(4, .pv (.i .i64 k)), (3, .pv (.s (zs k))), (0, .pv (.i .i64 n))] []
theorem Ai7 (n : Int) (hn : n ≤ 1000) {h d} : FunOk Tryz.prog 165 [.pv (.i .i64 n)] h d (.pv (.s (zs n.toNat))) [] := by
 refine Al Af fn165 (by simp) rfl rfl fun F => ?_;simp (disch := omega) only [ir165, go_sem];refine A0 Af (Aap n) (fun k => k ≤ n.toNat) (fun k => n.toNat - k) 0 (by omega) (Ah ?_ ?_) fun k hk => ?_
 · simp (disch := omega) only [A0w, go_sem]
 · simp (disch := omega) only [go_sem]
 have hl := R7 k;by_cases hlt : (k : Int) < n
 · simp (disch := omega) only [Aap, hl, go_sem];refine Ad (k + 1) _ _ rfl (by omega) (by omega) ?_ ?_
   · simp (disch := omega) only [Aig, go_sem]
   · simp (disch := omega) only [go_sem]
 · obtain rfl : k = n.toNat := by omega
   simp (disch := omega) only [Aap, go_sem]
def I2 (data : List UInt8) (o : Nat) (s : List UInt8) : List UInt8 :=
 (data ++ zs (o + s.length - data.length)).take o ++ s ++ (data ++ zs (o + s.length - data.length)).drop (o + s.length)
def D9 (data : List UInt8) (off : Int) (s : List UInt8) : Prop := off < 0 ∨ 200 < off ∨ 200 < (data.length : Int) ∨ 200 - off < s.length
open Classical in
noncomputable def Nb (data : List UInt8) (off : Int) (s : List UInt8) : SV := if D9 data off s then .tup [.pv (.s []), .pv (.i .i64 4)] else .tup [.pv (.s (I2 data off.toNat s)), .pv (.i .i64 0)]
theorem Ej {data off s} (h : D9 data off s) : Nb data off s = .tup [.pv (.s []), .pv (.i .i64 4)] := by unfold Nb; rw [if_pos h]
theorem Jn {data off s} (h : ¬ D9 data off s) : Nb data off s = .tup [.pv (.s (I2 data off.toNat s)), .pv (.i .i64 0)] := by unfold Nb; rw [if_neg h]
def Aaq (data s : List UInt8) (o k : Nat) : FS := mk [(8, .os 60), (2, .pv (.s s)), (1, .pv (.i .i64 o))] [(60, some (.row 1 (Be (data ++ zs k))))]
set_option maxHeartbeats 2000000 in
theorem Ai8 (data s : List UInt8) (off : Int) {h d} : FunOk Tryz.prog 161 [.pv (.s data), .pv (.i .i64 off), .pv (.s s)] h d (Nb data off s) [] := by
 refine Al Af fn161 (by simp) rfl (by unfold Nb; split <;> rfl) fun F => ?_;by_cases h1 : off < 0
 · rw [Ej (.inl h1)];simp (disch := omega) only [ir161, go_sem]
 by_cases h2 : 200 < off
 · rw [Ej (.inr (.inl h2))];simp (disch := omega) only [ir161, go_sem]
 by_cases h3 : 200 < (data.length : Int)
 · rw [Ej (.inr (.inr (.inl h3)))];simp (disch := omega) only [ir161, go_sem]
 by_cases h4 : 200 - off < (s.length : Int)
 · rw [Ej (.inr (.inr (.inr h4)))];simp (disch := omega) only [ir161, go_sem]
 have hok : ¬ D9 data off s := by unfold D9; omega
 obtain ⟨o, rfl⟩ : ∃ o : Nat, off = o := ⟨off.toNat, by omega⟩
 rw [Jn hok];simp (disch := omega) only [ir161, go_sem];refine A0 Af (Aaq data s o) (fun k => k ≤ o + s.length - data.length) (fun k => o + s.length - data.length - k) 0 (by omega) (D6 28 60 (by decide) rfl (Ah ?_ ?_)) fun k hk => ?_
 · simp (disch := omega) only [go_sem]
 · simp (disch := omega) only [A0w, go_sem]
 have hl : (data ++ zs k).length = data.length + k := by simp [zs]
 by_cases hlt : data.length + k < o + s.length
 · simp (disch := omega) only [Aaq, hl, A6g, go_sem];refine ⟨k + 1, by omega, by omega, D6 38 60 (by decide) rfl (Ah ?_ ?_)⟩
   · simp (disch := omega) only [go_sem]
   · simp (disch := omega) only [Aig, List.append_assoc, go_sem]
 · obtain rfl : k = o + s.length - data.length := by omega
   have hp : I2 data o s = (data ++ zs (o + s.length - data.length)).take o ++ s ++ (data ++ zs (o + s.length - data.length)).drop (o + s.length) := rfl;generalize hX : data ++ zs (o + s.length - data.length) = X at *;have hle : o + s.length ≤ X.length := by omega
   have e1 : min s.length (X.length - o) = s.length := by omega
   have e2 : s.take (X.length - o) = s := List.take_of_length_le (by omega);simp (disch := omega) only [Aaq, hX, e1, e2, hp, go_sem]
set_option maxHeartbeats 2000000 in
theorem Adt (data s : List UInt8) (off : Int) (hs : s.length ≤ 1000) {h d} : FunOk Tryz.prog 149 [.pv (.s data), .pv (.i .i64 off), .pv (.s s)] h d (Nb data off s) [] := by
 refine Al Af fn149 (by simp) rfl (by unfold Nb; split <;> rfl) fun F => ?_;by_cases h1 : off < 0
 · rw [Ej (.inl h1)];simp (disch := omega) only [ir149, go_sem]
 by_cases h2 : 200 < off
 · rw [Ej (.inr (.inl h2))];simp (disch := omega) only [ir149, go_sem]
 by_cases h3 : 200 < (data.length : Int)
 · rw [Ej (.inr (.inr (.inl h3)))];simp (disch := omega) only [ir149, go_sem]
 by_cases h4 : 200 < off + (s.length : Int)
 · rw [Ej (.inr (.inr (.inr (by omega))))];simp (disch := omega) only [ir149, go_sem]
 have hok : ¬ D9 data off s := by unfold D9; omega
 obtain ⟨o, rfl⟩ : ∃ o : Nat, off = o := ⟨off.toNat, by omega⟩
 rw [Jn hok];simp (disch := omega) only [ir149, go_sem];refine Aa (Ai7 _ (by omega)) ?_;have hp : I2 data o s = (data ++ zs (o + s.length - data.length)).take o ++ s ++ (data ++ zs (o + s.length - data.length)).drop (o + s.length) := rfl;have e1 : ((o : Int) + (s.length : Int) - (data.length : Int)).toNat = o + s.length - data.length := by omega
 have e2 : ((o : Int) + (s.length : Int)).toNat = o + s.length := by omega
 have hl : (data ++ zs (o + s.length - data.length)).length = data.length + (o + s.length - data.length) := by simp [zs]
 have hz := R7 (o + s.length - data.length);rw [e1];generalize hX : data ++ zs (o + s.length - data.length) = X at *;simp (disch := omega) only [hX, e2, hp, List.length_append, List.length_take, List.length_drop, hz, go_sem]
def O5 (data : List UInt8) (n : Nat) : List UInt8 := if n < data.length then data.take n else data ++ zs (n - data.length)
open Classical in
noncomputable def Ui (data : List UInt8) (n : Int) : SV := if n < 0 ∨ 200 < n then .tup [.pv (.s []), .pv (.i .i64 4)] else .tup [.pv (.s (O5 data n.toNat)), .pv (.i .i64 0)]
theorem Jq {data n} (h : n < 0 ∨ 200 < n) : Ui data n = .tup [.pv (.s []), .pv (.i .i64 4)] := by unfold Ui; rw [if_pos h]
theorem Lj {data n} (h : ¬ (n < 0 ∨ 200 < n)) : Ui data n = .tup [.pv (.s (O5 data n.toNat)), .pv (.i .i64 0)] := by unfold Ui; rw [if_neg h]
theorem Ban (n : Nat) : List.replicate n [PV.i .u8 0] = Be (zs n) := by simp [zs, Be]
set_option maxHeartbeats 2000000 in
theorem A0k (data : List UInt8) (n : Int) (hd : data.length ≤ 1000) {h d} : FunOk Tryz.prog 160 [.pv (.s data), .pv (.i .i64 n)] h d (Ui data n) [] := by
 refine Al Af fn160 (by simp) rfl (by unfold Ui; split <;> rfl) fun F => ?_;by_cases h1 : n < 0
 · rw [Jq (.inl h1)];simp (disch := omega) only [ir160, go_sem]
 by_cases h2 : 200 < n
 · rw [Jq (.inr h2)];simp (disch := omega) only [ir160, go_sem]
 rw [Lj (by omega)];obtain ⟨o, rfl⟩ : ∃ o : Nat, n = o := ⟨n.toNat, by omega⟩
 by_cases hlt : o < data.length
 · have e : O5 data o = data.take o := by unfold O5; rw [if_pos hlt]
   simp (disch := omega) only [ir160, e, go_sem]
 · have e : O5 data o = data ++ zs (o - data.length) := by unfold O5; rw [if_neg hlt]
   have e1 : ((o : Int) - (data.length : Int)).toNat = o - data.length := by omega
   have hz := R7 (o - data.length);simp (disch := omega) only [ir160, e, e1, Ban, hz, go_sem]
set_option maxHeartbeats 2000000 in
theorem Aq4 (data : List UInt8) (n : Int) (hd : data.length ≤ 1000) {h d} : FunOk Tryz.prog 148 [.pv (.s data), .pv (.i .i64 n)] h d (Ui data n) [] := by
 refine Al Af fn148 (by simp) rfl (by unfold Ui; split <;> rfl) fun F => ?_;by_cases h1 : n < 0
 · rw [Jq (.inl h1)];simp (disch := omega) only [ir148, go_sem]
 by_cases h2 : 200 < n
 · rw [Jq (.inr h2)];simp (disch := omega) only [ir148, go_sem]
 rw [Lj (by omega)];obtain ⟨o, rfl⟩ : ∃ o : Nat, n = o := ⟨n.toNat, by omega⟩
 have hz := R7 (o - data.length);have e1 : ((o : Int) - (data.length : Int)).toNat = o - data.length := by omega
 have e : (data ++ zs (o - data.length)).take o = O5 data o := by
  unfold O5;split
  · rw [show o - data.length = 0 by omega, A0w, List.append_nil]
  · exact List.take_of_length_le (by simp [zs]; omega)
 simp (disch := omega) only [ir148, go_sem];refine Aa (Ai7 _ (by omega)) ?_;simp (disch := omega) only [e1, e, hz, List.length_append, go_sem]
theorem A6v {m n lo hi : Nat} {es fs : List (List PV)} {h} (hm : h m = some (.row 11 fs)) (hn : h n = some (.row 11 es)) (hne : m ≠ n) (hfs : fs ≠ []) (hes : es ≠ []) (hlt : lo < hi) : Aag Tryz.prog 173 [.os m, .ov n 11 lo hi] h (.pv (.b false)) := by
 intro F N ρ s a w hR hh vs hc;simp only [ConcL] at hc;obtain ⟨v, us, rfl, hv, u, us', rfl, hu, rfl⟩ := hc;have hsm := (hh m (by simp [A3, tn])).trans hm;have hsn := (hh n (by simp [A3, tn])).trans hn;refine ⟨.bool false, ?_, E4⟩;rw [run_callFunc_extern (fn := (Tryz.prog.funcs[173]?).getD default) (by kernel_rfl) (by kernel_rfl) (by kernel_rfl) (by kernel_rfl) (e := Extern.SlicesOverlaps.overlaps #[114, 114] #[4]) (by kernel_rfl)];rw [Jw (tS := 114) (e := 155) (by kernel_rfl) (by kernel_rfl) (by decide) hR hsm hsn hne hfs hes hlt hv hu];rfl
set_option maxHeartbeats 4000000 in
theorem Adv (es : List (List PV)) (cs : List PV) (i : Nat) (hi : i ≤ es.length) (hb : es.length ≤ 1000) (hes : ∀ c ∈ es, c.length = 11) (hcs : cs.length = 11) {h d} (h1 : h 16 = some (.row 11 es)) (h2 : h 55 = some (.row 11 [cs])) : FunOk Tryz.prog 163 [.os 16, .pv (.i .i64 i), .os 55] h d (.os d) [.del 16, .del 55, .new d (.row 11 (es.take i ++ cs :: es.drop i))] := by
 refine Ab4 Af fn163 (by simp) rfl fun F => ?_;simp only [C0];by_cases he : i = es.length
 · subst he;have e1 : es.take es.length ++ cs :: es.drop es.length = es ++ [cs] := by simp
   rw [e1];simp (disch := omega) only [ir163, h1, h2, go_sem]
 · have hne : es ≠ [] := by intro e; subst e; simp at hi; exact he (by simpa using hi)
   simp (disch := omega) only [ir163, h1, h2, go_sem];intro c hc;by_cases hcap : c < es.length + 1
   · have hp : ((c : Int) < (es.length : Int) + ((1 : Nat) : Int)) = True := eq_true (by omega);have ek : ((es.length : Int) + ((1 : Nat) : Int) - (i : Int)).toNat = es.length + 1 - i := by omega
     (try simp only [Cf, Ce, Cd, Cc, Cb, Ca, B9, B0]); simp (disch := omega) only [hp, ek, go_sem]
     generalize hT : List.take i es ++ List.replicate (es.length + 1 - i) _ = T;have hTl : T.length = es.length + 1 := by rw [← hT]; simp; omega
     have t1 : T.take i = es.take i := by
      rw [← hT, List.take_append_of_le_length (by simp; omega), List.take_take, Nat.min_self]
     have hi' : (es.take i).length = i := by simp; omega
     have m1 : min 1 (es.length + 1 - i) = 1 := by omega
     have m2 : [cs].take (es.length + 1 - i) = [cs] := List.take_of_length_le (by simp; omega);have hU : (es.take i ++ [cs] ++ T.drop (i + 1)).length = es.length + 1 := by simp [hTl]; omega
     have e1 : ((i : Int) + ((1 : Nat) : Int)).toNat = i + 1 := by omega
     have u1 : (es.take i ++ [cs] ++ T.drop (i + 1)).take (i + 1) = es.take i ++ [cs] := by
      rw [List.take_append_of_le_length (by simp; omega)];exact List.take_of_length_le (by simp; omega)
     have u2 : (es.take es.length).drop i = es.drop i := by rw [List.take_length]
     have u3 : min (es.drop i).length (es.length + 1 - (i + 1)) = es.length - i := by simp
     have u4 : (es.drop i).take (es.length + 1 - (i + 1)) = es.drop i := List.take_of_length_le (by simp);have u5 : (es.take i ++ [cs] ++ T.drop (i + 1)).drop (i + 1 + (es.length - i)) = [] := List.drop_of_length_le (by rw [hU]; omega);have u6 : es.take i ++ cs :: es.drop i = es.take i ++ [cs] ++ es.drop i := by simp
     simp only [hTl, t1, m1, m2, e1, List.length_singleton];simp only [hU, u1, u2, u3, u4, u5, u6, List.append_nil];exact ⟨by omega, by omega, trivial⟩
   · have hp : ((c : Int) < (es.length : Int) + ((1 : Nat) : Int)) = False := eq_false (by omega)
     (try simp only [Cf, Ce, Cd, Cc, Cb, Ca, B9, B0]); simp (disch := omega) only [hp, go_sem]
     intro g hg hgs;have hg1 : g.length = 1 := by omega
     have e1 : ((i : Int) + ((1 : Nat) : Int)).toNat = i + 1 := by omega
     have hE : (es ++ g).length = es.length + 1 := by simp [hg1]
     refine ⟨by omega, ?_⟩;rw [e1];refine Rx (A6v (es := es ++ g) (fs := [cs]) rfl rfl (by decide) (by simp) (by simp [hne]) (by omega)) ?_;have v1 : ((es ++ g).take (es ++ g).length).drop i = (es ++ g).drop i := by rw [List.take_length]
     have v2 : min ((es ++ g).drop i).length ((es ++ g).length - (i + 1)) = es.length - i := by simp [hg1]; omega
     have v3 : ((es ++ g).drop i).take ((es ++ g).length - (i + 1)) = es.drop i := by
      rw [hE, List.drop_append_of_le_length hi, show es.length + 1 - (i + 1) = (es.drop i).length from by simp];exact List.take_left
     have v4 : (es ++ g).drop (i + 1 + (es.length - i)) = [] := List.drop_of_length_le (by omega);have v5 : ((es ++ g).take (i + 1) ++ es.drop i).length = es.length + 1 := by simp [hg1]; omega
     have v6 : ((es ++ g).take (i + 1) ++ es.drop i).take i = es.take i := by
      rw [List.take_append_of_le_length (by simp; omega), List.take_take, Nat.min_eq_left (by omega), List.take_append_of_le_length hi]
     have v7 : ((es ++ g).take (i + 1) ++ es.drop i).drop (i + 1) = es.drop i := by
      rw [List.drop_append_of_le_length (by simp; omega), List.drop_of_length_le (by simp; omega), List.nil_append]
     have m1 : min 1 (es.length + 1 - i) = 1 := by omega
     have m2 : [cs].take (es.length + 1 - i) = [cs] := List.take_of_length_le (by simp; omega);have u6 : es.take i ++ cs :: es.drop i = es.take i ++ [cs] ++ es.drop i := by simp
     simp (disch := omega) only [e1, v1, v2, v3, v4, v5, v6, v7, m1, m2, u6, go_sem]
theorem Aw8 {x : SV} {f : Bool} {z : Nat} {es : List (List PV)} {h d} (hx : Cw h [x] = [.pv (.sl f z es)]) (hl : Bj [x] = true) (hz : es = [] ∨ z = 11) (hb : es.length ≤ 1000) (hs : SV.closedL [x] = true) :
 FunOk Tryz.prog 95 [x] h d (.os d) [.new d (.row 11 es)] := by
 refine Aex Af fn95 (by simp) hl (.inl hs) fun F => ?_;rw [hx];simp (disch := omega) only [ir95, go_sem];intro b hb';cases b
 · simp (disch := omega) only [go_sem]
 · have he : es = [] := by
    cases es with
    | nil => rfl
    | cons c l => exact absurd (hb' (by simp)) (by simp)
   subst he
   (try simp only [Cf, Ce, Cd, Cc, Cb, Ca, B9, B0]); simp (disch := omega) only [go_sem]
   decide
structure Ver where
 rep : Int
 seq : Nat
 data : List UInt8
 gone : Vc
def Bf (v : Ver) : List PV := .i .i64 v.rep :: .i .u32 v.seq :: .s v.data :: vE v.gone
def Qd : List Ver → Int → Nat → Nat → Nat × Bool
 | [], _, _, k => (k, false)
 | v :: l, r, q, k => if v.rep = r ∧ v.seq = q then (k, true) else if Cl r q v.rep v.seq = true then (k, false) else Qd l r q (k + 1)
theorem C1 (v : Ver) (K : KK) : LoadK (some (Bf v)) 0 2 true K = K (.vec 2 [.i .i64 v.rep, .i .u32 v.seq]) [] := by
 simp only [LoadK, Hv, eq_iff_iff];exact ⟨fun h => h.2.2, fun h => ⟨by simp [Bf], .inl trivial, h⟩⟩
theorem L6 (v : Ver) (K : KK) : LoadK (some (Bf v)) 0 11 true K = K (.vec 11 (Bf v)) [] := by
 simp only [LoadK, Hv, eq_iff_iff];have e : ((Bf v).drop 0).take 11 = Bf v := List.take_of_length_le (by simp [Bf, vE, Cj]);rw [e];exact ⟨fun h => h.2.2, fun h => ⟨by simp [Bf, vE, Cj], .inl trivial, h⟩⟩
theorem G7 (r : Int) (q : Nat) : El [K1.int .i64, K1.int .u32] [.i .i64 r, .i .u32 q] = True := eq_true rfl
def Awa (f : Bool) (l : List Ver) (r : Int) (q k : Nat) : FS := mk [(10, .pv (.i .i64 k)), (9, .pv (.i .i64 l.length)), (8, .pv (.sl f 11 (l.map Bf))), (3, .p 3 0), (0, .pv (.sl f 11 (l.map Bf)))] [(3, some (.var (.vec 2 [.i .i64 r, .i .u32 q])))]
set_option maxHeartbeats 1000000 in
theorem A2y {x : SV} {f : Bool} {l : List Ver} (r : Int) (q : Nat) {h d} (hx : Cw h [x, .vec 2 [.i .i64 r, .i .u32 q]] = [.pv (.sl f 11 (l.map Bf)), .vec 2 [.i .i64 r, .i .u32 q]]) (hl : Bj [x, .vec 2 [.i .i64 r, .i .u32 q]] = true) (hn : l.length ≤ 1000) :
 FunOk Tryz.prog 162 [x, .vec 2 [.i .i64 r, .i .u32 q]] h d (.tup [.pv (.i .i64 (Qd l r q 0).1), .pv (.b (Qd l r q 0).2)]) [] := by
 refine C5 Af fn162 (by simp) hl rfl fun F => ?_;rw [hx];simp (disch := omega) only [ir162, List.length_map, go_sem];refine A0 Af (Awa f l r q) (fun k => k ≤ l.length ∧ Qd l r q 0 = Qd (l.drop k) r q k) (fun k => l.length - k) 0 (by simp) (Ah ?_ ?_) fun k hk => ?_
 · simp (disch := omega) only [go_sem]
 · simp (disch := omega) only [go_sem]
 obtain ⟨hk1, hk2⟩ := hk;by_cases hlt : k < l.length
 · have hd : l.drop k = l[k] :: l.drop (k + 1) := List.drop_eq_getElem_cons hlt;have he : (l.map Bf)[k]? = some (Bf l[k]) := by simp [hlt]
   rw [hd] at hk2;generalize l[k] = v at *;simp only [Qd] at hk2;by_cases hid : v.rep = r ∧ v.seq = q
   · rw [if_pos hid] at hk2;have hp := Gw hid;simp (disch := omega) only [Awa, List.length_map, he, L6, C1, G7, hp, hk2, go_sem]
   · rw [if_neg hid] at hk2;have hp := Fg hid;simp (disch := omega) only [Awa, List.length_map, he, L6, C1, G7, hp, go_sem];refine Aa (Nf _ _ _ _) ?_;by_cases hl : Cl r q v.rep v.seq = true
     · rw [if_pos hl] at hk2;simp (disch := omega) only [hl, hk2, go_sem]
     · rw [if_neg hl] at hk2;have hl' : Cl r q v.rep v.seq = false := by simpa using hl
       simp (disch := omega) only [hl', go_sem];refine Ad (k + 1) _ _ rfl ⟨by omega, hk2⟩ (by omega) ?_ ?_
       · simp (disch := omega) only [List.length_map, go_sem]
       · simp (disch := omega) only [go_sem]
 · have : k = l.length := by omega
   subst this;rw [List.drop_length] at hk2;simp only [Qd] at hk2;rw [hk2]
   (try simp only [Cf, Ce, Cd, Cc, Cb, Ca, B9, B0]); simp (disch := omega) only [Awa, List.length_map, go_sem]
theorem Nm (v : Ver) (K : KK) : LoadK (some (Bf v)) 3 8 true K = K (.vec 8 (vE v.gone)) [] := by
 simp only [LoadK, Hv, eq_iff_iff];have e : ((Bf v).drop 3).take 8 = vE v.gone := List.take_of_length_le (by simp [Bf, vE, Cj]);rw [e];exact ⟨fun h => h.2.2, fun h => ⟨by simp [Bf, vE, Cj], .inl trivial, h⟩⟩
theorem Hh (v : Ver) : (Bf v).length = 11 := by simp [Bf, vE, Cj]
theorem Yw (l : List Ver) : ∀ c ∈ l.map Bf, c.all PV.flat = true := by
 intro c hc;obtain ⟨v, _, rfl⟩ := List.mem_map.1 hc;simp [Bf, vE, Cj, PV.flat]
def Bp : List Ver → Int → Nat → Option Ver
 | [], _, _ => none
 | v :: l, r, q => if v.rep = r ∧ v.seq = q then some v else Bp l r q
def Aiv (f : Bool) (l : List Ver) (r : Int) (q k : Nat) : FS := mk [(5, .pv (.i .i64 k)), (0, .pv (.sl f 11 (l.map Bf))), (3, .p 3 0)] [(3, some (.var (.vec 2 [.i .i64 r, .i .u32 q])))]
theorem A0j {x : SV} {f : Bool} {l : List Ver} (r : Int) (q : Nat) {h d} (hx : Cw h [x, .vec 2 [.i .i64 r, .i .u32 q]] = [.pv (.sl f 11 (l.map Bf)), .vec 2 [.i .i64 r, .i .u32 q]]) (hl : Bj [x, .vec 2 [.i .i64 r, .i .u32 q]] = true) (hn : l.length ≤ 1000) :
 FunOk Tryz.prog 150 [x, .vec 2 [.i .i64 r, .i .u32 q]] h d (.pv (.b (Bp l r q).isSome)) [] := by
 refine C5 Af fn150 (by simp) hl rfl fun F => ?_;rw [hx];simp (disch := omega) only [ir150, List.length_map, go_sem];refine A0 Af (Aiv f l r q) (fun k => k ≤ l.length ∧ Bp l r q = Bp (l.drop k) r q) (fun k => l.length - k) 0 (by simp) (Ah ?_ ?_) fun k hk => ?_
 · simp (disch := omega) only [go_sem]
 · simp (disch := omega) only [go_sem]
 obtain ⟨hk1, hk2⟩ := hk;by_cases hlt : k < l.length
 · have hd : l.drop k = l[k] :: l.drop (k + 1) := List.drop_eq_getElem_cons hlt;have he : (l.map Bf)[k]? = some (Bf l[k]) := by simp [hlt]
   rw [hd] at hk2;generalize l[k] = v at *;simp only [Bp] at hk2;by_cases hid : v.rep = r ∧ v.seq = q
   · rw [if_pos hid] at hk2;have hp := Gw hid;simp (disch := omega) only [Aiv, List.length_map, he, C1, G7, hp, hk2, Option.isSome_some, go_sem]
   · rw [if_neg hid] at hk2;have hp := Fg hid;simp (disch := omega) only [Aiv, List.length_map, he, C1, G7, hp, go_sem];refine Ad (k + 1) _ _ rfl ⟨by omega, hk2⟩ (by omega) ?_ ?_
     · simp (disch := omega) only [go_sem]
     · simp (disch := omega) only [go_sem]
 · have : k = l.length := by omega
   subst this;rw [List.drop_length] at hk2;simp only [Bp] at hk2;rw [hk2];simp (disch := omega) only [Aiv, List.length_map, Option.isSome_none, go_sem]
def M8 (v : Ver) (r : Int) (q : Nat) : Prop := v.rep = r ∧ v.seq = q
instance (v : Ver) (r : Int) (q : Nat) : Decidable (M8 v r q) := inferInstanceAs (Decidable (_ ∧ _))
theorem P1 (v : Ver) (K : KK) : LoadK (some (Bf v)) 2 1 false K = K (.pv (.s v.data)) [] := by
 simp only [LoadK, Hv, eq_iff_iff];exact ⟨fun h => h.2.2, fun h => ⟨by simp [Bf], .inr trivial, h⟩⟩
theorem Rc {r : Int} {q : Nat} {r' : Int} {q' : Nat} : Cl r q r' q' = true ↔ (q < q' ∨ q = q' ∧ r < r') := by simp [Cl]
theorem P3 {r : Int} {q : Nat} {r' : Int} {q' : Nat} {r'' : Int} {q'' : Nat} (h : Cl r q r' q' = true) (k : Cl r' q' r'' q'' = true) : Cl r q r'' q'' = true := by
 rw [Rc] at *; omega
theorem Ab2 {r : Int} {q : Nat} {r' : Int} {q' : Nat} (h : Cl r q r' q' = true) : ¬ (r = r' ∧ q = q') := by
 rw [Rc] at h; omega
theorem Ayd {r : Int} {q : Nat} {r' : Int} {q' : Nat} (h : Cl r q r' q' = true) : ¬ Cl r' q' r q = true := by
 rw [Rc] at *; omega
theorem Asr {r : Int} {q : Nat} {r' : Int} {q' : Nat} (h : ¬ (r = r' ∧ q = q')) (k : ¬ Cl r q r' q' = true) : Cl r' q' r q = true := by
 rw [Rc] at *; omega
def Cu (l : List Ver) : Prop := l.Pairwise fun a b => Cl a.rep a.seq b.rep b.seq = true
theorem Iw : ∀ {l : List Ver} {r q k i}, Qd l r q k = (i, true) → k ≤ i ∧ ∃ v, l[i - k]? = some v ∧ M8 v r q ∧ Bp l r q = some v
 | [], r, q, k, i, h => by simp [Qd] at h
 | v :: l, r, q, k, i, h => by
   simp only [Qd] at h;split at h
   · rename_i hs;cases h;exact ⟨Nat.le_refl _, v, by simp, hs, by simp [Bp, hs]⟩
   · rename_i hs;split at h
     · cases h
     · obtain ⟨h1, u, h2, h3, h4⟩ := Iw h;refine ⟨by omega, u, ?_, h3, by simp only [Bp]; rw [if_neg hs]; exact h4⟩;rw [show i - k = (i - (k + 1)) + 1 by omega, List.getElem?_cons_succ]; exact h2
theorem H8 : ∀ {l : List Ver} {r q k i}, Cu l → Qd l r q k = (i, false) → k ≤ i ∧ i - k ≤ l.length ∧ Bp l r q = none ∧ (∀ v ∈ l, ¬ M8 v r q) ∧ (∀ v ∈ l.take (i - k), Cl v.rep v.seq r q = true) ∧ ∀ v ∈ l.drop (i - k), Cl r q v.rep v.seq = true
 | [], r, q, k, i, _, h => by simp only [Qd] at h; cases h; simp [Bp]
 | v :: l, r, q, k, i, hs, h => by
   obtain ⟨h1, h2⟩ := List.pairwise_cons.1 hs;simp only [Qd] at h;split at h
   · cases h
   · rename_i hn;split at h
     · rename_i hlt;cases h;have hall : ∀ u ∈ v :: l, Cl r q u.rep u.seq = true := fun u hu => by
        rcases List.mem_cons.1 hu with rfl | hu
        · exact hlt
        · exact P3 hlt (h1 u hu)
       have hno : ∀ u ∈ v :: l, ¬ M8 u r q := fun u hu e => Ab2 (hall u hu) ⟨e.1.symm, e.2.symm⟩;refine ⟨Nat.le_refl _, by simp, ?_, hno, by simp, by simpa using hall⟩;have : ∀ m : List Ver, (∀ u ∈ m, ¬ M8 u r q) → Bp m r q = none := fun m hm => by
        induction m with
        | nil => rfl
        | cons u m ih => simp only [Bp]; rw [if_neg (show ¬ (u.rep = r ∧ u.seq = q) from hm u List.mem_cons_self)]; exact ih fun x hx => hm x (List.mem_cons_of_mem _ hx)
       exact this _ hno
     · rename_i hge;obtain ⟨g1, g2, g3, g4, g5, g6⟩ := H8 h2 h;have e : i - k = (i - (k + 1)) + 1 := by omega
       refine ⟨by omega, by rw [e]; simpa using g2, by simp only [Bp]; rw [if_neg hn]; exact g3, fun u hu => ?_, ?_, ?_⟩
       · rcases List.mem_cons.1 hu with rfl | hu
         · exact hn
         · exact g4 u hu
       · rw [e, List.take_succ_cons];intro u hu;rcases List.mem_cons.1 hu with rfl | hu
         · exact Asr (fun e => hn ⟨e.1.symm, e.2.symm⟩) hge
         · exact g5 u hu
       · rw [e, List.drop_succ_cons]; exact g6
theorem P4 {l : List Ver} {r : Int} {q : Nat} : Bp l r q = none ↔ ∀ v ∈ l, ¬ M8 v r q := by
 induction l with
 | nil => simp [Bp]
 | cons u m ih =>
   simp only [Bp];by_cases h : u.rep = r ∧ u.seq = q
   · rw [if_pos h];exact ⟨fun e => (nomatch e), fun e => absurd h (e u List.mem_cons_self)⟩
   · rw [if_neg h, ih];simp only [List.mem_cons, forall_eq_or_imp];exact ⟨fun e => ⟨h, e⟩, fun e => e.2⟩
theorem Zy {l : List Ver} {r : Int} {q : Nat} {v : Ver} (h : Bp l r q = some v) : v ∈ l ∧ M8 v r q := by
 induction l with
 | nil => simp [Bp] at h
 | cons u m ih =>
   simp only [Bp] at h;by_cases e : u.rep = r ∧ u.seq = q
   · rw [if_pos e] at h; cases h; exact ⟨List.mem_cons_self, e⟩
   · rw [if_neg e] at h; exact ⟨List.mem_cons_of_mem _ (ih h).1, (ih h).2⟩
def D0 (l : List Ver) (r : Int) (q : Nat) : List UInt8 × Int := if r = 0 ∧ q = 0 then ([], 0) else match Bp l r q with
 | some v => (v.data, 0)
 | none => ([], 2)
theorem Rt {l : List Ver} {r : Int} {q : Nat} (h : r = 0 ∧ q = 0) : D0 l r q = ([], 0) := by simp [D0, h]
theorem Mh {l : List Ver} {r : Int} {q : Nat} {v : Ver} (h : ¬ (r = 0 ∧ q = 0)) (k : Bp l r q = some v) : D0 l r q = (v.data, 0) := by unfold D0; rw [if_neg h, k]
theorem Rs {l : List Ver} {r : Int} {q : Nat} (h : ¬ (r = 0 ∧ q = 0)) (k : Bp l r q = none) : D0 l r q = ([], 2) := by unfold D0; rw [if_neg h, k]
theorem A2l : Sv [.i .i64 0, .i .u32 0] [.i .i64 0, .i .u32 0] = true := by simp [Sv]
theorem A2m {r : Int} {q : Nat} (h : ¬ (r = 0 ∧ q = 0)) : Sv [.i .i64 r, .i .u32 q] [.i .i64 0, .i .u32 0] = false := Fg (q' := 0) fun e => h e
theorem Aj6 : El [K1.int .i64, K1.int .u32] [.i .i64 0, .i .u32 0] = True := eq_true rfl
set_option maxHeartbeats 1000000 in
theorem Aq3 {x : SV} {f : Bool} {l : List Ver} (r : Int) (q : Nat) {h d} (hx : Cw h [x, .vec 2 [.i .i64 r, .i .u32 q]] = [.pv (.sl f 11 (l.map Bf)), .vec 2 [.i .i64 r, .i .u32 q]]) (hl : Bj [x, .vec 2 [.i .i64 r, .i .u32 q]] = true) (hs : Cu l) (hn : l.length ≤ 1000) :
 FunOk Tryz.prog 159 [x, .vec 2 [.i .i64 r, .i .u32 q]] h d (.tup [.pv (.s (D0 l r q).1), .pv (.i .i64 (D0 l r q).2)]) [] := by
 refine C5 Af fn159 (by simp) hl rfl fun F => ?_;rw [hx];by_cases hz : r = 0 ∧ q = 0
 · have e := Rt (l := l) hz;rw [e];obtain ⟨rfl, rfl⟩ := hz;have e1 := A2l;have e2 := Aj6
   (try simp only [Cf, Ce, Cd, Cc, Cb, Ca, B9, B0]); simp (disch := omega) only [ir159, e1, e2, Int.natCast_zero, go_sem]
 · have hp := A2m hz;simp (disch := omega) only [ir159, Aj6, G7, hp, go_sem];refine Aa (A2y (l := l) r q rfl rfl hn) ?_;rcases ha : Qd l r q 0 with ⟨i, b⟩
   cases b with
   | true =>
     obtain ⟨_, v, h2, h3, h4⟩ := Iw ha;rw [Mh hz h4];have he : (l.map Bf)[i]? = some (Bf v) := by rw [List.getElem?_map, show l[i]? = some v from by simpa using h2]; rfl
     have hi : i < l.length := by
      have := (List.getElem?_eq_some_iff.1 h2).1; simpa using this
     (try simp only [Cf, Ce, Cd, Cc, Cb, Ca, B9, B0]); simp (disch := omega) only [List.length_map, he, P1, go_sem]
   | false =>
     obtain ⟨_, _, h3, _⟩ := H8 hs ha;rw [Rs hz h3]
     (try simp only [Cf, Ce, Cd, Cc, Cb, Ca, B9, B0]); simp (disch := omega) only [go_sem]
def J6 (f : Bool) (l : List Ver) (r : Int) (q k : Nat) : FS := mk [(6, .pv (.i .i64 k)), (0, .pv (.sl f 11 (l.map Bf))), (3, .p 3 0)] [(3, some (.var (.vec 2 [.i .i64 r, .i .u32 q])))]
set_option maxHeartbeats 1000000 in
theorem Ajd {x : SV} {f : Bool} {l : List Ver} (r : Int) (q : Nat) {h d} (hx : Cw h [x, .vec 2 [.i .i64 r, .i .u32 q]] = [.pv (.sl f 11 (l.map Bf)), .vec 2 [.i .i64 r, .i .u32 q]]) (hl : Bj [x, .vec 2 [.i .i64 r, .i .u32 q]] = true) (hn : l.length ≤ 1000) :
 FunOk Tryz.prog 93 [x, .vec 2 [.i .i64 r, .i .u32 q]] h d (.tup [.pv (.s (D0 l r q).1), .pv (.i .i64 (D0 l r q).2)]) [] := by
 refine C5 Af fn93 (by simp) hl rfl fun F => ?_;rw [hx];by_cases hz : r = 0 ∧ q = 0
 · have e := Rt (l := l) hz;rw [e];obtain ⟨rfl, rfl⟩ := hz
   (try simp only [Cf, Ce, Cd, Cc, Cb, Ca, B9, B0]); simp (disch := omega) only [ir93, Int.natCast_zero, go_sem]
 · have hk : ∀ K : Prop, K → K := fun _ h => h;by_cases hr : r = 0
   · subst hr;have hq : ¬ (q : Int) = 0 := by omega
     simp (disch := omega) only [ir93, hq, go_sem];refine A0 Af (J6 f l 0 q) (fun k => k ≤ l.length ∧ Bp l 0 q = Bp (l.drop k) 0 q) (fun k => l.length - k) 0 (by simp) (Ah ?_ ?_) fun k hk => ?_
     · simp (disch := omega) only [go_sem]
     · simp (disch := omega) only [go_sem]
     obtain ⟨hk1, hk2⟩ := hk;by_cases hlt : k < l.length
     · have hd : l.drop k = l[k] :: l.drop (k + 1) := List.drop_eq_getElem_cons hlt;have he : (l.map Bf)[k]? = some (Bf l[k]) := by simp [hlt]
       rw [hd] at hk2;generalize l[k] = v at *;simp only [Bp] at hk2;by_cases hid : v.rep = 0 ∧ v.seq = q
       · rw [if_pos hid] at hk2;have hp := Gw hid;rw [Mh hz hk2]
         (try simp only [Cf, Ce, Cd, Cc, Cb, Ca, B9, B0]); simp (disch := omega) only [J6, List.length_map, he, C1, G7, hp, P1, go_sem]
       · rw [if_neg hid] at hk2;have hp := Fg hid;simp (disch := omega) only [J6, List.length_map, he, C1, G7, hp, go_sem];refine Ad (k + 1) _ _ rfl ⟨by omega, hk2⟩ (by omega) ?_ ?_
         · simp (disch := omega) only [go_sem]
         · simp (disch := omega) only [go_sem]
     · obtain rfl : k = l.length := by omega
       rw [List.drop_length] at hk2;rw [Rs hz hk2]
       (try simp only [Cf, Ce, Cd, Cc, Cb, Ca, B9, B0]); simp (disch := omega) only [J6, List.length_map, go_sem]
   · simp (disch := omega) only [ir93, hr, go_sem];refine A0 Af (J6 f l r q) (fun k => k ≤ l.length ∧ Bp l r q = Bp (l.drop k) r q) (fun k => l.length - k) 0 (by simp) (Ah ?_ ?_) fun k hk => ?_
     · simp (disch := omega) only [go_sem]
     · simp (disch := omega) only [go_sem]
     obtain ⟨hk1, hk2⟩ := hk;by_cases hlt : k < l.length
     · have hd : l.drop k = l[k] :: l.drop (k + 1) := List.drop_eq_getElem_cons hlt;have he : (l.map Bf)[k]? = some (Bf l[k]) := by simp [hlt]
       rw [hd] at hk2;generalize l[k] = v at *;simp only [Bp] at hk2;by_cases hid : v.rep = r ∧ v.seq = q
       · rw [if_pos hid] at hk2;have hp := Gw hid;rw [Mh hz hk2]
         (try simp only [Cf, Ce, Cd, Cc, Cb, Ca, B9, B0]); simp (disch := omega) only [J6, List.length_map, he, C1, G7, hp, P1, go_sem]
       · rw [if_neg hid] at hk2;have hp := Fg hid;simp (disch := omega) only [J6, List.length_map, he, C1, G7, hp, go_sem];refine Ad (k + 1) _ _ rfl ⟨by omega, hk2⟩ (by omega) ?_ ?_
         · simp (disch := omega) only [go_sem]
         · simp (disch := omega) only [go_sem]
     · obtain rfl : k = l.length := by omega
       rw [List.drop_length] at hk2;rw [Rs hz hk2]
       (try simp only [Cf, Ce, Cd, Cc, Cb, Ca, B9, B0]); simp (disch := omega) only [J6, List.length_map, go_sem]
theorem Q5 (b : Bn) (K : KK) : LoadK (some (Ed b)) 0 2 true K = K (.vec 2 [.i .i64 b.1, .i .u32 b.2]) [] := by
 simp only [LoadK, Hv, eq_iff_iff];exact ⟨fun h => h.2.2, fun h => ⟨by simp [Ed], .inl trivial, h⟩⟩
def Et (v : Ver) (r : Int) (q : Nat) : Ver := { v with gone := A8 v.gone r q }
def Dw (l : List Ver) (bs : List Bn) (r : Int) (q : Nat) : List Ver := l.map fun x => if (x.rep, x.seq) ∈ bs then Et x r q else x
theorem Vy (g : Vc) (r : Int) (q : Nat) : A8 (A8 g r q) r q = A8 g r q := by
 unfold A8;split
 · funext i;simp only [D4];split <;> simp
 · rfl
theorem Ok (l : List Ver) (r : Int) (q : Nat) : Dw l [] r q = l := by simp [Dw]
theorem Zm (l : List Ver) (bs) (r : Int) (q : Nat) : (Dw l bs r q).length = l.length := by simp [Dw]
theorem Gx (x : Ver) (bs : List Bn) (r : Int) (q : Nat) : (if (x.rep, x.seq) ∈ bs then Et x r q else x).rep = x.rep ∧ (if (x.rep, x.seq) ∈ bs then Et x r q else x).seq = x.seq := by split <;> exact ⟨rfl, rfl⟩
theorem Q1 {l : List Ver} {bs} {r : Int} {q : Nat} (h : Cu l) : Cu (Dw l bs r q) := by
 unfold Dw Cu;rw [List.pairwise_map];refine List.Pairwise.imp (fun {a b} hab => ?_) h;rw [(Gx a bs r q).1, (Gx a bs r q).2, (Gx b bs r q).1, (Gx b bs r q).2]; exact hab
theorem Afc (bs : List Bn) (r : Int) (q : Nat) (r' : Int) (q' : Nat) : ∀ (l : List Ver) (k : Nat), Qd (Dw l bs r q) r' q' k = Qd l r' q' k
 | [], k => rfl
 | x :: l, k => by
   have ih := Afc bs r q r' q' l (k + 1);unfold Dw at ih ⊢;simp only [List.map_cons, Qd, ih, (Gx x bs r q).1, (Gx x bs r q).2]
theorem Ada {l : List Ver} (h : Cu l) {i j : Nat} {a b : Ver} (hi : l[i]? = some a) (hj : l[j]? = some b) (he : a.rep = b.rep ∧ a.seq = b.seq) : i = j := by
 obtain ⟨h1, rfl⟩ := List.getElem?_eq_some_iff.1 hi;obtain ⟨h2, rfl⟩ := List.getElem?_eq_some_iff.1 hj;rcases Nat.lt_trichotomy i j with h3 | h3 | h3
 · exact absurd he (Ab2 (List.pairwise_iff_getElem.1 h i j h1 h2 h3))
 · exact h3
 · exact absurd ⟨he.1.symm, he.2.symm⟩ (Ab2 (List.pairwise_iff_getElem.1 h j i h2 h1 h3))
theorem Arx {l : List Ver} (h : Cu l) {bs : List Bn} {b : Bn} {r : Int} {q : Nat} {i : Nat} {u : Ver} (hi : (Dw l bs r q)[i]? = some u) (hu : M8 u b.1 b.2) :
 (Dw l bs r q).set i (Et u r q) = Dw l (bs ++ [b]) r q := by
 apply List.ext_getElem?;intro j;have hi' := hi;unfold Dw at hi';rw [List.getElem?_map] at hi';obtain ⟨x, hx, rfl⟩ := Option.map_eq_some_iff.1 hi';have hxi : (x.rep, x.seq) = b := by
  have h1 := (Gx x bs r q).1;have h2 := (Gx x bs r q).2;obtain ⟨g1, g2⟩ := hu;rw [h1] at g1; rw [h2] at g2;rw [g1, g2]
 by_cases hij : i = j
 · subst hij;rw [List.getElem?_set_self (List.getElem?_eq_some_iff.1 hi).1];unfold Dw;rw [List.getElem?_map, hx];simp only [Option.map_some, List.mem_append, List.mem_singleton, hxi, or_true, if_true, Option.some.injEq];split
   · simp only [Et, Vy]
   · rfl
 · rw [List.getElem?_set_ne hij];unfold Dw;rw [List.getElem?_map, List.getElem?_map];cases hy : l[j]? with
   | none => rfl
   | some y =>
     have hne : ¬ (y.rep, y.seq) = b := fun e => hij (Ada h hx hy (by rw [← e] at hxi; simpa using hxi));simp only [Option.map_some, List.mem_append, List.mem_singleton, hne, or_false]
def Di (l : List Ver) (bs : List Bn) : Prop := ∃ b ∈ bs, Bp l b.1 b.2 = none
def Fk (l : List Ver) (bs : List Bn) (v : Ver) : List Ver := (Dw l bs v.rep v.seq).take (Qd l v.rep v.seq 0).1 ++ v :: (Dw l bs v.rep v.seq).drop (Qd l v.rep v.seq 0).1
theorem Js (u : Ver) (g : Vc) : splice (Bf u) 3 (vE g) = Bf { u with gone := g } := by
 simp [splice, Bf, vE, Cj]
def Ao8 (f : Bool) (l : List Ver) (g : Bool) (bs : List Bn) (v : Ver) (k : Nat) : FS := mk [(19, .pv (.i .i64 k)), (18, .pv (.i .i64 bs.length)), (17, .pv (.sl g 2 (bs.map Ed))), (8, .os 16), (5, .p 5 0)]
 [(5, some (.var (.vec 11 (Bf v)))), (16, some (.row 11 ((Dw l (bs.take k) v.rep v.seq).map Bf)))]
set_option maxHeartbeats 2000000 in
theorem Akf {F : Fr} {f : Bool} {l : List Ver} {g : Bool} {bs : List Bn} {v : Ver} {R : SV → (Nat → Option Blk) → Prop} (hs : Cu l) (hn : l.length ≤ 900) (hbn : bs.length ≤ 900)
 (h1 : Di l bs → ∀ h, R (.tup [.pv (.sl true 0 []), .pv (.i .i64 2)]) h)
 (h2 : ¬ Di l bs → (Bp l v.rep v.seq).isSome = true → ∀ h, R (.tup [.pv (.sl true 0 []), .pv (.i .i64 11)]) h)
 (h3 : ¬ Di l bs → Bp l v.rep v.seq = none → ∀ h n, h n = some (.row 11 ((Fk l bs v).map Bf)) → R (.tup [.os n, .pv (.i .i64 0)]) h) :
 sx (Uf Tryz.prog F 57) ir141 (O7 [.t 6, .t 7] R) (mk (Db 0 [.pv (.sl f 11 (l.map Bf)), .pv (.sl g 2 (bs.map Ed)), .vec 11 (Bf v)]) []) := by
 have hv := Hh v;simp (disch := omega) only [ir141, List.length_map, go_sem];refine Aa (Aw8 (es := l.map Bf) rfl rfl (.inr rfl) (by simp; omega) rfl) ?_;simp (disch := omega) only [List.length_map, go_sem];refine A0 Af (Ao8 f l g bs v) (fun k => k ≤ bs.length ∧ ∀ b ∈ bs.take k, Bp l b.1 b.2 ≠ none) (fun k => bs.length - k) 0 (by simp) (Ah ?_ ?_) fun k hk => ?_
 · simp (disch := omega) only [go_sem]
 · simp (disch := omega) only [List.take_zero, Ok, go_sem]
 obtain ⟨hk1, hk2⟩ := hk;have hsM := Q1 (bs := bs.take k) (r := v.rep) (q := v.seq) hs;have hlM := Zm l (bs.take k) v.rep v.seq;have haM := fun r q => Afc (bs.take k) v.rep v.seq r q l 0;by_cases hlt : k < bs.length
 · have he : (bs.map Ed)[k]? = some (Ed bs[k]) := by simp [hlt]
   have ht : bs.take (k + 1) = bs.take k ++ [bs[k]] := by rw [List.take_add_one, List.getElem?_eq_getElem hlt]; rfl
   have hb : bs[k] ∈ bs := List.getElem_mem hlt;generalize bs[k] = b at *;simp (disch := omega) only [Ao8, List.length_map, he, Q5, go_sem];refine Aa (A2y (l := Dw l (bs.take k) v.rep v.seq) b.1 b.2 rfl rfl (by omega)) ?_;rcases ha : Qd (Dw l (bs.take k) v.rep v.seq) b.1 b.2 0 with ⟨i, is⟩
   have ha' := ha;rw [haM] at ha';cases is with
   | false =>
     obtain ⟨_, _, g3, _⟩ := H8 hs ha'
     (try simp only [Cf, Ce, Cd, Cc, Cb, Ca, B9, B0]); simp (disch := omega) only [go_sem]
     exact h1 ⟨b, hb, g3⟩ _
   | true =>
     obtain ⟨_, u, g2, g3, g4⟩ := Iw ha;obtain ⟨_, u', _, _, g5⟩ := Iw ha';have hu : (Dw l (bs.take k) v.rep v.seq)[i]? = some u := by simpa using g2
     have hi : i < (Dw l (bs.take k) v.rep v.seq).length := (List.getElem?_eq_some_iff.1 hu).1;have heu : ((Dw l (bs.take k) v.rep v.seq).map Bf)[i]? = some (Bf u) := by rw [List.getElem?_map, hu]; rfl
     have hm := Arx (b := b) hs hu g3;have hgd : ((Dw l (bs.take k) v.rep v.seq).map Bf).getD i [] = Bf u := by rw [List.getD_eq_getElem?_getD, heu]; rfl
     (try simp only [Cf, Ce, Cd, Cc, Cb, Ca, B9, B0]); simp (disch := omega) only [List.length_map, heu, Nm, C1, go_sem]
     refine Aa (Abd _ _ _) ?_;have hw : splice (Bf u) 3 (vE (A8 u.gone v.rep v.seq)) = Bf (Et u v.rep v.seq) := Js _ _;simp (disch := omega) only [List.length_map, heu, hgd, hw, go_sem];refine Ad (k + 1) _ _ rfl ⟨by omega, fun c hc => ?_⟩ (by omega) ?_ ?_
     · rw [ht] at hc;rcases List.mem_append.1 hc with hc | hc
       · exact hk2 c hc
       · simp at hc; subst hc; rw [g5]; simp
     · simp (disch := omega) only [List.length_map, go_sem]
     · simp (disch := omega) only [go_sem];rw [ht, ← hm, List.map_set]
 · obtain rfl : k = bs.length := by omega
   have hmiss : ¬ Di l bs := fun ⟨b, hb, e⟩ => hk2 b (by rw [List.take_length]; exact hb) e;rw [List.take_length] at hsM hlM haM;have e := List.take_length (l := bs);simp (disch := omega) only [Ao8, e, C1, go_sem];refine Aa (A2y (l := Dw l bs v.rep v.seq) v.rep v.seq rfl rfl (by omega)) ?_;rcases ha : Qd (Dw l bs v.rep v.seq) v.rep v.seq 0 with ⟨i, is⟩
   have ha' := ha;rw [haM] at ha';cases is with
   | true =>
     obtain ⟨_, u', _, _, g5⟩ := Iw ha'
     (try simp only [Cf, Ce, Cd, Cc, Cb, Ca, B9, B0]); simp (disch := omega) only [go_sem]
     exact h2 hmiss (by rw [g5]; rfl) _
   | false =>
     obtain ⟨_, g2, g3, _⟩ := H8 hs ha'
     (try simp only [Cf, Ce, Cd, Cc, Cb, Ca, B9, B0]); simp (disch := omega) only [hv, go_sem]
     refine Aa (Adv ((Dw l bs v.rep v.seq).map Bf) (Bf v) i (by simp [hlM]; omega) (by simp [hlM]; omega) (by intro c hc; obtain ⟨x, _, rfl⟩ := List.mem_map.1 hc; exact Hh x) hv rfl rfl) ?_;simp (disch := omega) only [go_sem];refine h3 hmiss g3 _ _ ?_;simp (disch := omega) only [go_sem];simp [Fk, ha', List.map_take, List.map_drop]
theorem Agu {x y : SV} {f g : Bool} {l : List Ver} {bs : List Bn} {v : Ver} {h d} (hx : Cw h [x, y, .vec 11 (Bf v)] = [.pv (.sl f 11 (l.map Bf)), .pv (.sl g 2 (bs.map Ed)), .vec 11 (Bf v)]) (hl : Bj [x, y, .vec 11 (Bf v)] = true)
 (hs : Cu l) (hn : l.length ≤ 900) (hbn : bs.length ≤ 900) (hm : Di l bs) :
 FunOk Tryz.prog 141 [x, y, .vec 11 (Bf v)] h d (.tup [.pv (.sl true 0 []), .pv (.i .i64 2)]) [] := by
 refine C5 Af fn141 (by simp) hl rfl fun F => ?_;rw [hx];exact Akf hs hn hbn (fun _ _ => rfl) (fun h => absurd hm h) (fun h => absurd hm h)
def K7 (M : List Ver) (v : Ver) (p k : Nat) : List Ver := if p < k then (M.take k).take p ++ v :: (M.take k).drop p else M.take k
theorem Aqc (M : List Ver) (v : Ver) (p k : Nat) (hk : k ≤ M.length) : (K7 M v p k).length ≤ k + 1 := by
 unfold K7; split <;> simp <;> omega
def Aa1 (f : Bool) (l : List Ver) (g : Bool) (bs : List Bn) (v : Ver) (k : Nat) : FS := mk [(8, .pv (.i .i64 k)), (0, .pv (.sl f 11 (l.map Bf))), (1, .pv (.sl g 2 (bs.map Ed))), (5, .p 5 0)]
 [(5, some (.var (.vec 11 (Bf v))))]
def Oc (f : Bool) (l : List Ver) (g : Bool) (bs : List Bn) (v : Ver) (M : List Ver) (p k : Nat) : FS := mk [(13, .pv (.i .i64 k)), (12, .pv (.b (decide (p < k)))), (11, .os 16), (0, .pv (.sl f 11 (l.map Bf))), (1, .pv (.sl g 2 (bs.map Ed))), (5, .p 5 0)]
 [(5, some (.var (.vec 11 (Bf v)))), (16, some (.row 11 ((K7 M v p k).map Bf)))]
def Gv (f : Bool) (l : List Ver) (g : Bool) (bs : List Bn) (v : Ver) (k : Nat) (b : Bool) (o : List Ver) (x : Ver) (j : Nat) : FS := mk [(15, .pv (.i .i64 j)), (14, .p 14 0), (13, .pv (.i .i64 k)), (12, .pv (.b b)), (11, .os 16), (0, .pv (.sl f 11 (l.map Bf))), (1, .pv (.sl g 2 (bs.map Ed))), (5, .p 5 0)]
 [(5, some (.var (.vec 11 (Bf v)))), (16, some (.row 11 (o.map Bf))), (14, some (.var (.vec 11 (Bf (if (x.rep, x.seq) ∈ bs.take j then Et x v.rep v.seq else x)))))]
theorem Xl (x : Ver) (c : Prop) [Decidable c] (r : Int) (q : Nat) : Bf { (if c then Et x r q else x) with gone := Cp (if c then Et x r q else x).gone (Qy r q) } = Bf (Et x r q) := by
 have h1 : (if c then Et x r q else x).rep = x.rep := by split <;> rfl
 have h2 : (if c then Et x r q else x).seq = x.seq := by split <;> rfl
 have h3 : (if c then Et x r q else x).data = x.data := by split <;> rfl
 have h4 : ∀ i, i < 8 → Cp (if c then Et x r q else x).gone (Qy r q) i = (A8 x.gone r q) i := by
  intro i hi;rw [← Acu _ _ _ i hi];split
  · simp only [Et, Vy]
  · rfl
 show _ = Bf { x with gone := A8 x.gone r q };simp only [Bf, h1, h2, h3, Lq h4]
theorem Awy {M : List Ver} {v : Ver} {p k : Nat} {x : Ver} (h : p < k) (hx : M[k]? = some x) : K7 M v p (k + 1) = K7 M v p k ++ [x] := by
 have hk : k < M.length := (List.getElem?_eq_some_iff.1 hx).1;unfold K7;rw [if_pos h, if_pos (by omega), List.take_add_one, hx];simp only [Option.toList_some];rw [List.take_append_of_le_length (by simp; omega), List.drop_append_of_le_length (by simp; omega)];simp
theorem Aw0 {M : List Ver} {v : Ver} {k : Nat} {x : Ver} (hx : M[k]? = some x) : K7 M v k (k + 1) = K7 M v k k ++ [v] ++ [x] := by
 have hk : k < M.length := (List.getElem?_eq_some_iff.1 hx).1;have hl : (M.take k).length = k := by simp; omega
 unfold K7;rw [if_neg (Nat.lt_irrefl k), if_pos (by omega), List.take_add_one, hx];simp only [Option.toList_some];rw [List.take_append_of_le_length (by omega), List.take_of_length_le (by omega), List.drop_append_of_le_length (by omega), List.drop_of_length_le (by omega)];simp
theorem Awz {M : List Ver} {v : Ver} {p k : Nat} {x : Ver} (h : k < p) (hx : M[k]? = some x) : K7 M v p (k + 1) = K7 M v p k ++ [x] := by
 unfold K7;rw [if_neg (by omega), if_neg (by omega), List.take_add_one, hx]; rfl
set_option maxHeartbeats 4000000 in
theorem Ava {F : Fr} {f : Bool} {l : List Ver} {g : Bool} {bs : List Bn} {v : Ver} {R : SV → (Nat → Option Blk) → Prop} (hs : Cu l) (hn : l.length ≤ 900) (hbn : bs.length ≤ 900)
 (h1 : Di l bs → ∀ h, R (.tup [.pv (.sl true 0 []), .pv (.i .i64 2)]) h)
 (h2 : ¬ Di l bs → (Bp l v.rep v.seq).isSome = true → ∀ h, R (.tup [.pv (.sl true 0 []), .pv (.i .i64 11)]) h)
 (h3 : ¬ Di l bs → Bp l v.rep v.seq = none → ∀ h n, h n = some (.row 11 ((Fk l bs v).map Bf)) → R (.tup [.os n, .pv (.i .i64 0)]) h) :
 sx (Uf Tryz.prog F 118) ir134 (O7 [.t 6, .t 7] R) (mk (Db 0 [.pv (.sl f 11 (l.map Bf)), .pv (.sl g 2 (bs.map Ed)), .vec 11 (Bf v)]) []) := by
 have hv := Hh v;simp (disch := omega) only [ir134, List.length_map, go_sem];refine A0 Af (Aa1 f l g bs v) (fun k => k ≤ bs.length ∧ ∀ b ∈ bs.take k, Bp l b.1 b.2 ≠ none) (fun k => bs.length - k) 0 (by simp) (Ah ?_ ?_) fun k hk => ?_
 · simp (disch := omega) only [go_sem]
 · simp (disch := omega) only [go_sem]
 obtain ⟨hk1, hk2⟩ := hk;by_cases hlt : k < bs.length
 · have he : (bs.map Ed)[k]? = some (Ed bs[k]) := by simp [hlt]
   have ht : bs.take (k + 1) = bs.take k ++ [bs[k]] := by rw [List.take_add_one, List.getElem?_eq_getElem hlt]; rfl
   have hb : bs[k] ∈ bs := List.getElem_mem hlt;generalize bs[k] = b at *;have c0 : LoadK (some (Ed b)) 0 1 false = fun K => K (.pv (.i .i64 b.1)) [] := by
    funext K; simp only [LoadK, Hv, eq_iff_iff]; exact ⟨fun h => h.2.2, fun h => ⟨by simp [Ed], .inr trivial, h⟩⟩
   have c1 : LoadK (some (Ed b)) 1 1 false = fun K => K (.pv (.i .u32 b.2)) [] := by
    funext K; simp only [LoadK, Hv, eq_iff_iff]; exact ⟨fun h => h.2.2, fun h => ⟨by simp [Ed], .inr trivial, h⟩⟩
   simp (disch := omega) only [Aa1, List.length_map, he, Q5, go_sem];refine Aa (Ajd (l := l) b.1 b.2 rfl rfl (by omega)) ?_;have go : Bp l b.1 b.2 ≠ none → (k + 1 ≤ bs.length ∧ ∀ c ∈ bs.take (k + 1), Bp l c.1 c.2 ≠ none) := fun hne => ⟨by omega, fun c hc => by
    rw [ht] at hc;rcases List.mem_append.1 hc with hc | hc
    · exact hk2 c hc
    · simp at hc; subst hc; exact hne⟩
   by_cases hz : b.1 = 0 ∧ b.2 = 0
   · obtain ⟨b1, b2⟩ := b;obtain ⟨rfl, rfl⟩ : b1 = 0 ∧ b2 = 0 := hz;rw [Rt ⟨rfl, rfl⟩]
     (try simp only [Cf, Ce, Cd, Cc, Cb, Ca, B9, B0]); simp (disch := omega) only [List.length_map, he, c0, c1, Q5, Int.natCast_zero, go_sem]
     refine Aa (A0j (l := l) 0 0 rfl rfl (by omega)) ?_;cases hf : Bp l 0 0 with
     | none =>
       simp (disch := omega) only [Option.isSome_none, go_sem];exact h1 ⟨_, hb, hf⟩ _
     | some u =>
       simp (disch := omega) only [Option.isSome_some, go_sem];refine Ad (k + 1) _ _ rfl (go (by rw [hf]; simp)) (by omega) ?_ ?_
       · simp (disch := omega) only [go_sem]
       · simp (disch := omega) only [go_sem]
   · cases hf : Bp l b.1 b.2 with
     | none =>
       rw [Rs hz hf]
       (try simp only [Cf, Ce, Cd, Cc, Cb, Ca, B9, B0]); simp (disch := omega) only [go_sem]
       exact h1 ⟨b, hb, hf⟩ _
     | some u =>
       rw [Mh hz hf];by_cases hz1 : b.1 = 0
       · have hz2 : ¬ (b.2 : Int) = 0 := by omega
         (try simp only [Cf, Ce, Cd, Cc, Cb, Ca, B9, B0]); simp (disch := omega) only [List.length_map, he, c0, c1, hz1, hz2, go_sem]
         refine Ad (k + 1) _ _ rfl (go (by rw [hf]; simp)) (by omega) ?_ ?_
         · simp (disch := omega) only [go_sem]
         · simp (disch := omega) only [go_sem]
       · (try simp only [Cf, Ce, Cd, Cc, Cb, Ca, B9, B0]); simp (disch := omega) only [List.length_map, he, c0, c1, hz1, go_sem]
         refine Ad (k + 1) _ _ rfl (go (by rw [hf]; simp)) (by omega) ?_ ?_
         · simp (disch := omega) only [go_sem]
         · simp (disch := omega) only [go_sem]
 · obtain rfl : k = bs.length := by omega
   have hmiss : ¬ Di l bs := fun ⟨b, hb, e⟩ => hk2 b (by rw [List.take_length]; exact hb) e;have e := List.take_length (l := bs);simp (disch := omega) only [Aa1, List.length_map, C1, go_sem];refine Aa (A0j (l := l) v.rep v.seq rfl rfl (by omega)) ?_;cases hf : Bp l v.rep v.seq with
   | some u =>
     simp (disch := omega) only [Option.isSome_some, go_sem];exact h2 hmiss (by rw [hf]; rfl) _
   | none =>
     obtain ⟨p, hp⟩ : ∃ p, Qd l v.rep v.seq 0 = (p, false) := by
      rcases ha : Qd l v.rep v.seq 0 with ⟨p, b⟩
      cases b with
      | false => exact ⟨p, rfl⟩
      | true => obtain ⟨_, u, _, _, h4⟩ := Iw ha; rw [hf] at h4; cases h4
     obtain ⟨_, g2, _, g4, g5, g6⟩ := H8 hs hp;rw [Nat.sub_zero] at g2 g5 g6;have h3' := h3 hmiss hf;simp only [Fk, hp] at h3';have hM : ∀ k x, l[k]? = some x → (Dw l bs v.rep v.seq)[k]? = some (if (x.rep, x.seq) ∈ bs then Et x v.rep v.seq else x) := fun k x hx => by unfold Dw; rw [List.getElem?_map, hx]; rfl
     have hMl := Zm l bs v.rep v.seq;generalize Dw l bs v.rep v.seq = M at *;simp (disch := omega) only [Option.isSome_none, go_sem];refine A0 Af (Oc f l g bs v M p) (fun k => k ≤ l.length) (fun k => l.length - k) 0 (by simp) (Pl 11 16 11 rfl (by omega) (Ah ?_ ?_)) fun k hk => ?_
     · simp (disch := omega) only [Nat.not_lt_zero, go_sem]
     · simp (disch := omega) only [go_sem];simp [K7]
     by_cases hlt : k < l.length
     · have he : (l.map Bf)[k]? = some (Bf l[k]) := by simp [hlt]
       have hx := hM k l[k] (List.getElem?_eq_getElem hlt);have ho := Aqc M v p k (by omega);have hl5 : p > k → Cl v.rep v.seq l[k].rep l[k].seq = false := fun h => by
        have := Ayd (g5 l[k] (List.mem_take_iff_getElem.2 ⟨k, by omega, rfl⟩));simpa using this
       have hl6 : p = k → Cl v.rep v.seq l[k].rep l[k].seq = true := fun h => g6 l[k] (by
        subst h;rw [List.drop_eq_getElem_cons hlt]; exact List.mem_cons_self)
       generalize l[k] = x at *;have hxl := Hh x;rcases Nat.lt_trichotomy p k with hpk | hpk | hpk
       · have e1 : decide (p < k) = true := by simp [hpk]
         have e2 : decide (p < k + 1) = true := by simp; omega
         have eo := Awy (v := v) hpk hx;simp (disch := omega) only [Oc, e1, List.length_map, he, L6, hxl, go_sem];refine A0 Af (Gv f l g bs v k true (K7 M v p k) x) (fun j => j ≤ bs.length) (fun j => bs.length - j) 0 (by simp) (Ah ?_ ?_) fun j hj => ?_
         · simp (disch := omega) only [go_sem]
         · simp (disch := omega) only [List.take_zero, List.not_mem_nil, go_sem]
         have ex := Gx x (bs.take j) v.rep v.seq;by_cases hj2 : j < bs.length
         · have hbe : (bs.map Ed)[j]? = some (Ed bs[j]) := by simp [hj2]
           have ht : bs.take (j + 1) = bs.take j ++ [bs[j]] := by rw [List.take_add_one, List.getElem?_eq_getElem hj2]; rfl
           generalize bs[j] = b at *;have hjn := Xl x ((x.rep, x.seq) ∈ bs.take j) v.rep v.seq;have hsp := Js (if (x.rep, x.seq) ∈ bs.take j then Et x v.rep v.seq else x) (Cp (if (x.rep, x.seq) ∈ bs.take j then Et x v.rep v.seq else x).gone (Qy v.rep v.seq));by_cases hb : b.1 = x.rep ∧ b.2 = x.seq
           · have hp := Gw hb;have hb' : (x.rep, x.seq) = b := by rw [← hb.1, ← hb.2]
             simp (disch := omega) only [Gv, List.length_map, hbe, Q5, C1, ex.1, ex.2, G7, hp, Nm, go_sem];refine Aa (U8 _ _ _) ?_;simp (disch := omega) only [hsp, hjn, go_sem];refine Ad (j + 1) _ _ rfl (by omega) (by omega) ?_ ?_
             · simp (disch := omega) only [go_sem]
             · simp (disch := omega) only [ht, hb', List.mem_append, List.mem_singleton, go_sem]
           · have hp := Fg hb;have hb' : ¬ (x.rep, x.seq) = b := fun e => hb (by rw [← e]; exact ⟨rfl, rfl⟩);simp (disch := omega) only [Gv, List.length_map, hbe, Q5, C1, ex.1, ex.2, G7, hp, go_sem];refine Ad (j + 1) _ _ rfl (by omega) (by omega) ?_ ?_
             · simp (disch := omega) only [go_sem]
             · simp (disch := omega) only [ht, hb', List.mem_append, List.mem_singleton, or_false, go_sem]
         · obtain rfl : j = bs.length := by omega
           have e := List.take_length (l := bs);have hxl2 := Hh (if (x.rep, x.seq) ∈ bs then Et x v.rep v.seq else x);simp (disch := omega) only [Gv, e, List.length_map, L6, hxl2, List.length_append, List.length_singleton, go_sem];refine ⟨k + 1, by omega, by omega, D6 110 16 (by decide) rfl (Ah ?_ ?_)⟩
           · simp (disch := omega) only [e2, go_sem]
           · simp (disch := omega) only [eo, List.map_append, List.map_cons, List.map_nil, go_sem]
       · subst hpk;have e1 : decide (p < p) = false := by simp
         have e2 : decide (p < p + 1) = true := by simp
         have eo := Aw0 (v := v) hx;have hl7 := hl6 rfl;simp (disch := omega) only [Oc, e1, List.length_map, he, C1, go_sem];refine Aa (F8 _ _ _ _) ?_;simp (disch := omega) only [hl7, hv, List.length_map, he, L6, hxl, go_sem];refine A0 Af (Gv f l g bs v p true (K7 M v p p ++ [v]) x) (fun j => j ≤ bs.length) (fun j => bs.length - j) 0 (by simp) (D6 83 16 (by decide) rfl (Ah ?_ ?_)) fun j hj => ?_
         · simp (disch := omega) only [go_sem]
         · simp (disch := omega) only [List.take_zero, List.not_mem_nil, List.map_append, List.map_cons, List.map_nil, go_sem]
         have ex := Gx x (bs.take j) v.rep v.seq;by_cases hj2 : j < bs.length
         · have hbe : (bs.map Ed)[j]? = some (Ed bs[j]) := by simp [hj2]
           have ht : bs.take (j + 1) = bs.take j ++ [bs[j]] := by rw [List.take_add_one, List.getElem?_eq_getElem hj2]; rfl
           generalize bs[j] = b at *;have hjn := Xl x ((x.rep, x.seq) ∈ bs.take j) v.rep v.seq;have hsp := Js (if (x.rep, x.seq) ∈ bs.take j then Et x v.rep v.seq else x) (Cp (if (x.rep, x.seq) ∈ bs.take j then Et x v.rep v.seq else x).gone (Qy v.rep v.seq));by_cases hb : b.1 = x.rep ∧ b.2 = x.seq
           · have hp := Gw hb;have hb' : (x.rep, x.seq) = b := by rw [← hb.1, ← hb.2]
             simp (disch := omega) only [Gv, List.length_map, hbe, Q5, C1, ex.1, ex.2, G7, hp, Nm, go_sem];refine Aa (U8 _ _ _) ?_;simp (disch := omega) only [hsp, hjn, go_sem];refine Ad (j + 1) _ _ rfl (by omega) (by omega) ?_ ?_
             · simp (disch := omega) only [go_sem]
             · simp (disch := omega) only [ht, hb', List.mem_append, List.mem_singleton, go_sem]
           · have hp := Fg hb;have hb' : ¬ (x.rep, x.seq) = b := fun e => hb (by rw [← e]; exact ⟨rfl, rfl⟩);simp (disch := omega) only [Gv, List.length_map, hbe, Q5, C1, ex.1, ex.2, G7, hp, go_sem];refine Ad (j + 1) _ _ rfl (by omega) (by omega) ?_ ?_
             · simp (disch := omega) only [go_sem]
             · simp (disch := omega) only [ht, hb', List.mem_append, List.mem_singleton, or_false, go_sem]
         · obtain rfl : j = bs.length := by omega
           have e := List.take_length (l := bs);have hxl2 := Hh (if (x.rep, x.seq) ∈ bs then Et x v.rep v.seq else x);simp (disch := omega) only [Gv, e, List.length_map, L6, hxl2, List.length_append, List.length_singleton, go_sem];refine ⟨p + 1, by omega, by omega, D6 110 16 (by decide) rfl (Ah ?_ ?_)⟩
           · simp (disch := omega) only [e2, go_sem]
           · simp (disch := omega) only [eo, List.map_append, List.map_cons, List.map_nil, go_sem]
       · have e1 : decide (p < k) = false := by simp; omega
         have e2 : decide (p < k + 1) = false := by simp; omega
         have eo := Awz (v := v) hpk hx;have hl7 := hl5 hpk;simp (disch := omega) only [Oc, e1, List.length_map, he, C1, go_sem];refine Aa (F8 _ _ _ _) ?_;simp (disch := omega) only [hl7, hv, List.length_map, he, L6, hxl, go_sem];refine A0 Af (Gv f l g bs v k false (K7 M v p k) x) (fun j => j ≤ bs.length) (fun j => bs.length - j) 0 (by simp) (Ah ?_ ?_) fun j hj => ?_
         · simp (disch := omega) only [go_sem]
         · simp (disch := omega) only [List.take_zero, List.not_mem_nil, go_sem]
         have ex := Gx x (bs.take j) v.rep v.seq;by_cases hj2 : j < bs.length
         · have hbe : (bs.map Ed)[j]? = some (Ed bs[j]) := by simp [hj2]
           have ht : bs.take (j + 1) = bs.take j ++ [bs[j]] := by rw [List.take_add_one, List.getElem?_eq_getElem hj2]; rfl
           generalize bs[j] = b at *;have hjn := Xl x ((x.rep, x.seq) ∈ bs.take j) v.rep v.seq;have hsp := Js (if (x.rep, x.seq) ∈ bs.take j then Et x v.rep v.seq else x) (Cp (if (x.rep, x.seq) ∈ bs.take j then Et x v.rep v.seq else x).gone (Qy v.rep v.seq));by_cases hb : b.1 = x.rep ∧ b.2 = x.seq
           · have hp := Gw hb;have hb' : (x.rep, x.seq) = b := by rw [← hb.1, ← hb.2]
             simp (disch := omega) only [Gv, List.length_map, hbe, Q5, C1, ex.1, ex.2, G7, hp, Nm, go_sem];refine Aa (U8 _ _ _) ?_;simp (disch := omega) only [hsp, hjn, go_sem];refine Ad (j + 1) _ _ rfl (by omega) (by omega) ?_ ?_
             · simp (disch := omega) only [go_sem]
             · simp (disch := omega) only [ht, hb', List.mem_append, List.mem_singleton, go_sem]
           · have hp := Fg hb;have hb' : ¬ (x.rep, x.seq) = b := fun e => hb (by rw [← e]; exact ⟨rfl, rfl⟩);simp (disch := omega) only [Gv, List.length_map, hbe, Q5, C1, ex.1, ex.2, G7, hp, go_sem];refine Ad (j + 1) _ _ rfl (by omega) (by omega) ?_ ?_
             · simp (disch := omega) only [go_sem]
             · simp (disch := omega) only [ht, hb', List.mem_append, List.mem_singleton, or_false, go_sem]
         · obtain rfl : j = bs.length := by omega
           have e := List.take_length (l := bs);have hxl2 := Hh (if (x.rep, x.seq) ∈ bs then Et x v.rep v.seq else x);simp (disch := omega) only [Gv, e, List.length_map, L6, hxl2, List.length_append, List.length_singleton, go_sem];refine ⟨k + 1, by omega, by omega, D6 110 16 (by decide) rfl (Ah ?_ ?_)⟩
           · simp (disch := omega) only [e2, go_sem]
           · simp (disch := omega) only [eo, List.map_append, List.map_cons, List.map_nil, go_sem]
     · obtain rfl : k = l.length := by omega
       by_cases hpl : p < l.length
       · have e1 : decide (p < l.length) = true := by simp [hpl]
         have e2 : K7 M v p l.length = M.take p ++ v :: M.drop p := by unfold K7; rw [if_pos hpl, ← hMl, List.take_length]
         simp (disch := omega) only [Oc, e1, e2, List.length_map, go_sem];exact h3' _ _ rfl
       · have e1 : decide (p < l.length) = false := by simp; omega
         have ep : p = M.length := by omega
         have e2 : K7 M v p l.length = M := by unfold K7; rw [if_neg hpl, ← hMl, List.take_length]
         simp (disch := omega) only [Oc, e1, e2, hv, List.length_map, go_sem];refine h3' _ _ ?_;simp (disch := omega) only [go_sem];simp [ep]
end Go.Proofs.YthmjebkldgdeiaaGreat.Fw
namespace Go.Proofs.YthmjebkldgdeiaaGreat.Fw
open Go.RowKit Go.Proofs
variable {P : Program} {F : Fr} {N : Nat} {ρ ρ' : Nat → Value} {s : FS} {a : Act} {w w' : World} {V V' : View}
def PImp (x y : PV) : Prop := ∀ (V : View) (v : Value), PConc V x v → PConc V y v
theorem PImp.refl (x : PV) : PImp x x := fun _ _ h => h
def PImpL : List PV → List PV → Prop
 | [], [] => True
 | x :: l, y :: m => PImp x y ∧ PImpL l m
 | _, _ => False
def PImpR : List (List PV) → List (List PV) → Prop
 | [], [] => True
 | x :: l, y :: m => PImpL x y ∧ PImpR l m
 | _, _ => False
theorem PImpL.refl : ∀ l : List PV, PImpL l l
 | [] => trivial
 | x :: l => ⟨.refl x, PImpL.refl l⟩
theorem PImpR.refl : ∀ l : List (List PV), PImpR l l
 | [] => trivial
 | x :: l => ⟨.refl x, PImpR.refl l⟩
theorem PImpL.len : ∀ {l m : List PV}, PImpL l m → l.length = m.length
 | [], [], _ => rfl
 | x :: l, y :: m, h => by simp [PImpL.len h.2]
 | [], _ :: _, h => h.elim
 | _ :: _, [], h => h.elim
theorem PImpR.len : ∀ {l m : List (List PV)}, PImpR l m → l.length = m.length
 | [], [], _ => rfl
 | x :: l, y :: m, h => by simp [PImpR.len h.2]
 | [], _ :: _, h => h.elim
 | _ :: _, [], h => h.elim
theorem PImpL.get : ∀ {l m : List PV} {j : Nat} {y : PV}, PImpL l m → m[j]? = some y → ∃ x, l[j]? = some x ∧ PImp x y
 | x :: l, z :: m, 0, y, h, hy => by simp at hy; subst hy; exact ⟨x, by simp, h.1⟩
 | x :: l, z :: m, j + 1, y, h, hy => by
   obtain ⟨u, h1, h2⟩ := PImpL.get (j := j) h.2 (by simpa using hy);exact ⟨u, by simpa using h1, h2⟩
 | [], [], j, y, _, hy => by simp at hy
 | [], _ :: _, _, _, h, _ => h.elim
 | _ :: _, [], _, _, h, _ => h.elim
theorem PImpR.get : ∀ {l m : List (List PV)} {j : Nat} {y : List PV}, PImpR l m → m[j]? = some y → ∃ x, l[j]? = some x ∧ PImpL x y
 | x :: l, z :: m, 0, y, h, hy => by simp at hy; subst hy; exact ⟨x, by simp, h.1⟩
 | x :: l, z :: m, j + 1, y, h, hy => by
   obtain ⟨u, h1, h2⟩ := PImpR.get (j := j) h.2 (by simpa using hy);exact ⟨u, by simpa using h1, h2⟩
 | [], [], j, y, _, hy => by simp at hy
 | [], _ :: _, _, _, h, _ => h.elim
 | _ :: _, [], _, _, h, _ => h.elim
theorem PImpL.app : ∀ {a b c d : List PV}, PImpL a b → PImpL c d → PImpL (a ++ c) (b ++ d)
 | [], [], c, d, _, k => k
 | x :: a, y :: b, c, d, h, k => ⟨h.1, PImpL.app h.2 k⟩
 | [], _ :: _, _, _, h, _ => h.elim
 | _ :: _, [], _, _, h, _ => h.elim
theorem PImpR.app : ∀ {a b c d : List (List PV)}, PImpR a b → PImpR c d → PImpR (a ++ c) (b ++ d)
 | [], [], c, d, _, k => k
 | x :: a, y :: b, c, d, h, k => ⟨h.1, PImpR.app h.2 k⟩
 | [], _ :: _, _, _, h, _ => h.elim
 | _ :: _, [], _, _, h, _ => h.elim
theorem Hj {f f' : Bool} {z z' : Nat} {es es' : List (List PV)} (hf : f' = true → f = true) (hz : es = [] ∨ z = z') (h : PImpR es es') : PImp (.sl f z es) (.sl f' z' es') := by
 intro V v hv;cases hv with
 | sl full sz es a cap cs bl off arr hcap hfull hsz ha hcs hel =>
   have hl := h.len;have hne : es' ≠ [] → es ≠ [] := fun e1 e2 => by subst e2; exact e1 (List.eq_nil_of_length_eq_zero hl.symm)
   rw [hl];refine .sl f' z' es' a cap cs bl off arr (by omega) (fun e => by rw [hfull (hf e)]; exact hl) (fun c hc => ?_) (fun e => ha (hne e)) (fun i j hi hj => ?_) fun i j c x hi hx => ?_
   · obtain ⟨j, hj⟩ := List.mem_iff_getElem?.1 hc;obtain ⟨u, h1, h2⟩ := h.get hj;rw [← h2.len, hsz u (List.mem_of_getElem? h1)];exact hz.resolve_left (hne (List.ne_nil_of_mem hc))
   · have e : z = z' := hz.resolve_left (hne fun e => by subst e; simp at hi);subst e;exact hcs i j (by omega) hj
   · obtain ⟨u, h1, h2⟩ := h.get hi;obtain ⟨y, h3, h4⟩ := h2.get hx;exact h4 V _ (hel i j u y h1 h3)
theorem Tf {x y : PV} (h : PImp x y) : Imp (.pv x) (.pv y) := fun V ρ v hv => by simp only [Conc] at hv ⊢; exact h V v hv
theorem Amm {n : Nat} {cs ds : List PV} (h : PImpL cs ds) : Imp (.vec n cs) (.vec n ds) := fun V ρ v hv => by
 simp only [Conc] at hv ⊢;obtain ⟨vs, h1, h2, h3⟩ := hv;refine ⟨vs, h1, h2, h.len.symm.trans h3.1, fun j x hx => ?_⟩;obtain ⟨u, h4, h5⟩ := h.get hx;obtain ⟨v', h6, h7⟩ := h3.2 j u h4;exact ⟨v', h6, h5 V v' h7⟩
def ImpS : List SV → List SV → Prop
 | [], [] => True
 | x :: l, y :: m => (Imp x y ∧ x.width = y.width) ∧ ImpS l m
 | _, _ => False
theorem ImpS.cells : ∀ {l m : List SV} {vs : List Value}, ImpS l m → Cells V ρ l vs → Cells V ρ m vs
 | [], [], vs, _, h => h
 | x :: l, y :: m, vs, h, k => by
   simp only [Cells] at k ⊢;obtain ⟨u, us, rfl, k1, k2, k3, k4⟩ := k;exact ⟨u, us, rfl, h.1.1 V ρ u k1, by rw [← h.1.2]; exact k2, k3, h.2.cells k4⟩
 | [], _ :: _, _, h, _ => h.elim
 | _ :: _, [], _, h, _ => h.elim
theorem Xm {l m : List SV} (h : ImpS l m) : Imp (.agg l) (.agg m) := fun V ρ v hv => by
 simp only [Conc] at hv ⊢;obtain ⟨vs, h1, h2⟩ := hv;exact ⟨vs, h1, h.cells h2⟩
theorem Aya {l m : List SV} (h : ImpL l m) : Imp (.tup l) (.tup m) := fun V ρ v hv => by
 simp only [Conc] at hv ⊢;obtain ⟨vs, h1, h2⟩ := hv;exact ⟨vs, h1, h.conc h2⟩
theorem Tm (hm : P.follows .mixedOrders = true) {f N' : Nat} {rs : List Rv} {c : C} (hf : A5 P f = some (N', rs, c)) {args : List SV} {h : Nat → Option Blk} {d : Nat} {x : SV} (hlen : args.length ≤ N')
 (hargs : SV.closedL args = true) (hx : x.closed = true) (hrun : ∀ F, sx (Uf P F N') c (Aod rs fun y _ => Imp y x) (mk (Db 0 args) [])) : FunOk P f args h d x [] := by
 obtain ⟨h1, h2, h3⟩ := Ck hargs;refine ⟨Co hf, fun F N ρ s a w hR hh vs hc => ?_⟩;refine Calls.mono (Dp hm hf (h := h) hlen h2 Aa7 (by rw [h3]; exact hrun) hR hh hc) fun e w' he => ?_;obtain ⟨v, rfl, hg, N'', ρ', s', a', y, hR', hy, hyx⟩ := he;rw [h1, Dv] at hR' hy;exact ⟨v, ρ, rfl, hR.grew hg, Bz (E5 hR') hx (hyx _ _ _ hy)⟩
theorem Wu {N' : Nat} {a' : Act} {s' : FS} (hR' : RelR ⟨w, fun _ => False, F.out ρ s.h, fun _ => undef, []⟩ N' ρ' s' a' w') {n sz : Nat} {es : List (List PV)} (hn : s'.h n = some (.row sz es)) : PConc (vw F w' ρ s) (.sl false sz es) (ρ' n) :=
 (Ku hR' hn).mono (Bm fun b c ho hc => ⟨fun hb => ho (.inr hb), hc⟩)
theorem Ri (hm : P.follows .mixedOrders = true) {f N' : Nat} {rs : List Rv} {c : C} (hf : A5 P f = some (N', rs, c)) {args : List SV} {h : Nat → Option Blk} {d : Nat} {sz : Nat} {es : List (List PV)} (hlen : args.length ≤ N')
 (hargs : SV.closedL args = true) (hrun : ∀ F, sx (Uf P F N') c (O7 rs fun y g => (∃ n, y = .os n ∧ g n = some (.row sz es)) ∨ ∃ z, y = .pv (.sl true z []) ∧ es = [] ∧ 0 < sz) (mk (Db 0 args) [])) :
 FunOk P f args h d (.pv (.sl false sz es)) [] := by
 obtain ⟨h1, h2, h3⟩ := Ck hargs;refine ⟨Co hf, fun F N ρ s a w hR hh vs hc => ?_⟩;refine Calls.mono (Dp hm hf (h := h) hlen h2 Jv (by rw [h3]; exact hrun) hR hh hc) fun e w' he => ?_;obtain ⟨v, rfl, hg, N'', ρ', s', a', y, hR', hy, hyy⟩ := he;rw [h1, Dv] at hR' hy;refine ⟨v, ρ, rfl, hR.grew hg, ?_⟩;rcases hyy with ⟨n, rfl, hn⟩ | ⟨z, rfl, rfl, hsz⟩
 · simp only [Conc] at hy ⊢;rw [hy.1];exact Wu hR' hn
 · simp only [Conc] at hy ⊢;exact (Hj (by simp) (.inl rfl) (.refl [])) _ _ (hy.mono (E5 hR'))
theorem Tl (hm : P.follows .mixedOrders = true) {f N' : Nat} {rs : List Rv} {c : C} (hf : A5 P f = some (N', rs, c)) {args : List SV} {h : Nat → Option Blk} {d : Nat} {sz : Nat} {es : List (List PV)} {z0 : SV} (hlen : args.length ≤ N')
 (hargs : SV.closedL args = true) (hz : z0.closed = true) (hrun : ∀ F, sx (Uf P F N') c (O7 rs fun y g => (∃ n, y = .tup [.os n, z0] ∧ g n = some (.row sz es)) ∨ ∃ z, y = .tup [.pv (.sl true z []), z0] ∧ es = []) (mk (Db 0 args) [])) :
 FunOk P f args h d (.tup [.pv (.sl false sz es), z0]) [] := by
 obtain ⟨h1, h2, h3⟩ := Ck hargs;refine ⟨Co hf, fun F N ρ s a w hR hh vs hc => ?_⟩;refine Calls.mono (Dp hm hf (h := h) hlen h2 Jv (by rw [h3]; exact hrun) hR hh hc) fun e w' he => ?_;obtain ⟨v, rfl, hg, N'', ρ', s', a', y, hR', hy, hyy⟩ := he;rw [h1, Dv] at hR' hy;refine ⟨v, ρ, rfl, hR.grew hg, ?_⟩;rcases hyy with ⟨n, rfl, hn⟩ | ⟨z, rfl, rfl⟩
 · simp only [Conc, ConcL] at hy ⊢;obtain ⟨vs, rfl, u, us, rfl, hu, u2, us2, rfl, hu2, rfl⟩ := hy;refine ⟨_, rfl, u, _, rfl, ?_, u2, _, rfl, Bz (E5 hR') hz hu2, rfl⟩;rw [hu.1]; exact Wu hR' hn
 · simp only [Conc, ConcL] at hy ⊢;obtain ⟨vs, rfl, u, us, rfl, hu, u2, us2, rfl, hu2, rfl⟩ := hy;exact ⟨_, rfl, u, _, rfl, (Hj (by simp) (.inl rfl) (.refl [])) _ _ (hu.mono (E5 hR')), u2, _, rfl, Bz (E5 hR') hz hu2, rfl⟩
theorem Zw (hm : P.follows .mixedOrders = true) {f N' : Nat} {rs : List Rv} {c : C} (hf : A5 P f = some (N', rs, c)) {args : List SV} {h : Nat → Option Blk} {d : Nat} {sz : Nat} {es : List (List PV)} (hlen : args.length ≤ N')
 (hargs : Bj args = true) (hx : ∀ c ∈ es, c.all PV.flat = true) (hrun : ∀ F, sx (Uf P F N') c (O7 rs fun y g => (∃ n, y = .os n ∧ g n = some (.row sz es)) ∨ ∃ z, y = .pv (.sl true z []) ∧ es = [] ∧ 0 < sz) (mk (Db 0 (Cw h args)) [])) :
 FunOk P f args h d (.pv (.sl false sz es)) [] := by
 refine ⟨Co hf, fun F N ρ s a w hR hh vs hc => ?_⟩;refine Calls.mono (Dp hm hf (h := h) hlen hargs Jv hrun hR hh hc) fun e w' he => ?_;obtain ⟨v, rfl, hg, N'', ρ', s', a', y, hR', hy, hyy⟩ := he;refine ⟨v, ρ, rfl, hR.grew hg, ?_⟩;rcases hyy with ⟨n, rfl, hn⟩ | ⟨z, rfl, rfl, hsz⟩
 · simp only [Conc] at hy ⊢;rw [hy.1];have hp := Ku hR' hn;have hnew : ∀ b, Cr (ρ' n) = some b → w.heap.size ≤ b := fun b hb => (hR'.may b ⟨n, _, hn, hb⟩).resolve_right id;generalize ρ' n = u at hp hnew;cases hp with
   | sl full sz es a cap cs bl off arr hcap hfull hsz ha hcs hel =>
     refine .sl false sz es a cap cs bl off arr hcap hfull hsz (fun hne => ?_) hcs fun i j c x hi hj => Ot (List.all_eq_true.1 (hx c (List.mem_of_getElem? hi)) x (List.mem_of_getElem? hj)) (hel i j c x hi hj);obtain ⟨rfl, hV⟩ := ha hne;refine ⟨rfl, ?_⟩;have hcp : cap ≠ 0 := fun e => by subst e; exact hne (List.eq_nil_of_length_eq_zero (by omega))
     have hb := hnew bl (by simp [Cr, hcp]);have hc' : Ep w' bl = some arr := by
      unfold vw Az at hV;split at hV
      · cases hV
      · exact hV
     show Az w' (F.out ρ s.h) bl = some arr;unfold Az;rw [if_neg]
     · exact hc'
     · rintro (ho | ho)
       · have := hR.lt ho; omega
       · have := (hR.fr.hid bl ho).1; have := hR.fr.size; omega
 · simp only [Conc] at hy ⊢;have hy' : PConc (vw F w' ρ s) (.sl true z []) v := Ot rfl hy;exact (Hj (by simp) (.inl rfl) (.refl [])) _ _ hy'
theorem DeepOk.frz {f : Nat} {args args' : List SV} {h h' : Nat → Option Blk} {d d' : Nat} {x : SV} {u : List HU} {n sz : Nat} {es : List (List PV)} (hn : h n = some (.row sz es)) (ha : SV.frzL n (.sl false sz es) args = args')
 (hh' : ∀ k ∈ A3 args', (if k = n then none else (h k).map (Blk.frz n (.sl false sz es))) = h' k) (hf : FunOk P f args' h' d' x u) : DeepOk P f args h d x (.frz n (.sl false sz es) :: u) := by
 refine ⟨hf.1, fun F N ρ s a w hR hh vs hv => ?_⟩;subst ha;have hs : s.h n = some (.row sz es) := by rw [hh]; exact hn
 obtain ⟨hR', hV, hV2⟩ := hR.frz hs;have hp := (Ku hR hs).mono hV2;exact hf.2 F N ρ (s.frz n (.sl false sz es)) a w hR' (fun k hk => by rw [← hh' k hk]; simp only [FS.frz, hh]) vs (ConcL.frz hV hp hv)
end Go.Proofs.YthmjebkldgdeiaaGreat.Fw
