/- What the functions compute that the laws of this seat Zk. -/
import Derived.Test.YthiamojjhdcegaaGreatIr
import Derived.OpenShut
import Derived.ShutString
import Derived.ChangeOld
import Derived.SizedLaws
import Derived.ChangeOld
import Derived.Lib.Bytealg
import Derived.Lib.Overlaps
import Derived.OpenShut
import Derived.ShutString
import Derived.SizedLaws
set_option linter.unusedVariables false
set_option linter.unusedSimpArgs false
set_option linter.unusedSectionVars false
set_option maxRecDepth 100000
namespace Go.Proofs.YthiamojjhdcegaaGreat.Fw
variable [Th]
open Go.RowKit Go.Proofs
def Cw (a b : Vc) : Vc := fun i => max (a i) (b i)
def Yn (a b : Vc) : Prop := ∀ i, i < 8 → a i ≤ b i
instance (a b : Vc) : Decidable (Yn a b) := inferInstanceAs (Decidable (∀ i, i < 8 → a i ≤ b i))
def Aww (a b : Vc) : Int := if vEq a b then 0 else if Yn a b then -1 else if Yn b a then 1 else 2
theorem Ajr (a b : Vc) : Aww a b ≤ 0 ↔ Yn a b := by
 unfold Aww;by_cases h : vEq a b
 · have : Yn a b := fun i hi => by rw [h i hi]; exact Nat.le_refl _
   simp [h, this]
 · by_cases h2 : Yn a b
   · simp [h, h2]
   · by_cases h3 : Yn b a <;> simp [h, h2, h3]
def Ag8 (a b : Vc) (k : Nat) : FS := mk [(8, .pv (.i .i64 k)), (7, .vec 8 (vE b)), (4, .p 4 0), (2, .p 2 0)] [(2, some (.var (.vec 8 (vE fun i => if i < k then Cw a b i else a i)))), (4, some (.var (.vec 8 (vE fun _ => 0))))]
theorem A4j (a b : Vc) {h d} : FunOk Tryz.prog 77 [.vec 8 (vE a), .vec 8 (vE b)] h d (.vec 8 (vE (Cw a b))) [] := by
 refine Aw Af fn77 (by simp) rfl rfl fun F => ?_;simp (disch := omega) only [ir77, go_sem];refine A0 Af (Ag8 a b) (fun k => k ≤ 8) (fun k => 8 - k) 0 (by simp) (Ak ?_ ?_) fun k hk => ?_
 · simp (disch := omega) only [go_sem]
 · simp (disch := omega) only [Aaz, go_sem]
 by_cases hlt : k < 8
 · simp (disch := omega) only [Ag8, go_sem];refine Ad (k + 1) _ _ rfl (by omega) (by omega) ?_ ?_
   · simp (disch := omega) only [go_sem]
   · simp (disch := omega) only [go_sem];exact Rn (Agy _ _ _ (by simp [Cw]))
 · simp (disch := omega) only [Ag8, Agz, go_sem]
def Jn (a b : Vc) (k : Nat) : Prop := ¬ ∀ i, i < k → ¬ a i < b i
instance (a b : Vc) (k : Nat) : Decidable (Jn a b k) := inferInstanceAs (Decidable (¬ ∀ i, i < k → ¬ a i < b i))
theorem Wl (a b : Vc) (k : Nat) : Jn a b k ↔ ∃ i, i < k ∧ a i < b i := by unfold Jn; simp
def Aa8 (a b : Vc) (k : Nat) : FS := mk [(7, .pv (.i .i64 k)), (5, .pv (.b (decide (Jn a b k)))), (6, .pv (.b (decide (Jn b a k)))), (2, .p 2 0), (3, .p 3 0)] [(2, some (.var (.vec 8 (vE a)))), (3, some (.var (.vec 8 (vE b))))]
theorem Adx (a b : Vc) (k : Nat) : Jn a b (k + 1) ↔ Jn a b k ∨ a k < b k := by
 simp only [Wl];constructor
 · rintro ⟨i, h1, h2⟩;by_cases e : i = k
   · subst e; exact .inr h2
   · exact .inl ⟨i, by omega, h2⟩
 · rintro (⟨i, h1, h2⟩ | h)
   · exact ⟨i, by omega, h2⟩
   · exact ⟨k, by omega, h⟩
theorem Aqv (a b : Vc) : Jn a b 8 ↔ ¬ Yn b a := by
 rw [Wl];constructor
 · rintro ⟨i, h1, h2⟩ h; have := h i h1; omega
 · intro h;refine Decidable.byContradiction fun hn => h fun i hi => ?_;refine Nat.le_of_not_lt fun hl => hn ⟨i, hi, hl⟩
theorem Awx (a b : Vc) : vEq a b ↔ Yn a b ∧ Yn b a :=
 ⟨fun h => ⟨fun i hi => by rw [h i hi]; exact Nat.le_refl _, fun i hi => by rw [h i hi]; exact Nat.le_refl _⟩, fun h i hi => Nat.le_antisymm (h.1 i hi) (h.2 i hi)⟩
theorem Afl {a b : Bool} (h : a = b) : Imp (.pv (.b a)) (.pv (.b b)) := h ▸ Imp.refl _
set_option maxHeartbeats 1000000 in
theorem Ar3 (a b : Vc) {h d} : FunOk Tryz.prog 67 [.vec 8 (vE a), .vec 8 (vE b)] h d (.pv (.i .i64 (Aww a b))) [] := by
 refine Aw Af fn67 (by simp) rfl rfl fun F => ?_;simp (disch := omega) only [ir67, go_sem];refine A0 Af (Aa8 a b) (fun k => k ≤ 8) (fun k => 8 - k) 0 (by simp) (Ak ?_ ?_) fun k hk => ?_
 · simp (disch := omega) only [go_sem];have e : ∀ x y : Vc, ¬ Jn x y 0 := fun x y => by rw [Wl]; rintro ⟨i, h, _⟩; omega
   refine ⟨Afl ?_, Afl ?_⟩ <;> simp [e]
 · simp (disch := omega) only [go_sem]
 by_cases hlt : k < 8
 · by_cases h1 : Jn a b k <;> by_cases h2 : Jn b a k
   all_goals simp (disch := omega) only [Aa8, h1, h2, go_sem]
   all_goals refine Ad (k + 1) _ _ rfl (by omega) (by omega) ?_ ?_
   all_goals simp (disch := omega) only [go_sem]
   all_goals try refine ⟨Afl ?_, Afl ?_⟩
   all_goals try refine Afl ?_
   all_goals simp [Adx, h1, h2]
 · obtain rfl : k = 8 := by omega
   by_cases h1 : Yn a b <;> by_cases h2 : Yn b a
   all_goals simp (disch := omega) only [Aa8, Aqv, h1, h2, go_sem]
   all_goals simp [Aww, Awx, h1, h2]
theorem A4i (a b : Vc) {h d} : FunOk Tryz.prog 41 [.vec 8 (vE a), .vec 8 (vE b)] h d (.pv (.b (decide (Yn a b)))) [] := by
 refine Aw Af fn41 (by simp) rfl rfl fun F => ?_;simp (disch := omega) only [ir41, go_sem];refine Aa (Ar3 a b) ?_;simp (disch := omega) only [go_sem];by_cases h1 : Yn a b
 · simp [Ajr, h1]
 · simp [Ajr, h1]
end Go.Proofs.YthiamojjhdcegaaGreat.Fw
namespace Go.Proofs.YthiamojjhdcegaaGreat.Fw
variable [Th]
open Go.RowKit
def J5 (w : World) : View := fun b => match w.heap[b]? with
 | some (.cells c _ _) => some c
 | _ => none
theorem Aam {w : World} {a : Addr} {v : Value} (h : w.cell? a = some v) : a.spot = none ∧ ∃ arr, J5 w a.block = some arr ∧ arr[a.off]? = some v := by
 unfold World.cell? at h;split at h
 · rename_i c ty fr hb;split at h
   · cases h
   · rename_i hs;refine ⟨by cases hx : a.spot <;> simp_all, c, ?_, h⟩;unfold J5;simp [hb]
 · cases h
inductive Sh where
 | int (k : IntKind) | bool | str | arr (n : Nat) (s : Sh) | st (l : List Sh) | sl (s : Sh)
mutual
def Sh.w : Sh → Nat
 | .arr n s => n * s.w
 | .st l => Sh.wL l
 | _ => 1
def Sh.wL : List Sh → Nat
 | [] => 0
 | s :: l => s.w + Sh.wL l
end
mutual
def shB (P : Program) : Sh → TypeId → Bool
 | .int k, t => match P.underlying t with | some (.int k') => decide (k = k') | _ => false
 | .bool, t => match P.underlying t with | some .bool => true | _ => false
 | .str, t => match P.underlying t with | some .string => true | _ => false
 | .arr n s, t => match P.underlying t with | some (.array n' e) => decide (n = n') && decide (P.cellsOf e = s.w) && decide (P.cellsOf t = n * s.w) && shB P s e | _ => false
 | .st l, t => match P.underlying t with | some (.struct fs) => decide (P.cellsOf t = Sh.wL l) && Aq3 P l fs.toList 0 | _ => false
 | .sl s, t => match P.underlying t with | some (.slice e) => decide (P.cellsOf e = s.w) && decide (0 < s.w) && shB P s e | _ => false
def Aq3 (P : Program) : List Sh → List Field → Nat → Bool
 | [], [], _ => true
 | s :: l, f :: fs, off => decide (f.offset = off) && decide (P.cellsOf f.type = s.w) && shB P s f.type && Aq3 P l fs (off + s.w)
 | _, _, _ => false
end
mutual
def GC : Sh → List PV → Prop
 | .int k, cs => ∃ n, cs = [.i k n] ∧ (Lit.int k n).wf = true
 | .bool, cs => ∃ b, cs = [.b b]
 | .str, cs => ∃ l, cs = [.s l] ∧ l.length ≤ maxLen
 | .arr n s, cs => ∃ cc : List (List PV), cs = cc.flatten ∧ cc.length = n ∧ ∀ c ∈ cc, GC s c
 | .st l, cs => GCL l cs
 | .sl s, cs => ∃ es, cs = [.sl false s.w es] ∧ es.length ≤ maxLen ∧ ∀ c ∈ es, GC s c
def GCL : List Sh → List PV → Prop
 | [], cs => cs = []
 | s :: l, cs => ∃ c cs', cs = c ++ cs' ∧ GC s c ∧ GCL l cs'
end
theorem Afw {w : Nat} : ∀ {cc : List (List PV)}, (∀ c ∈ cc, c.length = w) → cc.flatten.length = cc.length * w
 | [], _ => by simp
 | c :: cc, h => by
   rw [List.flatten_cons, List.length_append, Afw fun c hc => h c (by simp [hc]), h c (by simp), List.length_cons, Nat.add_mul]; omega
mutual
theorem GC.len : ∀ {s : Sh} {cs : List PV}, GC s cs → cs.length = s.w
 | .int k, cs, h => by obtain ⟨n, rfl, _⟩ := h; rfl
 | .bool, cs, h => by obtain ⟨n, rfl⟩ := h; rfl
 | .str, cs, h => by obtain ⟨n, rfl, _⟩ := h; rfl
 | .arr n s, cs, h => by
   simp only [GC] at h;obtain ⟨cc, rfl, rfl, h⟩ := h;rw [Afw fun c hc => GC.len (h c hc)]; rfl
 | .st l, cs, h => by simp only [GC] at h; simp only [Sh.w]; exact GCL.len h
 | .sl s, cs, h => by obtain ⟨n, rfl, _⟩ := h; rfl
theorem GCL.len : ∀ {l : List Sh} {cs : List PV}, GCL l cs → cs.length = Sh.wL l
 | [], cs, h => by simp only [GCL] at h; subst h; rfl
 | s :: l, cs, h => by
   simp only [GCL] at h;obtain ⟨c, cs', rfl, h1, h2⟩ := h;rw [List.length_append, GC.len h1, GCL.len h2]; rfl
end
theorem Avw {V : View} {s : Sh} : ∀ (n : Nat) (vs : List Value), vs.length = n * s.w → (∀ i, i < n → ∃ c, GC s c ∧ PCells V c ((vs.drop (i * s.w)).take s.w)) → ∃ cc : List (List PV), cc.length = n ∧ (∀ c ∈ cc, GC s c) ∧ PCells V cc.flatten vs
 | 0, vs, hl, h => by
   have : vs = [] := List.eq_nil_of_length_eq_zero (by omega);subst this;exact ⟨[], rfl, by simp, PCells.nil⟩
 | n + 1, vs, hl, h => by
   rw [Nat.add_mul] at hl;obtain ⟨c, g, p⟩ := h 0 (by omega);rw [Nat.zero_mul, List.drop_zero] at p;obtain ⟨cc, e1, e2, e3⟩ := Avw (V := V) (s := s) n (vs.drop s.w) (by rw [List.length_drop]; omega) fun i hi => by
    obtain ⟨c', g', p'⟩ := h (i + 1) (by omega);refine ⟨c', g', ?_⟩;rw [List.drop_drop, show s.w + i * s.w = (i + 1) * s.w from by rw [Nat.add_mul]; omega];exact p'
   refine ⟨c :: cc, by simp [e1], fun x hx => ?_, ?_⟩
   · rcases List.mem_cons.1 hx with rfl | hx
     · exact g
     · exact e2 x hx
   · rw [List.flatten_cons];have := PCells.append p e3
     rwa [List.take_append_drop] at this
theorem A1m {a : Addr} (h : a.spot = none) (i j : Nat) : (a.add i).add j = ⟨a.block, a.off + (i + j), none⟩ := by
 obtain ⟨b, o, sp⟩ := a;simp only at h; subst h;unfold Addr.add;by_cases hi : i = 0
 · subst hi;by_cases hj : j = 0
   · subst hj; simp
   · simp [hj]
 · by_cases hj : j = 0
   · subst hj; simp [hi]
   · simp [hi, hj]; omega
theorem Aqy {w : World} {s : Sh} {a : Addr} {len cap : Nat} (hcap : len ≤ cap) (hw : 0 < s.w)
 (h : ∀ i, i < len → ∃ c vs, GC s c ∧ PCells (J5 w) c vs ∧ w.cells? 0 (a.add (i * s.w)) s.w = some vs) :
 ∃ es : List (List PV), es.length = len ∧ (∀ c ∈ es, GC s c) ∧ PConc (J5 w) (.sl false s.w es) (.slice (some a) len cap) := by
 by_cases h0 : len = 0
 · subst h0;exact ⟨[], rfl, by simp, .sl false s.w [] (some a) cap (fun _ _ => undef) 0 0 #[] (by simp) (by simp) (by simp) (by simp) (by simp) (by simp)⟩
 · have h' : ∀ i, ∃ c vs, i < len → GC s c ∧ PCells (J5 w) c vs ∧ w.cells? 0 (a.add (i * s.w)) s.w = some vs := fun i => by
    by_cases hi : i < len
    · obtain ⟨c, vs, h1⟩ := h i hi; exact ⟨c, vs, fun _ => h1⟩
    · exact ⟨[], [], fun h => absurd h hi⟩
   obtain ⟨c, hc⟩ := Classical.axiomOfChoice h';obtain ⟨vs, hv⟩ := Classical.axiomOfChoice hc;obtain ⟨g0, p0, k0⟩ := hv 0 (by omega);obtain ⟨_, l0, c0⟩ := World.cells?_some k0;have c00 := c0 0 hw;have hlen0 : 0 < (vs 0).length := by omega
   rw [List.getElem?_eq_getElem hlen0, Nat.zero_mul] at c00;have e0 : (a.add 0).add 0 = a := by simp [Addr.add]
   rw [e0] at c00;obtain ⟨hs, arr, harr, _⟩ := Aam c00;have hget : ∀ i j, i < len → j < s.w → arr[a.off + (i * s.w + j)]? = (vs i)[j]? := fun i j hi hj => by
    obtain ⟨_, _, k⟩ := hv i hi;obtain ⟨_, ll, cc⟩ := World.cells?_some k;have h1 := cc j hj;have hlt : j < (vs i).length := by omega
    rw [List.getElem?_eq_getElem hlt, A1m hs] at h1;obtain ⟨_, arr', ha', h2⟩ := Aam h1;simp only at ha' h2;rw [harr] at ha'; cases ha';rw [h2, List.getElem?_eq_getElem hlt]
   have hel : ∀ i, i < len → ((List.range len).map c)[i]? = some (c i) := fun i hi => by simp [hi]
   refine ⟨(List.range len).map c, by simp, fun x hx => ?_, ?_⟩
   · obtain ⟨i, hi, rfl⟩ := List.mem_map.1 hx;exact (hv i (by simpa using hi)).1
   · have e := PConc.sl (V := J5 w) false s.w ((List.range len).map c) (some a) cap (fun i j => (vs i).getD j undef) a.block a.off arr (by simpa using hcap) (by simp) (fun x hx => by
      obtain ⟨i, hi, rfl⟩ := List.mem_map.1 hx;exact (hv i (by simpa using hi)).1.len) (fun _ => by
      obtain ⟨b, o, sp⟩ := a;simp only at hs; subst hs;exact ⟨rfl, harr⟩) (fun i j hi hj => by
      have hi' : i < len := by simpa using hi
      rw [hget i j hi' hj];have : j < (vs i).length := by
       obtain ⟨_, ll, _⟩ := World.cells?_some (hv i hi').2.2; omega
      simp [List.getD_eq_getElem?_getD, this]) (fun i j x y hx hy => by
      have hi' : i < len := by
       have := (List.getElem?_eq_some_iff.1 hx).1; simpa using this
      rw [hel i hi'] at hx; cases hx;obtain ⟨v, hv1, hv2⟩ := (hv i hi').2.1.2 j y hy;simp only [List.getD_eq_getElem?_getD, hv1, Option.getD_some]; exact hv2)
     simpa using e
section
variable {H : Type} {enc : TypeId × Value → H} {P : Program} {w : World} {spare : Nat → Bool} {held : Bool}
mutual
theorem U0 : ∀ (s : Sh) {t : TypeId} {fuel : Nat} {vs : List Value} {x}, shB P s t = true → DataW.trod enc P w 0 spare held fuel t vs = some x → ∃ cs, GC s cs ∧ PCells (J5 w) cs vs
 | .int k, t, fuel, vs, x, hs, h => by
   simp only [shB] at hs;split at hs
   · rename_i k' hu;obtain rfl := of_decide_eq_true hs;obtain ⟨n, rfl, _, hw⟩ := DataW.trod_int hu h;exact ⟨[.i k n], ⟨n, rfl, hw⟩, PCells.cons (.i _ _) PCells.nil⟩
   · cases hs
 | .bool, t, fuel, vs, x, hs, h => by
   simp only [shB] at hs;split at hs
   · rename_i hu;obtain ⟨n, rfl, _⟩ := DataW.trod_bool hu h;exact ⟨[.b n], ⟨n, rfl⟩, PCells.cons (.b _) PCells.nil⟩
   · cases hs
 | .str, t, fuel, vs, x, hs, h => by
   simp only [shB] at hs;split at hs
   · rename_i hu;obtain ⟨b, rfl, _, hl⟩ := DataW.trod_string hu h;refine ⟨[.s b.data.toList], ⟨b.data.toList, rfl, by simpa using hl⟩, PCells.cons ?_ PCells.nil⟩;have := PConc.s (V := J5 w) b.data.toList;simpa using this
   · cases hs
 | .arr n s, t, fuel, vs, x, hs, h => by
   simp only [shB] at hs;split at hs
   · rename_i n' e hu;simp only [Bool.and_eq_true, decide_eq_true_eq] at hs;obtain ⟨⟨⟨rfl, h1⟩, h2⟩, h3⟩ := hs;obtain ⟨xs, m, rfl, _, hl, hx, hg⟩ := DataW.trod_array hu h;rw [h1] at hg;obtain ⟨cc, e1, e2, e3⟩ := Avw (V := J5 w) (s := s) n vs (by rw [hl, h2]) fun i hi => by
      have := hg i hi;rw [List.getElem?_eq_getElem (by omega)] at this;exact U0 s h3 this
     exact ⟨cc.flatten, by simp only [GC]; exact ⟨cc, rfl, e1, e2⟩, e3⟩
   · cases hs
 | .st l, t, fuel, vs, x, hs, h => by
   simp only [shB] at hs;split at hs
   · rename_i fs hu;simp only [Bool.and_eq_true, decide_eq_true_eq] at hs;obtain ⟨h2, h3⟩ := hs;obtain ⟨xs, m, rfl, _, hl, hx, hg⟩ := DataW.trod_struct hu h;obtain ⟨cs, e1, e2⟩ := Adn l (off := 0) (vs := vs) h3 fun f hf => by
      obtain ⟨i, hi⟩ := List.mem_iff_getElem?.1 hf;have hi2 : fs[i]? = some f := by simpa using hi
      have := hg i f hi2;have hlt := (Array.getElem?_eq_some_iff.1 hi2).1;rw [List.getElem?_eq_getElem (by omega)] at this;exact ⟨_, _, this⟩
     rw [List.drop_zero, ← h2, ← hl, List.take_length] at e2;exact ⟨cs, by simp only [GC]; exact e1, e2⟩
   · cases hs
 | .sl s, t, fuel, vs, x, hs, h => by
   simp only [shB] at hs;split at hs
   · rename_i e hu;simp only [Bool.and_eq_true, decide_eq_true_eq] at hs;obtain ⟨⟨h1, h2⟩, h3⟩ := hs;rcases DataW.trod_slice hu h with ⟨rfl, _⟩ | ⟨a, len, cap, C1, rest, n, rfl, rfl, _, _, hl, hm, hle, hg, _⟩
     · exact ⟨[.sl false s.w []], by simp only [GC]; exact ⟨[], rfl, by simp, by simp⟩, PCells.cons (.sl false s.w [] none 0 (fun _ _ => undef) 0 0 #[] (by simp) (by simp) (by simp) (by simp) (by simp) (by simp)) PCells.nil⟩
     · rw [h1] at hg;obtain ⟨es, e1, e2, e3⟩ := Aqy (w := w) (s := s) (a := a) hl h2 fun i hi => by
        have h4 := hg i hi;rw [List.getElem?_eq_getElem (by omega)] at h4;obtain ⟨vs, h5, h6⟩ := Option.bind_eq_some_iff.1 h4;obtain ⟨c, g, p⟩ := U0 s h3 h6;exact ⟨c, vs, g, p, h5⟩
       exact ⟨[.sl false s.w es], by simp only [GC]; exact ⟨es, rfl, by omega, e2⟩, PCells.cons e3 PCells.nil⟩
   · cases hs
theorem Adn : ∀ (l : List Sh) {fs : List Field} {off : Nat} {vs : List Value}, Aq3 P l fs off = true →
 (∀ f ∈ fs, ∃ n x, DataW.trod enc P w 0 spare held n f.type ((vs.drop f.offset).take (P.cellsOf f.type)) = some x) → ∃ cs, GCL l cs ∧ PCells (J5 w) cs ((vs.drop off).take (Sh.wL l))
 | [], fs, off, vs, hs, h => ⟨[], by simp only [GCL], by simp only [Sh.wL, List.take_zero]; exact PCells.nil⟩
 | s :: l, [], off, vs, hs, h => by simp [Aq3] at hs
 | s :: l, f :: fs, off, vs, hs, h => by
   simp only [Aq3, Bool.and_eq_true, decide_eq_true_eq] at hs;obtain ⟨⟨⟨h1, h2⟩, h3⟩, h4⟩ := hs;obtain ⟨n, x, hx⟩ := h f (by simp);obtain ⟨c, g, p⟩ := U0 s h3 hx;obtain ⟨cs, gl, pl⟩ := Adn l (vs := vs) h4 fun f hf => h f (by simp [hf]);refine ⟨c ++ cs, by simp only [GCL]; exact ⟨c, cs, rfl, g, gl⟩, ?_⟩;rw [h1, h2] at p;have := PCells.append p pl;have e : (vs.drop off).take (Sh.wL (s :: l)) = (vs.drop off).take s.w ++ (vs.drop (off + s.w)).take (Sh.wL l) := by
    simp only [Sh.wL];rw [List.take_add, List.drop_drop]
   rw [e]; exact this
end
end
mutual
def L3 : Sh → List PV → SV
 | .arr n s, cs => .vec (n * s.w) cs
 | .st l, cs => .agg (V5 l cs)
 | _, cs => .pv (cs.headD (.b false))
def V5 : List Sh → List PV → List SV
 | [], _ => []
 | s :: l, cs => (L3 s (cs.take s.w)).segs ++ V5 l (cs.drop s.w)
end
def Sh.isAg : Sh → Bool
 | .arr _ _ => true
 | .st _ => true
 | _ => false
theorem R4 {V : View} {ρ : Nat → Value} : ∀ {l m : List SV} {a b : List Value}, Cells V ρ l a → Cells V ρ m b → Cells V ρ (l ++ m) (a ++ b)
 | [], m, a, b, h1, h2 => by simp only [Cells] at h1; subst h1; exact h2
 | x :: l, m, a, b, h1, h2 => by
   simp only [Cells, List.cons_append] at h1 ⊢;obtain ⟨u, us, rfl, c, d, e, f⟩ := h1;exact ⟨u, us ++ b, by simp, c, d, e, R4 f h2⟩
mutual
theorem Aal {V : View} {ρ : Nat → Value} : ∀ (s : Sh) {cs : List PV} {v : Value}, GC s cs → PCells V cs (Ar v) → (s.isAg = true → ∃ vs, v = .agg ⟨vs⟩) → (s.isAg = false → ∀ vs, v ≠ .agg vs) → Conc V ρ (L3 s cs) v
 | .int k, cs, v, g, p, _, h => by
   obtain ⟨n, rfl, _⟩ := g;have e : Ar v = [v] := by cases v <;> first | rfl | exact absurd rfl (h rfl _)
   rw [e] at p;obtain ⟨v', h1, h2⟩ := p.2 0 _ rfl;simp at h1; subst h1;simp only [L3, Conc, List.headD_cons]; exact h2
 | .bool, cs, v, g, p, _, h => by
   obtain ⟨n, rfl⟩ := g;have e : Ar v = [v] := by cases v <;> first | rfl | exact absurd rfl (h rfl _)
   rw [e] at p;obtain ⟨v', h1, h2⟩ := p.2 0 _ rfl;simp at h1; subst h1;simp only [L3, Conc, List.headD_cons]; exact h2
 | .str, cs, v, g, p, _, h => by
   obtain ⟨n, rfl, _⟩ := g;have e : Ar v = [v] := by cases v <;> first | rfl | exact absurd rfl (h rfl _)
   rw [e] at p;obtain ⟨v', h1, h2⟩ := p.2 0 _ rfl;simp at h1; subst h1;simp only [L3, Conc, List.headD_cons]; exact h2
 | .sl s, cs, v, g, p, _, h => by
   simp only [GC] at g;obtain ⟨n, rfl, _⟩ := g;have e : Ar v = [v] := by cases v <;> first | rfl | exact absurd rfl (h rfl _)
   rw [e] at p;obtain ⟨v', h1, h2⟩ := p.2 0 _ rfl;simp at h1; subst h1;simp only [L3, Conc, List.headD_cons]; exact h2
 | .arr n s, cs, v, g, p, h, _ => by
   obtain ⟨vs, rfl⟩ := h rfl;have hl := g.len;simp only [L3, Conc];refine ⟨vs, rfl, ?_, p⟩;have e1 : vs.length = cs.length := p.1.symm;rw [e1, hl]; rfl
 | .st l, cs, v, g, p, h, _ => by
   obtain ⟨vs, rfl⟩ := h rfl;simp only [GC] at g;simp only [L3, Conc];exact ⟨vs, rfl, N1 l g p⟩
theorem N1 {V : View} {ρ : Nat → Value} : ∀ (l : List Sh) {cs : List PV} {vs : List Value}, GCL l cs → PCells V cs vs → Cells V ρ (V5 l cs) vs
 | [], cs, vs, g, p => by
   simp only [GCL] at g; subst g;have : vs = [] := List.eq_nil_of_length_eq_zero (by rw [← p.1]; rfl);subst this;simp only [V5, Cells]
 | s :: l, cs, vs, g, p => by
   simp only [GCL] at g;obtain ⟨c, cs', rfl, g1, g2⟩ := g;have hl := g1.len;have p1 : PCells V c (vs.take c.length) := by
    have := p.split c.length |>.1;simpa using this
   have p2 : PCells V cs' (vs.drop c.length) := by
    have := p.split c.length |>.2;simpa using this
   have hvs : vs = vs.take c.length ++ vs.drop c.length := (List.take_append_drop _ _).symm;have hlen : (vs.take c.length).length = s.w := by rw [← p1.1, hl]
   simp only [V5];rw [List.take_left' hl, List.drop_left' hl];rw [hvs];refine R4 ?_ (N1 l g2 p2);cases s with
   | st m =>
     simp only [GC] at g1;simp only [L3, SV.segs];exact N1 m g1 p1
   | arr n s' =>
     have := Aal (V := V) (ρ := ρ) (.arr n s') (v := .agg ⟨vs.take c.length⟩) g1 (by simpa [Ar] using p1) (fun _ => ⟨_, rfl⟩) (by simp [Sh.isAg]);simp only [L3] at this ⊢;simp only [SV.segs, Cells];exact ⟨_, [], by simp [Ar], this, by simpa [Ar, SV.width, Sh.w] using hlen, fun v hv => p1.one v (by simpa [Ar] using hv), rfl⟩
   | int k =>
     obtain ⟨n, rfl, _⟩ := g1;obtain ⟨v, h1, h2⟩ := p1.2 0 _ rfl;have e : vs.take [PV.i k n].length = [v] := by
      match hx : vs.take [PV.i k n].length, h1, hlen with
      | [u], h1, _ => simp at h1; rw [h1]
     have ho := h2.one;have fv : Ar v = [v] := by cases v <;> first | rfl | exact absurd ho (by simp [A3])
     rw [e];simp only [L3, SV.segs, Cells, Conc, List.headD_cons];exact ⟨v, [], by rw [fv]; rfl, h2, by rw [fv]; rfl, by rw [fv]; simpa using ho, rfl⟩
   | bool =>
     obtain ⟨n, rfl⟩ := g1;obtain ⟨v, h1, h2⟩ := p1.2 0 _ rfl;have e : vs.take [PV.b n].length = [v] := by
      match hx : vs.take [PV.b n].length, h1, hlen with
      | [u], h1, _ => simp at h1; rw [h1]
     have ho := h2.one;have fv : Ar v = [v] := by cases v <;> first | rfl | exact absurd ho (by simp [A3])
     rw [e];simp only [L3, SV.segs, Cells, Conc, List.headD_cons];exact ⟨v, [], by rw [fv]; rfl, h2, by rw [fv]; rfl, by rw [fv]; simpa using ho, rfl⟩
   | str =>
     obtain ⟨n, rfl, _⟩ := g1;obtain ⟨v, h1, h2⟩ := p1.2 0 _ rfl;have e : vs.take [PV.s n].length = [v] := by
      match hx : vs.take [PV.s n].length, h1, hlen with
      | [u], h1, _ => simp at h1; rw [h1]
     have ho := h2.one;have fv : Ar v = [v] := by cases v <;> first | rfl | exact absurd ho (by simp [A3])
     rw [e];simp only [L3, SV.segs, Cells, Conc, List.headD_cons];exact ⟨v, [], by rw [fv]; rfl, h2, by rw [fv]; rfl, by rw [fv]; simpa using ho, rfl⟩
   | sl s' =>
     simp only [GC] at g1;obtain ⟨n, rfl, _⟩ := g1;obtain ⟨v, h1, h2⟩ := p1.2 0 _ rfl;have e : vs.take [PV.sl false s'.w n].length = [v] := by
      match hx : vs.take [PV.sl false s'.w n].length, h1, hlen with
      | [u], h1, _ => simp at h1; rw [h1]
     have ho := h2.one;have fv : Ar v = [v] := by cases v <;> first | rfl | exact absurd ho (by simp [A3])
     rw [e];simp only [L3, SV.segs, Cells, Conc, List.headD_cons];exact ⟨v, [], by rw [fv]; rfl, h2, by rw [fv]; rfl, by rw [fv]; simpa using ho, rfl⟩
end
theorem Amu {P : Program} {w : World} {base : Nat} {t : TypeId} {v : Value} : ∀ {s : Sh}, shB P s t = true → Value.okWide P w .any base t v → (s.isAg = true → ∃ vs, v = .agg ⟨vs⟩) ∧ (s.isAg = false → ∀ vs, v ≠ .agg vs)
 | .int k, hs, h => by
   simp only [shB] at hs;split at hs
   · rename_i k' hu;obtain ⟨n, rfl⟩ := WideShapes.okWide_int hu h;exact ⟨fun h => (by cases h), fun _ vs e => by cases e⟩
   · cases hs
 | .bool, hs, h => by
   simp only [shB] at hs;split at hs
   · rename_i hu;obtain ⟨n, rfl⟩ := WideShapes.okWide_bool hu h;exact ⟨fun h => (by cases h), fun _ vs e => by cases e⟩
   · cases hs
 | .str, hs, h => by
   simp only [shB] at hs;split at hs
   · rename_i hu;obtain ⟨n, rfl⟩ := WideShapes.okWide_string hu h;exact ⟨fun h => (by cases h), fun _ vs e => by cases e⟩
   · cases hs
 | .sl s, hs, h => by
   simp only [shB] at hs;split at hs
   · rename_i e hu;obtain ⟨a, b, c, rfl⟩ := WideShapes.okWide_slice hu h;exact ⟨fun h => (by cases h), fun _ vs e => by cases e⟩
   · cases hs
 | .arr n s, hs, h => by
   simp only [shB] at hs;split at hs
   · rename_i n' e hu;simp only [Value.okWide, hu] at h;obtain ⟨⟨xs⟩, rfl, _⟩ := h;exact ⟨fun _ => ⟨_, rfl⟩, fun h => (by cases h)⟩
   · cases hs
 | .st l, hs, h => by
   simp only [shB] at hs;split at hs
   · rename_i fs hu;simp only [Value.okWide, hu] at h;obtain ⟨⟨xs⟩, rfl, _⟩ := h;exact ⟨fun _ => ⟨_, rfl⟩, fun h => (by cases h)⟩
   · cases hs
theorem Agi {H : Type} {enc : TypeId × Value → H} {P : Program} {w : World} {spare : Nat → Bool} {held : Bool} {base : Nat} {t : TypeId} {v : Value} {d : DataW H} {ps : List MemPlace} {s : Sh} (hs : shB P s t = true)
 (hv : Value.okWide P w .any base t v) (h : DataW.Trod enc P w 0 spare held t v d ps) : ∃ cs, GC s cs ∧ Conc (J5 w) (fun _ => undef) (L3 s cs) v := by
 obtain ⟨fuel, hf⟩ := h;obtain ⟨cs, g, p⟩ := U0 s hs hf;rw [Fy] at p;obtain ⟨h1, h2⟩ := Amu hs hv;exact ⟨cs, g, Aal s g p h1 h2⟩
end Go.Proofs.YthiamojjhdcegaaGreat.Fw
namespace Go.Proofs.YthiamojjhdcegaaGreat.Fw
variable [Th]
open Go.RowKit
theorem Afx {m : Nat} : ∀ {cc : List (List PV)} {i j : Nat}, (∀ c ∈ cc, c.length = m) → j < m → cc.flatten[i * m + j]? = (cc[i]?).bind (·[j]?)
 | [], i, j, _, _ => by simp
 | c :: cc, 0, j, h, hj => by
   have hc := h c (by simp);rw [List.flatten_cons, Nat.zero_mul, Nat.zero_add, List.getElem?_append_left (by omega)]; rfl
 | c :: cc, i + 1, j, h, hj => by
   have hc := h c (by simp);rw [List.flatten_cons, List.getElem?_append_right (by rw [Nat.add_mul]; omega)];rw [show (i + 1) * m + j - c.length = i * m + j from by rw [Nat.add_mul]; omega];rw [Afx (fun c hc => h c (by simp [hc])) hj]; rfl
theorem A7h {n : Nat} {s : Sh} {cs : List PV} (h : GC (.arr n s) cs) : cs.length = n * s.w ∧ ∀ i, i < n → ∃ c, GC s c ∧ ∀ j, j < s.w → cs[i * s.w + j]? = c[j]? := by
 refine ⟨h.len, fun i hi => ?_⟩;simp only [GC] at h;obtain ⟨cc, rfl, rfl, g⟩ := h;refine ⟨cc[i], g _ (List.getElem_mem _), fun j hj => ?_⟩;rw [Afx (fun c hc => (g c hc).len) hj, List.getElem?_eq_getElem hi]; rfl
theorem Aqf {n : Int} (h : (Lit.int .u32 n).wf = true) : 0 ≤ n ∧ n < 4294967296 := by
 simp [Lit.wf, IntKind.min, IntKind.max, IntKind.signed, IntKind.bits] at h; omega
theorem A5w {n : Int} (h : (Lit.int .i64 n).wf = true) : -9223372036854775808 ≤ n ∧ n < 9223372036854775808 := by
 simp [Lit.wf, IntKind.min, IntKind.max, IntKind.signed, IntKind.bits] at h; omega
theorem A1a {n : Nat} {cs : List PV} {f : Nat → PV} (hl : cs.length = n) (h : ∀ i, i < n → cs[i]? = some (f i)) : cs = Cj n f := by
 apply List.ext_getElem?;intro i;by_cases hi : i < n
 · rw [h i hi, Iv hi]
 · rw [List.getElem?_eq_none (by omega), List.getElem?_eq_none (by rw [Eh]; omega)]
theorem Bct {cs : List PV} (h : GC (.arr 8 (.int .u32)) cs) : ∃ a : Vc, cs = vE a ∧ ∀ i, i < 8 → a i < 4294967296 := by
 obtain ⟨hl, g⟩ := A7h h;have key : ∀ i, ∃ n : Nat, i < 8 → cs[i]? = some (.i .u32 n) ∧ n < 4294967296 := fun i => by
  by_cases hi : i < 8
  · obtain ⟨c, ⟨n, rfl, hw⟩, k⟩ := g i hi;have := k 0 (by simp [Sh.w]);simp only [Sh.w, Nat.mul_one, Nat.add_zero] at this;have hr := Aqf hw;refine ⟨n.toNat, fun _ => ⟨?_, by omega⟩⟩;rw [this, show ((n.toNat : Nat) : Int) = n from by omega]; rfl
  · exact ⟨0, fun h => absurd h hi⟩
 obtain ⟨a, ha⟩ := Classical.axiomOfChoice key;exact ⟨a, A1a hl fun i hi => (ha i hi).1, fun i hi => (ha i hi).2⟩
theorem Awn {s : Sh} {cs : List PV} (h : GC (.sl s) cs) : ∃ es, cs = [.sl false s.w es] ∧ es.length ≤ maxLen ∧ ∀ c ∈ es, GC s c := by
 simp only [GC] at h; exact h
end Go.Proofs.YthiamojjhdcegaaGreat.Fw
namespace Go.Proofs.YthiamojjhdcegaaGreat.Fw
variable [Th]
open Go.RowKit Go.Proofs
def Ch (r : Int) (q : Nat) (r' : Int) (q' : Nat) : Bool := decide (q < q' ∨ q = q' ∧ r < r')
theorem Nn (r : Int) (q : Nat) (r' : Int) (q' : Nat) {h d} : FunOk Tryz.prog 59 [.vec 2 [.i .i64 r, .i .u32 q], .vec 2 [.i .i64 r', .i .u32 q']] h d (.pv (.b (Ch r q r' q'))) [] := by
 refine Aw Af fn59 (by simp) rfl rfl fun F => ?_;by_cases h : q = q'
 · subst h;have e : Ch r q r' q = decide (r < r') := by simp [Ch]
   simp (disch := omega) only [ir59, e, go_sem]
 · have hz : ¬ (q : Int) = (q' : Int) := by omega
   have e : Ch r q r' q' = decide ((q : Int) < (q' : Int)) := by simp [Ch, h]
   simp (disch := omega) only [ir59, e, go_sem]
theorem F7 (r : Int) (q : Nat) (r' : Int) (q' : Nat) {h d} : FunOk Tryz.prog 16 [.vec 2 [.i .i64 r, .i .u32 q], .vec 2 [.i .i64 r', .i .u32 q']] h d (.pv (.b (Ch r q r' q'))) [] := by
 refine Aw Af fn16 (by simp) rfl rfl fun F => ?_;by_cases h : q = q'
 · subst h;have e : Ch r q r' q = decide (r < r') := by simp [Ch]
   have hl : ¬ (q : Int) < (q : Int) := by omega
   simp (disch := omega) only [ir16, e, hl, go_sem]
 · have hz : ¬ (q : Int) = (q' : Int) := by omega
   have e : Ch r q r' q' = decide ((q : Int) < (q' : Int)) := by simp [Ch, h]
   by_cases hl : (q : Int) < (q' : Int)
   · simp (disch := omega) only [ir16, e, hl, go_sem]
   · simp (disch := omega) only [ir16, e, hl, go_sem]
theorem Kj {r r' : Int} {q q' : Nat} (h : r = r' ∧ q = q') : Yl [.i .i64 r, .i .u32 q] [.i .i64 r', .i .u32 q'] = true := by
 obtain ⟨rfl, rfl⟩ := h; simp [Yl]
theorem Ib {r r' : Int} {q q' : Nat} (h : ¬ (r = r' ∧ q = q')) : Yl [.i .i64 r, .i .u32 q] [.i .i64 r', .i .u32 q'] = false := by
 simp only [Yl, decide_eq_false_iff_not];intro e;simp only [List.cons.injEq, PV.i.injEq, true_and, and_true] at e;exact h ⟨e.1, by omega⟩
abbrev Bo := Int × Nat
def Em (b : Bo) : List PV := [.i .i64 b.1, .i .u32 b.2]
def Ho (a : Vc) (r : Int) : Nat := if 1 ≤ r ∧ r ≤ 8 then a (r - 1).toNat else 0
def Bs (a : Vc) (r : Int) (q : Nat) : Bool := decide (1 ≤ q ∧ q ≤ Ho a r)
theorem A9a (a : Vc) (r : Int) {h d} : FunOk Tryz.prog 50 [.vec 8 (vE a), .pv (.i .i64 r)] h d (.pv (.i .u32 (Ho a r))) [] := by
 refine Aw Af fn50 (by simp) rfl rfl fun F => ?_;by_cases h1 : r < 1
 · have e : Ho a r = 0 := by simp [Ho]; omega
   simp (disch := omega) only [ir50, h1, e, go_sem]
 by_cases h2 : 8 < r
 · have e : Ho a r = 0 := by simp [Ho]; omega
   simp (disch := omega) only [ir50, h1, h2, e, go_sem]
 have e : Ho a r = a (r - 1).toNat := by simp [Ho]; omega
 obtain ⟨k, rfl⟩ : ∃ k : Nat, r = k + 1 := ⟨(r - 1).toNat, by omega⟩
 have ek : ((k : Int) + 1 - 1) = k := by omega
 simp (disch := omega) only [ir50, h1, h2, e, ek, go_sem]
def Abe (a : Vc) (r : Int) (k : Nat) : FS := mk [(5, .pv (.i .i64 k)), (1, .pv (.i .i64 r)), (2, .p 2 0)] [(2, some (.var (.vec 8 (vE a))))]
theorem P6 (a : Vc) (r : Int) {h d} : FunOk Tryz.prog 17 [.vec 8 (vE a), .pv (.i .i64 r)] h d (.pv (.i .u32 (Ho a r))) [] := by
 refine Aw Af fn17 (by simp) rfl rfl fun F => ?_;simp (disch := omega) only [ir17, go_sem];refine A0 Af (Abe a r) (fun k => k ≤ 8 ∧ ∀ i : Nat, i < k → (i : Int) + 1 ≠ r) (fun k => 8 - k) 0 (by simp) (Ak ?_ ?_) fun k hk => ?_
 · simp (disch := omega) only [go_sem]
 · simp (disch := omega) only [go_sem]
 obtain ⟨hk1, hk2⟩ := hk;by_cases hlt : k < 8
 · by_cases he : (k : Int) + 1 = r
   · subst he;have e : Ho a ((k : Int) + 1) = a k := by
      have e1 : ((k : Int) + 1 - 1).toNat = k := by omega
      simp [Ho, e1]; omega
     simp (disch := omega) only [Abe, e, go_sem]
   · simp (disch := omega) only [Abe, he, go_sem];refine Ad (k + 1) _ _ rfl ⟨by omega, fun i hi => ?_⟩ (by omega) ?_ ?_
     · by_cases e : i = k
       · subst e; exact he
       · exact hk2 i (by omega)
     · simp (disch := omega) only [go_sem]
     · simp (disch := omega) only [go_sem]
 · obtain rfl : k = 8 := by omega
   have e : Ho a r = 0 := by
    unfold Ho;rw [if_neg];intro h;exact hk2 (r - 1).toNat (by omega) (by omega)
   simp (disch := omega) only [Abe, e, go_sem]
theorem Js (a : Vc) (r : Int) (q : Nat) {h d} : FunOk Tryz.prog 23 [.vec 8 (vE a), .vec 2 [.i .i64 r, .i .u32 q]] h d (.pv (.b (Bs a r q))) [] := by
 refine Aw Af fn23 (by simp) rfl rfl fun F => ?_;by_cases h1 : (1 : Int) ≤ q
 · simp (disch := omega) only [ir23, h1, go_sem];refine Aa (A9a a r) ?_;have e : Bs a r q = decide ((q : Int) ≤ (Ho a r : Int)) := decide_eq_decide.2 (by omega);simp (disch := omega) only [e, go_sem]
 · have e : Bs a r q = false := decide_eq_false (by omega);simp (disch := omega) only [ir23, h1, e, go_sem]
theorem P5 (a : Vc) (r : Int) (q : Nat) {h d} : FunOk Tryz.prog 40 [.vec 8 (vE a), .vec 2 [.i .i64 r, .i .u32 q]] h d (.pv (.b (Bs a r q))) [] := by
 refine Aw Af fn40 (by simp) rfl rfl fun F => ?_;by_cases h1 : (0 : Int) < q
 · simp (disch := omega) only [ir40, h1, go_sem];refine Aa (P6 a r) ?_;have e : Bs a r q = decide ((q : Int) ≤ (Ho a r : Int)) := decide_eq_decide.2 (by omega);simp (disch := omega) only [e, go_sem]
 · have e : Bs a r q = false := decide_eq_false (by omega);simp (disch := omega) only [ir40, h1, e, go_sem]
theorem Hd {l : List SV} {cs : List PV} {n : Nat} (hc : SV.cellsL? l = some cs) (hn : cs.length = n) : Imp (.agg l) (.vec n cs) := by
 intro V ρ v h;have hp := Conc.cells h (x := .agg l) (cs := cs) hc;simp only [Conc] at h ⊢;obtain ⟨vs, rfl, _⟩ := h;exact ⟨vs, rfl, by rw [← hn]; exact hp.1.symm, hp⟩
def ImpL : List SV → List SV → Prop
 | [], [] => True
 | x :: l, y :: m => Imp x y ∧ ImpL l m
 | _, _ => False
theorem ImpL.conc {V : View} {ρ : Nat → Value} : ∀ {l m : List SV} {vs : List Value}, ImpL l m → ConcL V ρ l vs → ConcL V ρ m vs
 | [], [], vs, _, h => h
 | x :: l, y :: m, vs, h, k => by
   simp only [ConcL] at k ⊢;obtain ⟨v, us, rfl, k1, k2⟩ := k;exact ⟨v, us, rfl, h.1 _ _ _ k1, ImpL.conc h.2 k2⟩
 | [], _ :: _, _, h, _ => h.elim
 | _ :: _, [], _, h, _ => h.elim
theorem FunOk.imp {P : Program} {f : Nat} {args args' : List SV} {h d x u} (hf : FunOk P f args' h d x u) (hi : ImpL args args') (ht : ∀ n ∈ A5 args', n ∈ A5 args) : FunOk P f args h d x u :=
 ⟨hf.1, fun F N ρ s a w hR hh vs hc => hf.2 F N ρ s a w hR (fun n hn => hh n (ht n hn)) vs (hi.conc hc)⟩
abbrev Ad2 : Sh := .st [.int .i64, .int .u32]
theorem Agt {cs : List PV} (h : GC Ad2 cs) : ∃ b : Bo, cs = Em b ∧ (-9223372036854775808 ≤ b.1 ∧ b.1 < 9223372036854775808) ∧ b.2 < 4294967296 := by
 simp only [GC, GCL] at h;obtain ⟨c, cs', rfl, ⟨n, rfl, hw⟩, c', cs'', rfl, ⟨m, rfl, hw'⟩, rfl⟩ := h;have hr := Aqf hw';exact ⟨(n, m.toNat), by simp [Em]; omega, A5w hw, by show m.toNat < _; omega⟩
theorem Ac0 {α : Type} {f : α → List PV} {p : α → Prop} {s : Sh} (key : ∀ {cs}, GC s cs → ∃ x, cs = f x ∧ p x) : ∀ {es : List (List PV)}, (∀ c ∈ es, GC s c) → ∃ l : List α, es = l.map f ∧ ∀ x ∈ l, p x
 | [], _ => ⟨[], rfl, by simp⟩
 | c :: es, h => by
   obtain ⟨l, e, hp⟩ := Ac0 (es := es) key fun c hc => h c (List.mem_cons_of_mem _ hc);obtain ⟨x, e2, hx⟩ := key (h c List.mem_cons_self);exact ⟨x :: l, by rw [e, e2]; rfl, fun y hy => by
    rcases List.mem_cons.1 hy with hy | hy
    · rw [hy]; exact hx
    · exact hp y hy⟩
structure Ent where
 id : Bo
 dir : Bo
 name : List UInt8
 obj : Bo
 gone : Vc
def Aot (x : Ent) : List PV := [.i .i64 x.id.1, .i .u32 x.id.2, .i .i64 x.dir.1, .i .u32 x.dir.2, .s x.name, .i .i64 x.obj.1, .i .u32 x.obj.2]
def Bj (x : Ent) : List PV := Aot x ++ vE x.gone
theorem Ajs (a : Vc) : (vE a).all PV.flat = true := by simp [vE, Cj, PV.flat]
theorem Dn (x : Ent) : (Bj x).length = 15 := by simp [Bj, Aot, Bh]
theorem Aiq (x : Ent) : (Bj x).all PV.flat = true := by
 unfold Bj Aot; rw [List.all_append, Ajs]; rfl
theorem Ji (l : List Ent) : ∀ c ∈ l.map Bj, c.all PV.flat = true := by
 intro c hc;obtain ⟨v, _, rfl⟩ := List.mem_map.1 hc;exact Aiq v
theorem Fd (x : Ent) (K : KK) : LoadK (some (Bj x)) 0 15 true K = K (.vec 15 (Bj x)) [] := by
 have e : ((Bj x).drop 0).take 15 = Bj x := List.take_of_length_le (by rw [List.drop_zero, Dn]; omega);simp only [LoadK, Hm, eq_iff_iff, e, Dn];exact ⟨fun h => h.2.2, fun h => ⟨by omega, .inl trivial, h⟩⟩
theorem Di (x : Ent) (K : KK) : LoadK (some (Bj x)) 0 2 true K = K (.vec 2 [.i .i64 x.id.1, .i .u32 x.id.2]) [] := by
 simp only [LoadK, Hm, eq_iff_iff, Dn];exact ⟨fun h => h.2.2, fun h => ⟨by omega, .inl trivial, h⟩⟩
theorem C5 (x : Ent) (K : KK) : LoadK (some (Bj x)) 5 2 true K = K (.vec 2 [.i .i64 x.obj.1, .i .u32 x.obj.2]) [] := by
 simp only [LoadK, Hm, eq_iff_iff, Dn];exact ⟨fun h => h.2.2, fun h => ⟨by omega, .inl trivial, h⟩⟩
theorem Im (x : Ent) (K : KK) : LoadK (some (Bj x)) 7 8 true K = K (.vec 8 (vE x.gone)) [] := by
 have e : ((Bj x).drop 7).take 8 = vE x.gone := by
  unfold Bj;rw [List.drop_left' (by rfl)];exact List.take_of_length_le (by rw [Bh]; omega)
 simp only [LoadK, Hm, eq_iff_iff, Dn, e];exact ⟨fun h => h.2.2, fun h => ⟨by omega, .inl trivial, h⟩⟩
theorem G0 (x : Ent) (v : Vc) : splice (Bj x) 7 (vE v) = Bj { x with gone := v } := by
 unfold splice Bj;rw [List.take_left' (by rfl), Bh];have : (Aot x ++ vE x.gone).drop (7 + 8) = [] := List.drop_of_length_le (by simp [Aot, Bh]);rw [this, List.append_nil]; rfl
theorem Jr {P : Program} {F : Fr} {N : Nat} {ρ : Nat → Value} {s : FS} {a : Act} {w : World} {tS tR e : TypeId} {sz m n lo hi : Nat} {es fs : List (List PV)} (ht : P.underlying tS = some (.slice e)) (hz : Ai P e = some sz) (h1 : sz ≠ 1)
 (hR : RelR F N ρ s a w) (hm : s.h m = some (.row sz fs)) (hn : s.h n = some (.row sz es)) (hne : m ≠ n) (hfs : fs ≠ []) (hes : es ≠ []) (hlt : lo < hi) {v u : Value}
 (hv : Conc (vw F w ρ s) ρ (.os m) v) (hu : Conc (vw F w ρ s) ρ (.ov n sz lo hi) u) :
 (Extern.SlicesOverlaps.overlaps #[tS, tS] #[tR] #[v, u]).run P w = .ok (.bool false) w := by
 obtain ⟨bm, lm, cm, vm, tym, frm, a1, a2, a3, a4, a5, a6, a7, a8, a9, rfl, a11⟩ := Hu (hR.own m _ hm) (List.length_pos_iff.2 hfs);obtain ⟨bn, ln, cn, vn, tyn, frn, b1, b2, b3, b4, b5, b6, b7, b8, b9, rfl, b11⟩ := Hu (hR.own n _ hn) (List.length_pos_iff.2 hes);simp only [Conc] at hv hu;obtain ⟨base, len, cap, base', c1, c2, c3, rfl, c4⟩ := hu;rw [hv.1, a1];rw [b1] at c1; cases c1;have := c4 (.inl hlt);simp only [Option.map_some, Dd, Nat.zero_add] at this;subst this;have hbb : bm ≠ bn := fun e => hne (hR.inj m n _ _ bm hm hn (by rw [a1]; simp [Cf, a7]) (by rw [b1]; simp [Cf, b7, e]));have hfr : frm.1 = frm.2 := by rcases a3 with h | h; exact h; exact absurd h.1 h1
 have fz : ∀ o, w.frozen? ⟨bm, o, none⟩ = false := fun o => by
  unfold World.frozen?;simp only [a2];obtain ⟨x, y⟩ := frm;simp only at hfr;simp; omega
 exact Lib.run_overlaps_apart w tS tR e ht sz (fun w => Ce hz w) ⟨bm, 0, none⟩ ⟨bn, lo * sz, none⟩ _ _ _ _ hbb tym tyn vm.length vn.length (by unfold World.shape?; rw [a2]; rfl) (by unfold World.shape?; rw [b2]; rfl)
  (by rw [b5]; exact Nat.mul_ne_zero b7 (by omega)) (fz _) (fz _)
theorem A4g {m n lo hi : Nat} {es fs : List (List PV)} {h} (hm : h m = some (.row 15 fs)) (hn : h n = some (.row 15 es)) (hne : m ≠ n) (hfs : fs ≠ []) (hes : es ≠ []) (hlt : lo < hi) : Aau Tryz.prog 92 [.os m, .ov n 15 lo hi] h (.pv (.b false)) := by
 intro F N ρ s a w hR hh vs hc;simp only [ConcL] at hc;obtain ⟨v, us, rfl, hv, u, us', rfl, hu, rfl⟩ := hc;have hsm := (hh m (by simp [A5, tn])).trans hm;have hsn := (hh n (by simp [A5, tn])).trans hn;refine ⟨.bool false, ?_, E5⟩;rw [run_callFunc_extern (fn := (Tryz.prog.funcs[92]?).getD default) (by kernel_rfl) (by kernel_rfl) (by kernel_rfl) (by kernel_rfl) (e := Extern.SlicesOverlaps.overlaps #[34, 34] #[4]) (by kernel_rfl)];rw [Jr (tS := 34) (e := 51) (by kernel_rfl) (by kernel_rfl) (by decide) hR hsm hsn hne hfs hes hlt hv hu];rfl
set_option maxHeartbeats 4000000 in
theorem W4 (es : List (List PV)) (cs : List PV) (i : Nat) (hi : i ≤ es.length) (hb : es.length ≤ 1000) (hes : ∀ c ∈ es, c.length = 15) (hcs : cs.length = 15) {h d} (h1 : h 900 = some (.row 15 es)) (h2 : h 901 = some (.row 15 [cs])) : FunOk Tryz.prog 74 [.os 900, .pv (.i .i64 i), .os 901] h d (.os d) [.del 900, .del 901, .new d (.row 15 (es.take i ++ cs :: es.drop i))] := by
 refine Acm Af fn74 (by simp) rfl fun F => ?_;simp only [Cx];by_cases he : i = es.length
 · subst he;have e1 : es.take es.length ++ cs :: es.drop es.length = es ++ [cs] := by simp
   rw [e1];simp (disch := omega) only [ir74, h1, h2, go_sem]
 · have hne : es ≠ [] := by intro e; subst e; simp at hi; exact he (by simpa using hi)
   simp (disch := omega) only [ir74, h1, h2, go_sem];intro c hc;by_cases hcap : c < es.length + 1
   · have hp : ((c : Int) < (es.length : Int) + ((1 : Nat) : Int)) = True := eq_true (by omega);have ek : ((es.length : Int) + ((1 : Nat) : Int) - (i : Int)).toNat = es.length + 1 - i := by omega
     (try simp only [D4, D3, D2, D1, D0, Dx, Dw, Dv]); simp (disch := omega) only [hp, ek, go_sem]
     generalize hT : List.take i es ++ List.replicate (es.length + 1 - i) _ = T;have hTl : T.length = es.length + 1 := by rw [← hT]; simp; omega
     have t1 : T.take i = es.take i := by
      rw [← hT, List.take_append_of_le_length (by simp; omega), List.take_take, Nat.min_self]
     have hi' : (es.take i).length = i := by simp; omega
     have m1 : min 1 (es.length + 1 - i) = 1 := by omega
     have m2 : [cs].take (es.length + 1 - i) = [cs] := List.take_of_length_le (by simp; omega);have hU : (es.take i ++ [cs] ++ T.drop (i + 1)).length = es.length + 1 := by simp [hTl]; omega
     have e1 : ((i : Int) + ((1 : Nat) : Int)).toNat = i + 1 := by omega
     have u1 : (es.take i ++ [cs] ++ T.drop (i + 1)).take (i + 1) = es.take i ++ [cs] := by
      rw [List.take_append_of_le_length (by simp; omega)];exact List.take_of_length_le (by simp; omega)
     have u2 : (es.take es.length).drop i = es.drop i := by rw [List.take_length]
     have u3 : min (es.drop i).length (es.length + 1 - (i + 1)) = es.length - i := by simp
     have u4 : (es.drop i).take (es.length + 1 - (i + 1)) = es.drop i := List.take_of_length_le (by simp);have u5 : (es.take i ++ [cs] ++ T.drop (i + 1)).drop (i + 1 + (es.length - i)) = [] := List.drop_of_length_le (by rw [hU]; omega);have u6 : es.take i ++ cs :: es.drop i = es.take i ++ [cs] ++ es.drop i := by simp
     simp only [hTl, t1, m1, m2, e1, List.length_singleton];simp only [hU, u1, u2, u3, u4, u5, u6, List.append_nil];exact ⟨by omega, by omega, trivial⟩
   · have hp : ((c : Int) < (es.length : Int) + ((1 : Nat) : Int)) = False := eq_false (by omega)
     (try simp only [D4, D3, D2, D1, D0, Dx, Dw, Dv]); simp (disch := omega) only [hp, go_sem]
     intro g hg hgs;have hg1 : g.length = 1 := by omega
     have e1 : ((i : Int) + ((1 : Nat) : Int)).toNat = i + 1 := by omega
     have hE : (es ++ g).length = es.length + 1 := by simp [hg1]
     refine ⟨by omega, ?_⟩;rw [e1];refine R5 (A4g (es := es ++ g) (fs := [cs]) rfl rfl (by decide) (by simp) (by simp [hne]) (by omega)) ?_;have v1 : ((es ++ g).take (es ++ g).length).drop i = (es ++ g).drop i := by rw [List.take_length]
     have v2 : min ((es ++ g).drop i).length ((es ++ g).length - (i + 1)) = es.length - i := by simp [hg1]; omega
     have v3 : ((es ++ g).drop i).take ((es ++ g).length - (i + 1)) = es.drop i := by
      rw [hE, List.drop_append_of_le_length hi, show es.length + 1 - (i + 1) = (es.drop i).length from by simp];exact List.take_left
     have v4 : (es ++ g).drop (i + 1 + (es.length - i)) = [] := List.drop_of_length_le (by omega);have v5 : ((es ++ g).take (i + 1) ++ es.drop i).length = es.length + 1 := by simp [hg1]; omega
     have v6 : ((es ++ g).take (i + 1) ++ es.drop i).take i = es.take i := by
      rw [List.take_append_of_le_length (by simp; omega), List.take_take, Nat.min_eq_left (by omega), List.take_append_of_le_length hi]
     have v7 : ((es ++ g).take (i + 1) ++ es.drop i).drop (i + 1) = es.drop i := by
      rw [List.drop_append_of_le_length (by simp; omega), List.drop_of_length_le (by simp; omega), List.nil_append]
     have m1 : min 1 (es.length + 1 - i) = 1 := by omega
     have m2 : [cs].take (es.length + 1 - i) = [cs] := List.take_of_length_le (by simp; omega);have u6 : es.take i ++ cs :: es.drop i = es.take i ++ [cs] ++ es.drop i := by simp
     simp (disch := omega) only [e1, v1, v2, v3, v4, v5, v6, v7, m1, m2, u6, go_sem]
theorem A4k {m n : Nat} (es : List (List PV)) (cs : List PV) (i : Nat) (hi : i ≤ es.length) (hb : es.length ≤ 1000) (hes : ∀ c ∈ es, c.length = 15) (hcs : cs.length = 15) (hmn : m ≠ n) (hm : m < 900) (hn : n < 900) {h d} (hd : d ≠ m ∧ d ≠ n ∧ d < 900) (h1 : h m = some (.row 15 es)) (h2 : h n = some (.row 15 [cs])) : FunOk Tryz.prog 74 [.os m, .pv (.i .i64 i), .os n] h d (.os d) [.del m, .del n, .new d (.row 15 (es.take i ++ cs :: es.drop i))] := by
 have hπ := Ajx (a := 900) (m := m) (b := 901) (n := n) (by omega) (by omega) (by omega) hmn;have e1 : sw2 900 m 901 n 900 = m := by unfold sw2; simp
 have e2 : sw2 900 m 901 n 901 = n := by unfold sw2; repeat' split <;> (try omega)
 have e3 : sw2 900 m 901 n d = d := by unfold sw2; repeat' split <;> (try omega)
 have := (W4 es cs i hi hb hes hcs (h := fun k => (h (sw2 900 m 901 n k))) (d := d) (by rw [← h1, e1]) (by rw [← h2, e2])).rn (π := sw2 900 m 901 n) hπ (d' := d);simp only [SV.rnL, SV.rn, HU.rn, Blk.rn, List.map_cons, List.map_nil, e1, e2, e3] at this;refine this.at fun k hk => ?_;simp only [A5, tn, List.append_nil, List.nil_append, List.mem_append, List.mem_singleton] at hk;simp only [hπ];rcases hk with rfl | rfl
 · rw [h1]; rfl
 · rw [h2]; rfl
theorem W5 {x : SV} {f : Bool} {z : Nat} {es : List (List PV)} {h d} (hx : Cl h [x] = [.pv (.sl f z es)]) (hl : Bf [x] = true) (hz : es = [] ∨ z = 15) (hb : es.length ≤ 1000) (hs : ∀ c ∈ es, c.all PV.flat = true) :
 FunOk Tryz.prog 20 [x] h d (.os d) [.new d (.row 15 es)] := by
 refine Xp Af fn20 (by simp) hl (.inr hs) fun F => ?_;rw [hx];simp (disch := omega) only [ir20, go_sem];intro b hb';cases b
 · simp (disch := omega) only [go_sem]
 · have he : es = [] := by
    cases es with
    | nil => rfl
    | cons c l => exact absurd (hb' (by simp)) (by simp)
   subst he
   (try simp only [D4, D3, D2, D1, D0, Dx, Dw, Dv]); simp (disch := omega) only [go_sem]
   first | exact ⟨_, rfl⟩ | decide
abbrev Ic (a b : Bo) : Bool := Ch a.1 a.2 b.1 b.2
theorem Vh {a b : Bo} : Ic a b = true ↔ a.2 < b.2 ∨ a.2 = b.2 ∧ a.1 < b.1 := by simp [Ic, Ch]
theorem G6 {a b c : Bo} (h : Ic a b = true) (k : Ic b c = true) : Ic a c = true := by rw [Vh] at *; omega
theorem Ga {a : Bo} : ¬ Ic a a = true := by rw [Vh]; omega
theorem Nw {a b : Bo} (h : Ic a b = true) : ¬ Ic b a = true := by rw [Vh] at *; omega
theorem Ko {a b : Bo} (h : ¬ Ic a b = true) (k : a ≠ b) : Ic b a = true := by
 rw [Vh] at *;by_cases e : a.2 = b.2
 · have : a.1 ≠ b.1 := fun e1 => k (Prod.ext e1 e);omega
 · omega
def Dk (l : List Ent) : Prop := l.Pairwise fun a b => Ic a.id b.id = true
def Hl : List Ent → Bo → Option Ent
 | [], _ => none
 | x :: l, i => if x.id = i then some x else Hl l i
theorem Anl {l : List Ent} {i : Bo} {x : Ent} (h : Hl l i = some x) : x ∈ l ∧ x.id = i := by
 induction l with
 | nil => simp [Hl] at h
 | cons y l ih =>
   simp only [Hl] at h;split at h
   · cases h; exact ⟨List.mem_cons_self, by assumption⟩
   · exact ⟨List.mem_cons_of_mem _ (ih h).1, (ih h).2⟩
theorem F9 {l : List Ent} {i : Bo} : Hl l i = none ↔ ∀ x ∈ l, x.id ≠ i := by
 induction l with
 | nil => simp [Hl]
 | cons y l ih =>
   simp only [Hl];by_cases h : y.id = i
   · rw [if_pos h];exact ⟨fun e => (nomatch e), fun e => absurd h (e y List.mem_cons_self)⟩
   · rw [if_neg h, ih];simp only [List.mem_cons, forall_eq_or_imp];exact ⟨fun e => ⟨h, e⟩, fun e => e.2⟩
theorem Ae6 {l : List Ent} (hs : Dk l) {x : Ent} (h : x ∈ l) : Hl l x.id = some x := by
 induction l with
 | nil => cases h
 | cons y l ih =>
   obtain ⟨h1, h2⟩ := List.pairwise_cons.1 hs;simp only [Hl];rcases List.mem_cons.1 h with rfl | h
   · rw [if_pos rfl]
   · rw [if_neg fun e => Ga (by have := h1 x h; rwa [e] at this)];exact ih h2 h
def F6 (l : List Ent) (i : Bo) : Nat := l.findIdx fun x => !Ic x.id i
theorem Abt (l : List Ent) (i : Bo) : F6 l i ≤ l.length := List.findIdx_le_length
theorem Sy (x : Ent) (l : List Ent) (i : Bo) : F6 (x :: l) i = if Ic x.id i = true then F6 l i + 1 else 0 := by
 unfold F6;rw [List.findIdx_cons];cases Ic x.id i <;> simp
theorem Ars {l : List Ent} {i : Bo} {k : Nat} (hk : k < F6 l i) : ∃ x, l[k]? = some x ∧ Ic x.id i = true := by
 have hl : k < l.length := Nat.lt_of_lt_of_le hk (Abt l i);refine ⟨l[k], by simp [hl], ?_⟩;have := List.not_of_lt_findIdx hk;simpa using this
theorem A32 {l : List Ent} (hs : Dk l) {i : Bo} {k : Nat} (hk : F6 l i ≤ k) {x : Ent} (hx : l[k]? = some x) : ¬ Ic x.id i = true := by
 obtain ⟨hl, rfl⟩ := List.getElem?_eq_some_iff.1 hx;have hp : F6 l i < l.length := by omega
 have h0 : ¬ Ic l[F6 l i].id i = true := by
  have : (!Ic (l[F6 l i]'hp).id i) = true := List.findIdx_getElem (p := fun x : Ent => !Ic x.id i) (w := hp);simpa using this
 by_cases e : F6 l i = k
 · subst e; exact h0
 · have := List.pairwise_iff_getElem.1 hs (F6 l i) k hp hl (by omega);exact fun h => h0 (G6 this h)
theorem Ake {l : List Ent} {i : Bo} {k : Nat} (hk : k ≤ l.length) (h1 : ∀ j x, j < k → l[j]? = some x → Ic x.id i = true) (h2 : ∀ x, l[k]? = some x → ¬ Ic x.id i = true) : F6 l i = k := by
 rcases Nat.lt_trichotomy (F6 l i) k with h | h | h
 · have hl : F6 l i < l.length := by omega
   have h0 : (!Ic (l[F6 l i]'hl).id i) = true := List.findIdx_getElem (p := fun x : Ent => !Ic x.id i) (w := hl);have := h1 _ _ h (List.getElem?_eq_getElem hl);rw [this] at h0; simp at h0
 · exact h
 · obtain ⟨x, e1, e2⟩ := Ars h;exact absurd e2 (h2 x e1)
def Rl (l : List Ent) (i : Bo) : Bool := (Hl l i).isSome
theorem Rc {l : List Ent} (hs : Dk l) (i : Bo) : Hl l i = match l[F6 l i]? with | some x => if x.id = i then some x else none | none => none := by
 induction l with
 | nil => simp [Hl]
 | cons y l ih =>
   obtain ⟨h1, h2⟩ := List.pairwise_cons.1 hs;rw [Sy];simp only [Hl];by_cases e : y.id = i
   · have : ¬ Ic y.id i = true := by rw [e]; exact Ga
     rw [if_neg this, if_pos e];simp [e]
   · rw [if_neg e];by_cases hl : Ic y.id i = true
     · rw [if_pos hl, List.getElem?_cons_succ]; exact ih h2
     · rw [if_neg hl, List.getElem?_cons_zero];simp only [e, if_false];exact F9.2 fun z hz ez => Ga (by have := G6 (Ko hl e) (h1 z hz); rwa [ez] at this)
theorem Wi {l : List Ent} (hs : Dk l) {j m : Nat} {x v : Ent} (hj : l[j]? = some x) (hm : l[m]? = some v) (h : j < m) : Ic x.id v.id = true := by
 obtain ⟨h1, rfl⟩ := List.getElem?_eq_some_iff.1 hj;obtain ⟨h2, rfl⟩ := List.getElem?_eq_some_iff.1 hm;exact List.pairwise_iff_getElem.1 hs j m h1 h2 h
def Ph (l : List Ent) (x : Ent) : List Ent := l.take (F6 l x.id) ++ x :: l.drop (F6 l x.id)
theorem Tg (y : Ent) (l : List Ent) (x : Ent) : Ph (y :: l) x = if Ic y.id x.id = true then y :: Ph l x else x :: y :: l := by
 unfold Ph;rw [Sy];split <;> simp
theorem Ab6 {l : List Ent} {x z : Ent} : z ∈ Ph l x ↔ z = x ∨ z ∈ l := by
 unfold Ph;have := List.take_append_drop (F6 l x.id) l;constructor
 · intro h;rcases List.mem_append.1 h with h | h
   · exact .inr (List.mem_of_mem_take h)
   · rcases List.mem_cons.1 h with h | h
     · exact .inl h
     · exact .inr (List.mem_of_mem_drop h)
 · intro h;rcases h with rfl | h
   · simp
   · rw [← this] at h;rcases List.mem_append.1 h with h | h
     · exact List.mem_append_left _ h
     · exact List.mem_append_right _ (List.mem_cons_of_mem _ h)
theorem Wh {l : List Ent} (hs : Dk l) {x : Ent} (hn : Hl l x.id = none) : Dk (Ph l x) := by
 induction l with
 | nil => simp [Ph, F6, Dk]
 | cons y l ih =>
   obtain ⟨h1, h2⟩ := List.pairwise_cons.1 hs;have hy : y.id ≠ x.id := F9.1 hn y List.mem_cons_self;have hn' : Hl l x.id = none := F9.2 fun z hz => F9.1 hn z (List.mem_cons_of_mem _ hz);rw [Tg];split
   · rename_i hl;refine List.Pairwise.cons (fun z hz => ?_) (ih h2 hn');rcases Ab6.1 hz with rfl | hz
     · exact hl
     · exact h1 z hz
   · rename_i hl;have hxy : Ic x.id y.id = true := Ko hl hy;refine List.Pairwise.cons (fun z hz => ?_) hs;rcases List.mem_cons.1 hz with rfl | hz
     · exact hxy
     · exact G6 hxy (h1 z hz)
theorem Aqu {l : List Ent} {f : Ent → Ent} (hf : ∀ x, (f x).id = x.id) (hs : Dk l) : Dk (l.map f) := by
 unfold Dk;rw [List.pairwise_map];exact hs.imp fun h => by simpa only [hf] using h
def Uw (l : List Ent) (i : Bo) (f : Ent → Ent) : List Ent := l.map fun x => if x.id = i then f x else x
theorem Ay0 {i : Bo} {f : Ent → Ent} (hf : ∀ x, (f x).id = x.id) (x : Ent) : (if x.id = i then f x else x).id = x.id := by split <;> simp [hf]
theorem Aqt {l : List Ent} {f : Ent → Ent} (hf : ∀ x, (f x).id = x.id) (hs : Dk l) (i : Bo) : Dk (Uw l i f) := Aqu (Ay0 hf) hs
theorem Axv {l : List Ent} (hs : Dk l) {i : Bo} {f : Ent → Ent} {x : Ent} (h : Hl l i = some x) : l.set (F6 l i) (f x) = Uw l i f := by
 induction l with
 | nil => simp [Hl] at h
 | cons y l ih =>
   obtain ⟨h1, h2⟩ := List.pairwise_cons.1 hs;rw [Sy];simp only [Hl] at h;by_cases e : y.id = i
   · rw [if_pos e] at h;cases h;rw [if_neg (by rw [e]; exact Ga)];simp only [List.set_cons_zero, Uw, List.map_cons, if_pos e];congr 1;have e1 : ∀ z ∈ l, (if z.id = i then f z else z) = id z := fun z hz => by
      rw [if_neg fun ez => Ga (by have := h1 z hz; rwa [e, ez] at this)]; rfl
     rw [List.map_congr_left e1, List.map_id]
   · rw [if_neg e] at h;have hx := Anl h;have : Ic y.id i = true := by rw [← hx.2]; exact h1 x hx.1
     rw [if_pos this, List.set_cons_succ, ih h2 h];simp [Uw, e]
def Qr (l : List Ent) (x : Ent) : List Ent := if Rl l x.id = true then l else Ph l x
def I3 (a b : Bo) : Int := if Ic a b = true then -1 else if Ic b a = true then 1 else 0
theorem A4q (a b : Bo) {h d} : FunOk Tryz.prog 91 [.vec 2 [.i .i64 a.1, .i .u32 a.2], .vec 2 [.i .i64 b.1, .i .u32 b.2]] h d (.pv (.i .i64 (I3 a b))) [] := by
 refine Aw Af fn91 (by simp) rfl rfl fun F => ?_;simp (disch := omega) only [ir91, go_sem];refine Aa (Nn _ _ _ _) ?_;by_cases h1 : Ch a.1 a.2 b.1 b.2 = true
 · have e : I3 a b = -1 := if_pos h1;simp (disch := omega) only [h1, e, go_sem]
 · have h1' : Ch a.1 a.2 b.1 b.2 = false := by simpa using h1
   simp (disch := omega) only [h1', go_sem];refine Aa (Nn _ _ _ _) ?_;by_cases h2 : Ch b.1 b.2 a.1 a.2 = true
   · have e : I3 a b = 1 := by unfold I3; rw [if_neg h1, if_pos h2]
     simp (disch := omega) only [h2, e, go_sem]
   · have h2' : Ch b.1 b.2 a.1 a.2 = false := by simpa using h2
     have e : I3 a b = 0 := by unfold I3; rw [if_neg h1, if_neg h2]
     simp (disch := omega) only [h2', e, go_sem]
theorem A12 (x : Ent) (b : Bo) {h d} : FunOk Tryz.prog 90 [.vec 15 (Bj x), .vec 2 [.i .i64 b.1, .i .u32 b.2]] h d (.pv (.i .i64 (I3 x.id b))) [] := by
 refine Aw Af fn90 (by simp) rfl rfl fun F => ?_;simp (disch := omega) only [ir90, Di, go_sem];refine Aa (A4q _ _) ?_;simp (disch := omega) only [go_sem]
theorem Vp {a b : Bo} : (I3 a b < 0) = (Ic a b = true) := by
 unfold I3;by_cases h : Ic a b = true
 · rw [if_pos h]; simp [h]
 · rw [if_neg h]; split <;> simp [h]
theorem Vq {a b : Bo} : (I3 a b = 0) = (a = b) := by
 unfold I3;by_cases h : Ic a b = true
 · rw [if_pos h];refine propext ⟨fun e => by omega, fun e => ?_⟩;subst e; exact absurd h Ga
 · rw [if_neg h];by_cases k : Ic b a = true
   · rw [if_pos k];refine propext ⟨fun e => by omega, fun e => ?_⟩;subst e; exact absurd k Ga
   · rw [if_neg k];refine propext ⟨fun _ => ?_, fun _ => rfl⟩;exact Classical.byContradiction fun e => k (Ko h e)
def Aj5 (f : Bool) (l : List Ent) (i : Bo) (p : Nat × Nat) : FS := mk [(9, .pv (.i .i64 p.1)), (10, .pv (.i .i64 p.2)), (8, .pv (.i .i64 l.length)), (0, .pv (.sl f 15 (l.map Bj))), (2, .fn (.func 90) []), (4, .p 4 0)] [(4, some (.var (.vec 2 [.i .i64 i.1, .i .u32 i.2])))]
set_option maxHeartbeats 1000000 in
theorem A9b {x : SV} {f : Bool} {l : List Ent} (i : Bo) {h d} (hx : Cl h [x, .vec 2 [.i .i64 i.1, .i .u32 i.2], .fn (.func 90) []] = [.pv (.sl f 15 (l.map Bj)), .vec 2 [.i .i64 i.1, .i .u32 i.2], .fn (.func 90) []]) (hl : Bf [x, .vec 2 [.i .i64 i.1, .i .u32 i.2], .fn (.func 90) []] = true) (hs : Dk l) (hn : l.length ≤ 1000) :
 FunOk Tryz.prog 89 [x, .vec 2 [.i .i64 i.1, .i .u32 i.2], .fn (.func 90) []] h d (.tup [.pv (.i .i64 (F6 l i)), .pv (.b (Rl l i))]) [] := by
 refine Cg Af fn89 (by simp) hl rfl fun F => ?_;rw [hx];simp (disch := omega) only [ir89, List.length_map, go_sem];refine A0 Af (Aj5 f l i) (fun p => p.1 ≤ p.2 ∧ p.2 ≤ l.length ∧ (∀ j x, j < p.1 → l[j]? = some x → Ic x.id i = true) ∧ ∀ j x, p.2 ≤ j → l[j]? = some x → ¬ Ic x.id i = true) (fun p => p.2 - p.1) (0, l.length) ⟨by simp, by simp, by simp, fun j x hj hx => by simp only at hj; rw [List.getElem?_eq_none hj] at hx; cases hx⟩ (Ak ?_ ?_) fun p hp => ?_
 · (try simp only [D4, D3, D2, D1, D0, Dx, Dw, Dv]); simp (disch := omega) only [go_sem]
 · simp (disch := omega) only [go_sem]
 obtain ⟨a, b⟩ := p;obtain ⟨p1, p2, p3, p4⟩ := hp;simp only at p1 p2 p3 p4;by_cases hlt : a < b
 · have hm : (a + b) / 2 < l.length := by omega
   have hx : l[(a + b) / 2]? = some l[(a + b) / 2] := List.getElem?_eq_getElem hm;have he : (l.map Bj)[(a + b) / 2]? = some (Bj l[(a + b) / 2]) := by rw [List.getElem?_map, hx]; rfl
   have e1 : ((a : Int) + (b : Int)).fdiv (2 ^ min (Int.toNat 1) 64) = (((a + b) / 2 : Nat) : Int) := by
    rw [show (2 : Int) ^ min (Int.toNat 1) 64 = 2 from rfl, Int.fdiv_eq_ediv_of_nonneg _ (by omega)]; omega
   have hm1 : a ≤ (a + b) / 2 := by omega
   have hm2 : (a + b) / 2 < b := by omega
   generalize l[(a + b) / 2] = v at *;generalize (a + b) / 2 = m at *;simp (disch := omega) only [Aj5, List.length_map, e1, he, Fd, go_sem];refine Aa (A12 v i) ?_;by_cases hc : Ic v.id i = true
   · have e2 : (I3 v.id i < 0) = True := by rw [Vp]; exact eq_true hc
     simp (disch := omega) only [e2, go_sem];refine Ad (x := (a, b)) (m + 1, b) _ _ rfl ⟨by show m + 1 ≤ b; omega, p2, fun j x hj hx' => ?_, p4⟩ (by show b - (m + 1) < b - a; omega) ?_ ?_
     · by_cases e : j = m
       · subst e; rw [hx] at hx'; cases hx'; exact hc
       · exact G6 (Wi hs hx' hx (by simp only at hj; omega)) hc
     · (try simp only [D4, D3, D2, D1, D0, Dx, Dw, Dv]); simp (disch := omega) only [go_sem]
     · simp (disch := omega) only [go_sem]
   · have e2 : (I3 v.id i < 0) = False := by rw [Vp]; exact eq_false hc
     simp (disch := omega) only [e2, go_sem];refine Ad (x := (a, b)) (a, m) _ _ rfl ⟨by show a ≤ m; omega, by show m ≤ _; omega, p3, fun j x hj hx' => ?_⟩ (by show m - a < b - a; omega) ?_ ?_
     · by_cases e : j = m
       · subst e; rw [hx] at hx'; cases hx'; exact hc
       · exact fun q => hc (G6 (Wi hs hx hx' (by simp only at hj; omega)) q)
     · (try simp only [D4, D3, D2, D1, D0, Dx, Dw, Dv]); simp (disch := omega) only [go_sem]
     · simp (disch := omega) only [go_sem]
 · obtain rfl : a = b := by omega
   have hpos : F6 l i = a := Ake p2 p3 fun x hx' => p4 a x (Nat.le_refl a) hx';by_cases hal : a < l.length
   · have hx' : l[a]? = some l[a] := List.getElem?_eq_getElem hal;have he : (l.map Bj)[a]? = some (Bj l[a]) := by rw [List.getElem?_map, hx']; rfl
     have hk := Rc hs i;rw [hpos, hx'] at hk;generalize l[a] = v at *;simp (disch := omega) only [Aj5, hal, he, Fd, List.length_map, go_sem];refine Aa (A12 v i) ?_;by_cases hv : v.id = i
     · have e2 : (I3 v.id i = 0) = True := by rw [Vq]; exact eq_true hv
       have e3 : Rl l i = true := by unfold Rl; rw [hk]; simp [hv]
       simp (disch := omega) only [e2, e3, hpos, go_sem]
     · have e2 : (I3 v.id i = 0) = False := by rw [Vq]; exact eq_false hv
       have e3 : Rl l i = false := by unfold Rl; rw [hk]; simp [hv]
       simp (disch := omega) only [e2, e3, hpos, go_sem]
   · have hk := Rc hs i;rw [hpos, List.getElem?_eq_none (by omega)] at hk;have e3 : Rl l i = false := by unfold Rl; rw [hk]; rfl
     simp (disch := omega) only [Aj5, hal, hpos, e3, go_sem]
theorem A13 {x : SV} {f : Bool} {l : List Ent} (i : Bo) {h d} (hx : Cl h [x, .vec 2 [.i .i64 i.1, .i .u32 i.2]] = [.pv (.sl f 15 (l.map Bj)), .vec 2 [.i .i64 i.1, .i .u32 i.2]]) (hl : Bf [x, .vec 2 [.i .i64 i.1, .i .u32 i.2]] = true) (hs : Dk l) (hn : l.length ≤ 1000) :
 FunOk Tryz.prog 73 [x, .vec 2 [.i .i64 i.1, .i .u32 i.2]] h d (.tup [.pv (.i .i64 (F6 l i)), .pv (.b (Rl l i))]) [] := by
 refine Cg Af fn73 (by simp) hl rfl fun F => ?_;rw [hx];simp (disch := omega) only [ir73, go_sem];refine Aa (A9b (l := l) i rfl rfl hs hn) ?_;simp (disch := omega) only [go_sem]
theorem A4u {a : SV} {f : Bool} {l : List Ent} (x : Ent) {h d} (hx : Cl h [a, .vec 15 (Bj x)] = [.pv (.sl f 15 (l.map Bj)), .vec 15 (Bj x)]) (hl : Bf [a, .vec 15 (Bj x)] = true) (hs : Dk l) (hn : l.length ≤ 1000) :
 FunOk Tryz.prog 53 [a, .vec 15 (Bj x)] h d (.os d) [.new d (.row 15 ((Qr l x).map Bj))] := by
 refine Vj Af fn53 (by simp) hl (.inr (Ji _)) fun F => ?_;rw [hx];simp (disch := omega) only [ir53, Di, go_sem];refine Aa (A13 (l := l) x.id rfl rfl hs hn) ?_;have hfl := Ji l;by_cases hi : Rl l x.id = true
 · have e : Qr l x = l := by unfold Qr; rw [if_pos hi]
   simp (disch := omega) only [hi, e, go_sem];refine Aa (W5 (es := l.map Bj) rfl rfl (.inr rfl) (by simp; omega) hfl) ?_;simp (disch := omega) only [go_sem]
 · have hi' : Rl l x.id = false := by simpa using hi
   have e : Qr l x = Ph l x := by unfold Qr; rw [if_neg hi]
   have hc := Dn x;simp (disch := omega) only [hi', e, go_sem];refine Aa (W5 (es := l.map Bj) rfl rfl (.inr rfl) (by simp; omega) hfl) ?_;simp (disch := omega) only [hc, Fd, go_sem];have hp := Abt l x.id;refine Aa (A4k (l.map Bj) (Bj x) (F6 l x.id) (by simp; omega) (by simp; omega) (fun c hc => by obtain ⟨y, _, rfl⟩ := List.mem_map.1 hc; exact Dn y) hc (by decide) (by decide) (by decide) (by decide) rfl rfl) ?_;simp (disch := omega) only [go_sem];simp [Ph, List.map_take, List.map_drop]
def Bc (v : Vc) (r : Int) (q : Nat) : Vc := if 1 ≤ r ∧ r ≤ 8 then E7 v (r - 1).toNat (max (v (r - 1).toNat) q) else v
set_option maxHeartbeats 1000000 in
theorem Wz (v : Vc) (r : Int) (q : Nat) {h d} : FunOk Tryz.prog 25 [.vec 8 (vE v), .vec 2 [.i .i64 r, .i .u32 q]] h d (.vec 8 (vE (Bc v r q))) [] := by
 refine Aw Af fn25 (by simp) rfl rfl fun F => ?_;by_cases h1 : 1 ≤ r
 · by_cases h2 : r ≤ 8
   · have e : Bc v r q = E7 v (r - 1).toNat (max (v (r - 1).toNat) q) := by unfold Bc; rw [if_pos ⟨h1, h2⟩]
     obtain ⟨k, rfl⟩ : ∃ k : Nat, r = (k : Int) + 1 := ⟨(r - 1).toNat, by omega⟩
     have ek : ((k : Int) + 1 - 1) = (k : Int) := by omega
     rw [ek, Int.toNat_natCast] at e;rw [e];simp (disch := omega) only [ir25, ek, go_sem]
   · have e : Bc v r q = v := by unfold Bc; rw [if_neg (by omega)]
     rw [e];simp (disch := omega) only [ir25, go_sem]
 · have e : Bc v r q = v := by unfold Bc; rw [if_neg (by omega)]
   rw [e];simp (disch := omega) only [ir25, go_sem]
def U4 (a b : Vc) (k : Nat) : FS := mk [(6, .pv (.i .i64 k)), (5, .p 5 0), (4, .p 4 0), (3, .p 3 0), (2, .p 2 0)] [(2, some (.var (.vec 8 (vE a)))), (3, some (.var (.vec 8 (vE b)))), (5, some (.var (.vec 8 (vE fun i => if i < k then Cw a b i else 0)))), (4, some (.var (.vec 8 (vE fun _ => 0))))]
theorem U9 (a b : Vc) {h d} : FunOk Tryz.prog 37 [.vec 8 (vE a), .vec 8 (vE b)] h d (.vec 8 (vE (Cw a b))) [] := by
 refine Aw Af fn37 (by simp) rfl rfl fun F => ?_;simp (disch := omega) only [ir37, go_sem];refine A0 Af (U4 a b) (fun k => k ≤ 8) (fun k => 8 - k) 0 (by simp) (Ak ?_ ?_) fun k hk => ?_
 · simp (disch := omega) only [go_sem]
 · simp (disch := omega) only [Aaz, go_sem]
 by_cases hlt : k < 8
 · by_cases hc : a k < b k
   · simp (disch := omega) only [U4, go_sem];refine Ad (k + 1) _ _ rfl (by omega) (by omega) ?_ ?_
     · simp (disch := omega) only [go_sem]
     · simp (disch := omega) only [go_sem];exact Rn (Lz fun i hi => by simp only [E7, Cw]; grind)
   · simp (disch := omega) only [U4, go_sem];refine Ad (k + 1) _ _ rfl (by omega) (by omega) ?_ ?_
     · simp (disch := omega) only [go_sem]
     · simp (disch := omega) only [go_sem];exact Rn (Lz fun i hi => by simp only [E7, Cw]; grind)
 · simp (disch := omega) only [U4, Agz, go_sem]
def Q8 (r : Int) (q : Nat) : Vc := fun i => if (i : Int) + 1 = r then q else 0
def Aa9 (r : Int) (q k : Nat) : FS := mk [(4, .pv (.i .i64 k)), (3, .p 3 0), (2, .p 2 0), (1, .p 1 0)] [(1, some (.var (.vec 2 [.i .i64 r, .i .u32 q]))), (3, some (.var (.vec 8 (vE fun i => if i < k then Q8 r q i else 0)))), (2, some (.var (.vec 8 (vE fun _ => 0))))]
theorem A4h (r : Int) (q : Nat) {h d} : FunOk Tryz.prog 38 [.vec 2 [.i .i64 r, .i .u32 q]] h d (.vec 8 (vE (Q8 r q))) [] := by
 refine Aw Af fn38 (by simp) rfl rfl fun F => ?_;simp (disch := omega) only [ir38, go_sem];refine A0 Af (Aa9 r q) (fun k => k ≤ 8) (fun k => 8 - k) 0 (by simp) (Ak ?_ ?_) fun k hk => ?_
 · simp (disch := omega) only [go_sem]
 · simp (disch := omega) only [Aaz, go_sem]
 by_cases hlt : k < 8
 · by_cases hc : (k : Int) + 1 = r
   · simp (disch := omega) only [Aa9, hc, go_sem];refine Ad (k + 1) _ _ rfl (by omega) (by omega) ?_ ?_
     · simp (disch := omega) only [go_sem]
     · simp (disch := omega) only [go_sem];exact Rn (Lz fun i hi => by simp only [E7, Q8]; grind)
   · simp (disch := omega) only [Aa9, hc, go_sem];refine Ad (k + 1) _ _ rfl (by omega) (by omega) ?_ ?_
     · simp (disch := omega) only [go_sem]
     · simp (disch := omega) only [go_sem];exact Rn (Lz fun i hi => by simp only [E7, Q8]; grind)
 · simp (disch := omega) only [Aa9, Agz, go_sem]
theorem U8 (v : Vc) (r : Int) (q : Nat) {h d} : FunOk Tryz.prog 18 [.vec 8 (vE v), .vec 2 [.i .i64 r, .i .u32 q]] h d (.vec 8 (vE (Cw v (Q8 r q)))) [] := by
 refine Aw Af fn18 (by simp) rfl rfl fun F => ?_;simp (disch := omega) only [ir18, go_sem];refine Aa (A4h _ _) ?_;simp (disch := omega) only [go_sem];refine Aa (U9 _ _) ?_;simp (disch := omega) only [go_sem]
theorem Adj (v : Vc) (r : Int) (q : Nat) : ∀ i, i < 8 → Bc v r q i = Cw v (Q8 r q) i := by
 intro i hi;unfold Bc;split
 · simp only [E7, Cw, Q8]; grind
 · simp only [Cw, Q8]; grind
theorem Adm (a b c : Vc) : Cw (Cw a b) c = Cw a (Cw b c) := funext fun i => Nat.max_assoc _ _ _
theorem Agx (a : Vc) : Cw a a = a := funext fun i => Nat.max_self _
def A4b (b : Bo) : Vc := fun i => if 1 ≤ b.1 ∧ b.1 ≤ 8 ∧ (i : Int) + 1 = b.1 then b.2 else 0
theorem Adk (v : Vc) (b : Bo) : Bc v b.1 b.2 = Cw v (A4b b) := by
 funext i;unfold Bc Cw A4b;by_cases h : 1 ≤ b.1 ∧ b.1 ≤ 8
 · rw [if_pos h];unfold E7;by_cases e : i = (b.1 - 1).toNat
   · rw [if_pos e, if_pos (by omega), e]
   · rw [if_neg e, if_neg (by omega)]; simp
 · rw [if_neg h, if_neg (by omega)]; simp
def Ahw (x y : Ent) : Ent := { x with gone := Cw x.gone y.gone }
theorem Zu {l : List Ent} {i : Bo} {f : Ent → Ent} (h : ∀ y ∈ l, y.id ≠ i) : Uw l i f = l := by
 unfold Uw;have e1 : ∀ z ∈ l, (if z.id = i then f z else z) = id z := fun z hz => by rw [if_neg (h z hz)]; rfl
 rw [List.map_congr_left e1, List.map_id]
def Ahk (l : List Ent) (x : Ent) : List Ent := if Rl l x.id = true then Uw l x.id (fun y => Ahw y x) else Ph l x
def Fg : List Ent → Ent → Bool → List Ent
 | [], x, put => if put = true then [] else [x]
 | y :: l, x, put => if y.id = x.id then Ahw y x :: Fg l x true else if put = false ∧ Ic x.id y.id = true then x :: y :: Fg l x true else y :: Fg l x put
theorem P1 : ∀ {l : List Ent} {x : Ent}, (∀ y ∈ l, y.id ≠ x.id) → Fg l x true = l
 | [], x, _ => by simp [Fg]
 | y :: l, x, h => by
   simp only [Fg];rw [if_neg (h y List.mem_cons_self), if_neg (by simp), P1 fun z hz => h z (List.mem_cons_of_mem _ hz)]
theorem Atm (y : Ent) (l : List Ent) (i : Bo) (h : y.id ≠ i) : Rl (y :: l) i = Rl l i := by unfold Rl; simp only [Hl]; rw [if_neg h]
theorem Alb {l : List Ent} {i : Bo} : Rl l i = false ↔ Hl l i = none := by unfold Rl; cases Hl l i <;> simp
theorem Bau {l : List Ent} {i : Bo} : Rl l i = true ↔ ∃ x, Hl l i = some x := by unfold Rl; cases Hl l i <;> simp
theorem Zl : ∀ {l : List Ent} {x : Ent}, Dk l → Fg l x false = Ahk l x
 | [], x, _ => by simp [Fg, Ahk, Rl, Hl, Ph, F6]
 | y :: l, x, hs => by
   obtain ⟨h1, h2⟩ := List.pairwise_cons.1 hs;simp only [Fg];by_cases e : y.id = x.id
   · have hne : ∀ z ∈ l, z.id ≠ x.id := fun z hz ez => Ga (by have := h1 z hz; rwa [e, ez] at this);rw [if_pos e, P1 hne];have : Rl (y :: l) x.id = true := by unfold Rl; simp [Hl, e]
     unfold Ahk;rw [if_pos this];show _ = List.map _ (y :: l);rw [List.map_cons, if_pos e];congr 1;exact (Zu hne).symm
   · rw [if_neg e];by_cases hl : Ic x.id y.id = true
     · have hne : ∀ z ∈ l, z.id ≠ x.id := fun z hz ez => Ga (by have := G6 hl (h1 z hz); rwa [ez] at this);rw [if_pos (by simp [hl]), P1 hne];have : Rl (y :: l) x.id = false := Alb.2 (F9.2 fun z hz => by
        rcases List.mem_cons.1 hz with rfl | hz
        · exact e
        · exact hne z hz)
       unfold Ahk;rw [if_neg (by rw [this]; simp), Tg, if_neg (Nw hl)]
     · rw [if_neg fun h => hl h.2, Zl h2];unfold Ahk;rw [Atm y l _ e];split
       · simp [Uw, e]
       · rw [Tg, if_pos (Ko hl fun q => e q.symm)]
def Nv (b : Bo) (y : Ent) : Ent := { y with gone := Cw y.gone (A4b b) }
theorem Atj (b : Bo) (y : Ent) : (Nv b y).id = y.id := rfl
def killL (l : List Ent) (i b : Bo) : List Ent := Uw l i (Nv b)
theorem Ami {l : List Ent} (hs : Dk l) (i b : Bo) : Dk (killL l i b) := Aqt (Atj b) hs i
theorem Ay9 (l : List Ent) (i : Bo) (f : Ent → Ent) : (Uw l i f).length = l.length := by simp [Uw]
theorem Bat {l : List Ent} (hs : Dk l) {i : Bo} (h : Rl l i = true) : ∃ y, l[F6 l i]? = some y ∧ Hl l i = some y := by
 obtain ⟨x, hx⟩ := Bau.1 h;refine ⟨x, ?_, hx⟩;have := Rc hs i;rw [hx] at this;cases h1 : l[F6 l i]? with
 | none => rw [h1] at this; cases this
 | some y =>
   rw [h1] at this;simp only at this;split at this
   · cases this; rfl
   · cases this
set_option maxHeartbeats 1000000 in
theorem Ayf {a : SV} {f : Bool} {l : List Ent} (i b : Bo) {h d} (hx : Cl h [a, .vec 2 [.i .i64 i.1, .i .u32 i.2], .vec 2 [.i .i64 b.1, .i .u32 b.2]] = [.pv (.sl f 15 (l.map Bj)), .vec 2 [.i .i64 i.1, .i .u32 i.2], .vec 2 [.i .i64 b.1, .i .u32 b.2]]) (hl : Bf [a, .vec 2 [.i .i64 i.1, .i .u32 i.2], .vec 2 [.i .i64 b.1, .i .u32 b.2]] = true) (hs : Dk l) (hn : l.length ≤ 1000) :
 FunOk Tryz.prog 76 [a, .vec 2 [.i .i64 i.1, .i .u32 i.2], .vec 2 [.i .i64 b.1, .i .u32 b.2]] h d (.os d) [.new d (.row 15 ((killL l i b).map Bj))] := by
 refine Vj Af fn76 (by simp) hl (.inr (Ji _)) fun F => ?_;rw [hx];have hfl := Ji l;simp (disch := omega) only [ir76, go_sem];refine Aa (W5 (es := l.map Bj) rfl rfl (.inr rfl) (by simp; omega) hfl) ?_;simp (disch := omega) only [go_sem];refine Aa (A13 (l := l) i rfl rfl hs hn) ?_;by_cases hi : Rl l i = true
 · obtain ⟨y, h1, h2⟩ := Bat hs hi;have hp : F6 l i < l.length := (List.getElem?_eq_some_iff.1 h1).1;have he : (l.map Bj)[F6 l i]? = some (Bj y) := by rw [List.getElem?_map, h1]; rfl
   have hg : (l.map Bj).getD (F6 l i) [] = Bj y := by rw [List.getD_eq_getElem?_getD, he]; rfl
   have hw := G0 y (Bc y.gone b.1 b.2);have e : (l.map Bj).set (F6 l i) (Bj { y with gone := Bc y.gone b.1 b.2 }) = (killL l i b).map Bj := by
    rw [Adk, ← List.map_set];congr 1;exact Axv hs (f := Nv b) h2
   have hv := Bh (Bc y.gone b.1 b.2);simp (disch := omega) only [hi, List.length_map, he, Im, go_sem];refine Aa (Wz _ _ _) ?_;simp (disch := omega) only [hg, hw, e, List.length_map, go_sem]
 · have hi' : Rl l i = false := by simpa using hi
   have e : killL l i b = l := Zu (F9.1 (Alb.1 hi'));simp (disch := omega) only [hi', e, go_sem]
theorem Br (a : Bo) : Ef [K1.int .i64, K1.int .u32] [.i .i64 a.1, .i .u32 a.2] = True := eq_true rfl
theorem Fq {a b : Bo} (h : a = b) : Yl [.i .i64 a.1, .i .u32 a.2] [.i .i64 b.1, .i .u32 b.2] = true := by subst h; simp [Yl]
theorem Fs {a b : Bo} (h : a ≠ b) : Yl [.i .i64 a.1, .i .u32 a.2] [.i .i64 b.1, .i .u32 b.2] = false := Ib fun e => h (Prod.ext e.1 e.2)
def Sp (f : Bool) (l : List Ent) (x : Ent) (p : Nat × List Ent × Bool) : FS := mk [(7, .pv (.i .i64 p.1)), (6, .pv (.b p.2.2)), (5, .os 40), (3, .p 3 0), (0, .pv (.sl f 15 (l.map Bj)))] [(40, some (.row 15 (p.2.1.map Bj))), (3, some (.var (.vec 15 (Bj x))))]
set_option maxHeartbeats 2000000 in
theorem Abx {a : SV} {f : Bool} {l : List Ent} (x : Ent) {h d} (hx : Cl h [a, .vec 15 (Bj x)] = [.pv (.sl f 15 (l.map Bj)), .vec 15 (Bj x)]) (hl : Bf [a, .vec 15 (Bj x)] = true) (hn : l.length ≤ 1000) :
 FunOk Tryz.prog 35 [a, .vec 15 (Bj x)] h d (.os d) [.new d (.row 15 ((Fg l x false).map Bj))] := by
 refine Vj Af fn35 (by simp) hl (.inr (Ji _)) fun F => ?_;rw [hx];have hcx := Dn x;simp (disch := omega) only [ir35, List.length_map, go_sem];refine A0 Af (Sp f l x) (fun p => p.1 ≤ l.length ∧ p.2.1.length ≤ 2 * p.1 ∧ Fg l x false = p.2.1 ++ Fg (l.drop p.1) x p.2.2) (fun p => l.length - p.1) (0, [], false) ⟨Nat.zero_le _, Nat.le_refl _, rfl⟩ (Vx 5 40 15 rfl (by omega) (Ak ?_ ?_)) fun p hp => ?_
 · (try simp only [D4, D3, D2, D1, D0, Dx, Dw, Dv]); simp (disch := omega) only [go_sem]
 · (try simp only [D4, D3, D2, D1, D0, Dx, Dw, Dv]); simp (disch := omega) only [go_sem]
   rfl
 obtain ⟨k, out, put⟩ := p;obtain ⟨p1, p2, p3⟩ := hp;simp only at p1 p2 p3;by_cases hlt : k < l.length
 · have hd : l.drop k = l[k] :: l.drop (k + 1) := List.drop_eq_getElem_cons hlt;have he : (l.map Bj)[k]? = some (Bj l[k]) := by simp [hlt]
   rw [hd] at p3;generalize l[k] = y at *;have hcy := Dn y;simp only [Fg] at p3;by_cases hid : y.id = x.id
   · rw [if_pos hid] at p3;have hp := Fq hid;have hw := G0 y (Cw y.gone x.gone);have hv := Bh (Cw y.gone x.gone);have hm : ({ y with gone := Cw y.gone x.gone } : Ent) = Ahw y x := rfl;have hcm := Dn (Ahw y x);simp (disch := omega) only [Sp, List.length_map, he, Di, Br, hp, Fd, Im, hcy, go_sem];refine Aa (U9 _ _) ?_;simp (disch := omega) only [hw, hm, Fd, hcy, hcm, hv, List.length_map, go_sem];refine ⟨(k + 1, out ++ [Ahw y x], true), ⟨by show k + 1 ≤ _; omega, by show List.length (out ++ [Ahw y x]) ≤ 2 * (k + 1); simp; omega, by rw [p3]; show _ = (out ++ [Ahw y x]) ++ _; simp⟩, by show l.length - (k + 1) < l.length - k; omega, Ei 36 40 (by decide) rfl (Ak ?_ ?_)⟩
     · (try simp only [D4, D3, D2, D1, D0, Dx, Dw, Dv]); simp (disch := omega) only [go_sem]
     · (try simp only [D4, D3, D2, D1, D0, Dx, Dw, Dv]); simp (disch := omega) only [go_sem]
       simp
   · rw [if_neg hid] at p3;have hp := Fs hid;by_cases hput : put = true
     · subst hput;rw [if_neg (by simp)] at p3;simp (disch := omega) only [Sp, List.length_map, he, Di, Br, hp, Fd, hcy, go_sem];refine ⟨(k + 1, out ++ [y], true), ⟨by show k + 1 ≤ _; omega, by show List.length (out ++ [y]) ≤ 2 * (k + 1); simp; omega, by rw [p3]; show _ = (out ++ [y]) ++ _; simp⟩, by show l.length - (k + 1) < l.length - k; omega, Ei 59 40 (by decide) rfl (Ak ?_ ?_)⟩
       · (try simp only [D4, D3, D2, D1, D0, Dx, Dw, Dv]); simp (disch := omega) only [go_sem]
       · (try simp only [D4, D3, D2, D1, D0, Dx, Dw, Dv]); simp (disch := omega) only [go_sem]
         simp
     · obtain rfl : put = false := by simpa using hput
       simp (disch := omega) only [Sp, List.length_map, he, Di, Br, hp, Fd, hcy, go_sem];refine Aa (F7 _ _ _ _) ?_;by_cases hl : Ic x.id y.id = true
       · rw [if_pos ⟨rfl, hl⟩] at p3;have hl' : Ch x.id.1 x.id.2 y.id.1 y.id.2 = true := hl;simp (disch := omega) only [hl', List.length_map, he, Fd, hcy, hcx, go_sem];refine ⟨by simp; omega, (k + 1, out ++ [x, y], true), ⟨by show k + 1 ≤ _; omega, by show List.length (out ++ [x, y]) ≤ 2 * (k + 1); simp; omega, by rw [p3]; show _ = (out ++ [x, y]) ++ _; simp⟩, by show l.length - (k + 1) < l.length - k; omega, Ei 59 40 (by decide) rfl (Ak ?_ ?_)⟩
         · (try simp only [D4, D3, D2, D1, D0, Dx, Dw, Dv]); simp (disch := omega) only [go_sem]
         · (try simp only [D4, D3, D2, D1, D0, Dx, Dw, Dv]); simp (disch := omega) only [go_sem]
           simp
       · rw [if_neg fun q => hl q.2] at p3;have hl' : Ch x.id.1 x.id.2 y.id.1 y.id.2 = false := by simpa using hl
         simp (disch := omega) only [hl', List.length_map, he, Fd, hcy, go_sem];refine ⟨(k + 1, out ++ [y], false), ⟨by show k + 1 ≤ _; omega, by show List.length (out ++ [y]) ≤ 2 * (k + 1); simp; omega, by rw [p3]; show _ = (out ++ [y]) ++ _; simp⟩, by show l.length - (k + 1) < l.length - k; omega, Ei 59 40 (by decide) rfl (Ak ?_ ?_)⟩
         · (try simp only [D4, D3, D2, D1, D0, Dx, Dw, Dv]); simp (disch := omega) only [go_sem]
         · (try simp only [D4, D3, D2, D1, D0, Dx, Dw, Dv]); simp (disch := omega) only [go_sem]
           simp
 · obtain rfl : k = l.length := by omega
   rw [List.drop_length] at p3;simp only [Fg] at p3;by_cases hput : put = true
   · subst hput;simp only [if_true, List.append_nil] at p3;simp (disch := omega) only [Sp, List.length_map, p3, go_sem]
   · obtain rfl : put = false := by simpa using hput
     simp only [Bool.false_eq_true, if_false] at p3;simp (disch := omega) only [Sp, List.length_map, Fd, hcx, go_sem];rw [p3]; simp
structure SlI where
 f : Bool
 z : Nat
 l : List Bo
def SlI.pv (g : SlI) : PV := .sl g.f g.z (g.l.map Em)
def SlI.ok (g : SlI) : Prop := g.l = [] ∨ g.z = 2
def SlI.nil : SlI := ⟨true, 0, []⟩
structure Evt where
 rep : Int
 seq : Nat
 dep : Vc
 kind : Int
 orep : Int
 oseq : Nat
 drep : Int
 dseq : Nat
 name : List UInt8
 gone : SlI
 base : SlI
 off : Int
 data : List UInt8
 ward : Int
def Bq (e : Evt) : List PV := [.i .i64 e.rep, .i .u32 e.seq] ++ vE e.dep ++ [.i .i64 e.kind, .i .i64 e.orep, .i .u32 e.oseq, .i .i64 e.drep, .i .u32 e.dseq, .s e.name, e.gone.pv, e.base.pv, .i .i64 e.off, .s e.data, .i .i64 e.ward]
theorem Ac (e : Evt) : (Bq e).length = 21 := by simp [Bq, vE, Cj]
theorem Db (e : Evt) (K : KK) : LoadK (some (Bq e)) 0 1 false K = K (.pv (.i .i64 e.rep)) [] := by
 simp only [LoadK, Hm, eq_iff_iff];exact ⟨fun h => h.2.2, fun h => ⟨by simp [Bq, vE, Cj], .inr trivial, h⟩⟩
theorem Fx (e : Evt) (K : KK) : LoadK (some (Bq e)) 1 1 false K = K (.pv (.i .u32 e.seq)) [] := by
 simp only [LoadK, Hm, eq_iff_iff];exact ⟨fun h => h.2.2, fun h => ⟨by simp [Bq, vE, Cj], .inr trivial, h⟩⟩
theorem Ae (e : Evt) (K : KK) : LoadK (some (Bq e)) 10 1 false K = K (.pv (.i .i64 e.kind)) [] := by
 simp only [LoadK, Hm, eq_iff_iff];exact ⟨fun h => h.2.2, fun h => ⟨by simp [Bq, vE, Cj], .inr trivial, h⟩⟩
theorem Dq (e : Evt) (K : KK) : LoadK (some (Bq e)) 15 1 false K = K (.pv (.s e.name)) [] := by
 simp only [LoadK, Hm, eq_iff_iff];exact ⟨fun h => h.2.2, fun h => ⟨by simp [Bq, vE, Cj], .inr trivial, h⟩⟩
theorem Gq (e : Evt) (K : KK) : LoadK (some (Bq e)) 16 1 false K = K (.pv (e.gone.pv)) [] := by
 simp only [LoadK, Hm, eq_iff_iff];exact ⟨fun h => h.2.2, fun h => ⟨by simp [Bq, vE, Cj], .inr trivial, h⟩⟩
theorem Gp (e : Evt) (K : KK) : LoadK (some (Bq e)) 17 1 false K = K (.pv (e.base.pv)) [] := by
 simp only [LoadK, Hm, eq_iff_iff];exact ⟨fun h => h.2.2, fun h => ⟨by simp [Bq, vE, Cj], .inr trivial, h⟩⟩
theorem Ja (e : Evt) (K : KK) : LoadK (some (Bq e)) 18 1 false K = K (.pv (.i .i64 e.off)) [] := by
 simp only [LoadK, Hm, eq_iff_iff];exact ⟨fun h => h.2.2, fun h => ⟨by simp [Bq, vE, Cj], .inr trivial, h⟩⟩
theorem Hc (e : Evt) (K : KK) : LoadK (some (Bq e)) 19 1 false K = K (.pv (.s e.data)) [] := by
 simp only [LoadK, Hm, eq_iff_iff];exact ⟨fun h => h.2.2, fun h => ⟨by simp [Bq, vE, Cj], .inr trivial, h⟩⟩
theorem Vd (e : Evt) (K : KK) : LoadK (some (Bq e)) 20 1 false K = K (.pv (.i .i64 e.ward)) [] := by
 simp only [LoadK, Hm, eq_iff_iff];exact ⟨fun h => h.2.2, fun h => ⟨by simp [Bq, vE, Cj], .inr trivial, h⟩⟩
theorem Bb (e : Evt) (K : KK) : LoadK (some (Bq e)) 0 2 true K = K (.vec 2 ([.i .i64 e.rep, .i .u32 e.seq])) [] := by
 simp only [LoadK, Hm, eq_iff_iff];exact ⟨fun h => h.2.2, fun h => ⟨by simp [Bq, vE, Cj], .inl trivial, h⟩⟩
theorem Fb (e : Evt) (K : KK) : LoadK (some (Bq e)) 2 8 true K = K (.vec 8 (vE e.dep)) [] := by
 simp only [LoadK, Hm, eq_iff_iff];exact ⟨fun h => h.2.2, fun h => ⟨by simp [Bq, vE, Cj], .inl trivial, h⟩⟩
theorem A9 (e : Evt) (K : KK) : LoadK (some (Bq e)) 11 2 true K = K (.vec 2 ([.i .i64 e.orep, .i .u32 e.oseq])) [] := by
 simp only [LoadK, Hm, eq_iff_iff];exact ⟨fun h => h.2.2, fun h => ⟨by simp [Bq, vE, Cj], .inl trivial, h⟩⟩
theorem Dh (e : Evt) (K : KK) : LoadK (some (Bq e)) 13 2 true K = K (.vec 2 ([.i .i64 e.drep, .i .u32 e.dseq])) [] := by
 simp only [LoadK, Hm, eq_iff_iff];exact ⟨fun h => h.2.2, fun h => ⟨by simp [Bq, vE, Cj], .inl trivial, h⟩⟩
theorem Bx (e : Evt) (K : KK) : LoadK (some (Bq e)) 0 21 true K = K (.vec 21 (Bq e)) [] := Xf (Ac e) K
theorem Hz (e : Evt) {j : Nat} (h : j < 8) (K : KK) : LoadK (some (Bq e)) (2 + j) 1 false K = K (.pv (.i .u32 (e.dep j))) [] := by
 have : j = 0 ∨ j = 1 ∨ j = 2 ∨ j = 3 ∨ j = 4 ∨ j = 5 ∨ j = 6 ∨ j = 7 := by omega
 simp only [LoadK, Hm, eq_iff_iff];rcases this with rfl | rfl | rfl | rfl | rfl | rfl | rfl | rfl <;> exact ⟨fun h => h.2.2, fun h => ⟨by simp [Bq, vE, Cj], .inr trivial, h⟩⟩
theorem A2z (e : Evt) (r : Int) (q : Nat) : splice (Bq e) 11 [.i .i64 r, .i .u32 q] = Bq { e with orep := r, oseq := q } := rfl
theorem A20 (e : Evt) (r : Int) (q : Nat) : splice (Bq e) 13 [.i .i64 r, .i .u32 q] = Bq { e with drep := r, dseq := q } := rfl
theorem Ke (e : Evt) (s : List UInt8) : splice (Bq e) 15 [.s s] = Bq { e with name := s } := rfl
theorem Axl (e : Evt) (f : Bool) (z : Nat) (l : List Bo) : splice (Bq e) 16 [.sl f z (l.map Em)] = Bq { e with gone := ⟨f, z, l⟩ } := rfl
theorem Axm (e : Evt) (f : Bool) (z : Nat) (l : List Bo) : splice (Bq e) 17 [.sl f z (l.map Em)] = Bq { e with base := ⟨f, z, l⟩ } := rfl
theorem Nf (e : Evt) (n : Int) : splice (Bq e) 18 [.i .i64 n] = Bq { e with off := n } := rfl
theorem Kg (e : Evt) (s : List UInt8) : splice (Bq e) 19 [.s s] = Bq { e with data := s } := rfl
theorem Kb (e : Evt) (n : Int) : splice (Bq e) 20 [.i .i64 n] = Bq { e with ward := n } := rfl
theorem Kc (e : Evt) : splice (Bq e) 11 [.i .i64 0, .i .u32 0] = Bq { e with orep := 0, oseq := 0 } := A2z e 0 0
theorem Kf (e : Evt) : splice (Bq e) 13 [.i .i64 0, .i .u32 0] = Bq { e with drep := 0, dseq := 0 } := A20 e 0 0
theorem Ih (e : Evt) : splice (Bq e) 16 [.sl true 0 []] = Bq { e with gone := .nil } := Axl e true 0 []
theorem Ii (e : Evt) : splice (Bq e) 17 [.sl true 0 []] = Bq { e with base := .nil } := Axm e true 0 []
theorem E2 (e e' : Evt) : splice (Bq e) 0 (Bq e') = Bq e' := rfl
attribute [go_sem] Db Fx Ae Dq Gq Gp Ja Hc Vd Bb Fb A9 Dh Bx Ac SlI.pv Fa List.length_map
def Cm (e : Evt) : Evt :=
 if e.kind = 1 ∨ e.kind = 2 then { e with drep := 0, dseq := 0, name := [] }
 else if e.kind = 3 then { e with orep := 0, oseq := 0, base := .nil, off := 0, data := [] }
 else if e.kind = 4 then { e with orep := 0, oseq := 0, base := .nil, off := 0 }
 else if e.kind = 5 then { e with orep := 0, oseq := 0, base := .nil, data := [] }
 else if e.kind = 6 then { e with orep := 0, oseq := 0, gone := .nil }
 else if e.kind = 7 then { e with orep := 0, oseq := 0, gone := .nil, drep := 0, dseq := 0, name := [] }
 else if e.kind = 8 then { e with ward := 0 }
 else e
set_option maxHeartbeats 4000000 in
theorem A4r (e : Evt) {h d} : FunOk Tryz.prog 45 [.vec 21 (Bq e)] h d (.vec 21 (Bq (Cm e))) [] := by
 refine Aw Af fn45 (by simp) rfl rfl fun F => ?_;have hl := Ac e;by_cases h1 : e.kind = 1
 · have eb : Cm e = { e with drep := 0, dseq := 0, name := [] } := by simp [Cm, h1]
   simp (disch := omega) only [ir45, Ae, h1, Kf, Ke, Kc, Ii, Ih, Nf, Kg, Kb, Bx, Ac, eb, go_sem]
 by_cases h2 : e.kind = 2
 · have eb : Cm e = { e with drep := 0, dseq := 0, name := [] } := by simp [Cm, h2]
   simp (disch := omega) only [ir45, Ae, h2, Kf, Ke, Kc, Ii, Ih, Nf, Kg, Kb, Bx, Ac, eb, go_sem]
 by_cases h3 : e.kind = 3
 · have eb : Cm e = { e with orep := 0, oseq := 0, base := .nil, off := 0, data := [] } := by simp [Cm, h3]
   simp (disch := omega) only [ir45, Ae, h3, Kf, Ke, Kc, Ii, Ih, Nf, Kg, Kb, Bx, Ac, eb, go_sem]
 by_cases h4 : e.kind = 4
 · have eb : Cm e = { e with orep := 0, oseq := 0, base := .nil, off := 0 } := by simp [Cm, h4]
   simp (disch := omega) only [ir45, Ae, h4, Kf, Ke, Kc, Ii, Ih, Nf, Kg, Kb, Bx, Ac, eb, go_sem]
 by_cases h5 : e.kind = 5
 · have eb : Cm e = { e with orep := 0, oseq := 0, base := .nil, data := [] } := by simp [Cm, h5]
   simp (disch := omega) only [ir45, Ae, h5, Kf, Ke, Kc, Ii, Ih, Nf, Kg, Kb, Bx, Ac, eb, go_sem]
 by_cases h6 : e.kind = 6
 · have eb : Cm e = { e with orep := 0, oseq := 0, gone := .nil } := by simp [Cm, h6]
   simp (disch := omega) only [ir45, Ae, h6, Kf, Ke, Kc, Ii, Ih, Nf, Kg, Kb, Bx, Ac, eb, go_sem]
 by_cases h7 : e.kind = 7
 · have eb : Cm e = { e with orep := 0, oseq := 0, gone := .nil, drep := 0, dseq := 0, name := [] } := by simp [Cm, h7]
   simp (disch := omega) only [ir45, Ae, h7, Kf, Ke, Kc, Ii, Ih, Nf, Kg, Kb, Bx, Ac, eb, go_sem]
 by_cases h8 : e.kind = 8
 · have eb : Cm e = { e with ward := 0 } := by simp [Cm, h8]
   simp (disch := omega) only [ir45, Ae, h8, Kf, Ke, Kc, Ii, Ih, Nf, Kg, Kb, Bx, Ac, eb, go_sem]
 have eb : Cm e = e := by simp [Cm, h1, h2, h3, h4, h5, h6, h7, h8]
 simp (disch := omega) only [ir45, Ae, h1, h2, h3, h4, h5, h6, h7, h8, Bx, Ac, eb, go_sem]
end Go.Proofs.YthiamojjhdcegaaGreat.Fw
namespace Go.Proofs.YthiamojjhdcegaaGreat.Fw
variable [Th]
open Go.RowKit Go.Proofs
def Cc (r : Int) (q : Nat) : Bool := decide (r = 0 ∧ q = 0)
theorem Tc (r : Int) (q : Nat) (K : KK) : LoadK (some [PV.i .i64 r, PV.i .u32 q]) 0 1 false K = K (.pv (.i .i64 r)) [] := Ab8 ..
theorem Tb (r : Int) (q : Nat) (K : KK) : LoadK (some [PV.i .i64 r, PV.i .u32 q]) 1 1 false K = K (.pv (.i .u32 q)) [] := by
 rw [Akz]; exact Ab8 ..
theorem Ay (r : Int) (q : Nat) {h d} : FunOk Tryz.prog 63 [.vec 2 [.i .i64 r, .i .u32 q]] h d (.pv (.b (Cc r q))) [] := by
 refine Aw Af fn63 (by simp) rfl rfl fun F => ?_;by_cases h1 : r = 0
 · by_cases h2 : q = 0
   · have e : Cc r q = true := decide_eq_true ⟨h1, h2⟩;simp (disch := omega) only [ir63, Tc, Tb, h1, h2, e, Int.natCast_zero, go_sem];rw [← h1, ← h2, e]
   · have e : Cc r q = false := decide_eq_false (by omega);have h3 : ¬ (q : Int) = 0 := by omega
     simp (disch := omega) only [ir63, Tc, Tb, h3, e, h1, go_sem];rw [← h1, e]
 · have e : Cc r q = false := decide_eq_false (by omega);simp (disch := omega) only [ir63, Tc, Tb, h1, e, go_sem]
theorem Ag (r : Int) (q : Nat) : Ef [K1.int .i64, K1.int .u32] [.i .i64 r, .i .u32 q] = True := eq_true rfl
theorem Aq : Ef [K1.int .i64, K1.int .u32] [.i .i64 0, .i .u32 0] = True := eq_true rfl
theorem Ap (r : Int) (q : Nat) : Yl [.i .i64 r, .i .u32 q] [.i .i64 0, .i .u32 0] = Cc r q := by
 by_cases h : r = 0 ∧ q = 0
 · rw [show Cc r q = true from decide_eq_true h];exact Kj (q' := 0) h
 · rw [show Cc r q = false from decide_eq_false h];exact Ib (q' := 0) h
def C0 (e : Evt) : Bool := Cc e.drep e.dseq || Bs e.dep e.drep e.dseq
theorem Aby (e : Evt) {h d} : FunOk Tryz.prog 47 [.vec 21 (Bq e)] h d (.pv (.b (C0 e))) [] := by
 refine Aw Af fn47 (by simp) rfl rfl fun F => ?_;have hl := Ac e;cases hz : Cc e.drep e.dseq with
 | true =>
   have eb : C0 e = true := by simp [C0, hz]
   simp (disch := omega) only [ir47, Dh, Ac, Ag, Aq, Ap, hz, eb, go_sem]
 | false =>
   have eb : C0 e = Bs e.dep e.drep e.dseq := by simp [C0, hz]
   simp (disch := omega) only [ir47, Dh, Fb, Ac, Ag, Aq, Ap, hz, eb, go_sem];refine Aa (Js _ _ _) ?_;simp (disch := omega) only [go_sem]
def Cq (n : Int) : Bool := decide (0 ≤ n ∧ n ≤ 200)
theorem W1 (n : Int) {h d} : FunOk Tryz.prog 46 [.pv (.i .i64 n)] h d (.pv (.b (Cq n))) [] := by
 refine Aw Af fn46 (by simp) rfl rfl fun F => ?_;by_cases h1 : 0 ≤ n
 · have e : Cq n = decide (n ≤ 200) := decide_eq_decide.2 (by omega);simp (disch := omega) only [ir46, h1, e, go_sem]
 · have e : Cq n = false := decide_eq_false (by omega);simp (disch := omega) only [ir46, h1, e, go_sem]
def Awl (a : Vc) (l : List Bo) : Prop := ∀ i, (h : i < l.length) → Bs a l[i].1 l[i].2 = true ∧ (0 < i → Ch l[i - 1].1 l[i - 1].2 l[i].1 l[i].2 = true)
open Classical in
noncomputable def G4 (a : Vc) (l : List Bo) : Bool := decide (Awl a l)
theorem Akb {a : Vc} {l : List Bo} (h : Awl a l) : G4 a l = true := by simp [G4, h]
theorem U7 {a : Vc} {l : List Bo} (h : ¬ Awl a l) : G4 a l = false := by simp [G4, h]
theorem E3 (x : Bo) (K : KK) : LoadK (some (Em x)) 0 2 true K = K (.vec 2 [.i .i64 x.1, .i .u32 x.2]) [] := Xf (by rfl) K
def Qy (f : Bool) (z : Nat) (l : List Bo) (a : Vc) (k : Nat) : FS := mk [(15, .pv (.i .i64 k)), (14, .pv (.i .i64 l.length)), (13, .pv (.sl f z (l.map Em))), (0, .pv (.sl f z (l.map Em))), (5, .p 5 0)] [(5, some (.var (.vec 8 (vE a))))]
noncomputable def Ee (l : List Bo) (most : Int) (a : Vc) : Bool := decide ((l.length : Int) ≤ most) && G4 a l
theorem Zj {a : Vc} {l : List Bo} {k : Nat} (hk : ∀ i, (h : i < l.length) → i < k → Bs a l[i].1 l[i].2 = true ∧ (0 < i → Ch l[i - 1].1 l[i - 1].2 l[i].1 l[i].2 = true)) (hlt : k < l.length)
 (h1 : Bs a l[k].1 l[k].2 = true) (h2 : 0 < k → Ch l[k - 1].1 l[k - 1].2 l[k].1 l[k].2 = true) : ∀ i, (h : i < l.length) → i < k + 1 → Bs a l[i].1 l[i].2 = true ∧ (0 < i → Ch l[i - 1].1 l[i - 1].2 l[i].1 l[i].2 = true) := fun i h hi => by
 by_cases e : i = k
 · subst e; exact ⟨h1, h2⟩
 · exact hk i h (by omega)
set_option maxHeartbeats 2000000 in
theorem Aer {f : Bool} {z : Nat} {l : List Bo} {most : Int} {a : Vc} {h d} (hz : l = [] ∨ z = 2) (hn : l.length ≤ 1000) :
 FunOk Tryz.prog 49 [.pv (.sl f z (l.map Em)), .pv (.i .i64 most), .vec 8 (vE a)] h d (.pv (.b (Ee l most a))) [] := by
 refine Aw Af fn49 (by simp) rfl rfl fun F => ?_;by_cases hm : most < (l.length : Int)
 · have eb : Ee l most a = false := by
    have : ¬ (l.length : Int) ≤ most := by omega
    simp [Ee, this]
   simp (disch := omega) only [ir49, List.length_map, hm, eb, go_sem]
 have eb : Ee l most a = G4 a l := by
  have : (l.length : Int) ≤ most := by omega
  simp [Ee, this]
 rw [eb];simp (disch := omega) only [ir49, List.length_map, hm, go_sem];refine A0 Af (Qy f z l a) (fun k => k ≤ l.length ∧ ∀ i, (h : i < l.length) → i < k → Bs a l[i].1 l[i].2 = true ∧ (0 < i → Ch l[i - 1].1 l[i - 1].2 l[i].1 l[i].2 = true)) (fun k => l.length - k) 0 (by simp) (Ak ?_ ?_) fun k hk => ?_
 · simp (disch := omega) only [List.length_map, go_sem]
 · simp (disch := omega) only [go_sem]
 obtain ⟨hk1, hk2⟩ := hk;by_cases hlt : k < l.length
 · have hz2 : z = 2 := hz.resolve_left fun e => by subst e; simp at hlt
   subst hz2;have he : (l.map Em)[k]? = some (Em l[k]) := by simp [hlt]
   have hst := Zj hk2 hlt;by_cases hh : Bs a l[k].1 l[k].2 = true
   · by_cases h0 : k = 0
     · subst h0;have e0 : (l.map Em)[0]? = some (Em l[0]) := he;simp (disch := omega) only [Qy, List.length_map, he, e0, E3, Fa, Int.natCast_zero, go_sem];refine Aa (Js _ _ _) ?_;simp (disch := omega) only [hh, Int.natCast_zero, go_sem];refine Ad (x := (0 : Nat)) (1 : Nat) _ _ rfl ⟨by omega, hst hh (by omega)⟩ (by omega) ?_ ?_
       · simp (disch := omega) only [go_sem]
       · simp (disch := omega) only [go_sem]
     · have hk' : k - 1 < l.length := by omega
       have he' : (l.map Em)[k - 1]? = some (Em l[k - 1]) := by simp [hk']
       have ek : ((k : Int) - 1).toNat = k - 1 := by omega
       have hpos : (0 : Int) < k := by omega
       by_cases hlt2 : Ch l[k - 1].1 l[k - 1].2 l[k].1 l[k].2 = true
       · simp (disch := omega) only [Qy, List.length_map, he, he', ek, hpos, E3, Fa, go_sem];refine Aa (Js _ _ _) ?_;simp (disch := omega) only [hh, he, he', ek, hpos, E3, List.length_map, go_sem];refine Aa (Nn _ _ _ _) ?_;simp (disch := omega) only [hlt2, go_sem];refine Ad (k + 1) _ _ rfl ⟨by omega, hst hh fun _ => hlt2⟩ (by omega) ?_ ?_
         · simp (disch := omega) only [go_sem]
         · simp (disch := omega) only [go_sem]
       · have hlt3 : Ch l[k - 1].1 l[k - 1].2 l[k].1 l[k].2 = false := by simpa using hlt2
         have er := U7 (a := a) (l := l) fun h => hlt2 ((h k hlt).2 (by omega));simp (disch := omega) only [Qy, List.length_map, he, he', ek, hpos, E3, Fa, go_sem];refine Aa (Js _ _ _) ?_;simp (disch := omega) only [hh, he, he', ek, hpos, E3, List.length_map, go_sem];refine Aa (Nn _ _ _ _) ?_;simp (disch := omega) only [hlt3, er, Qy, go_sem]
   · have hh' : Bs a l[k].1 l[k].2 = false := by simpa using hh
     have er := U7 (a := a) (l := l) fun h => hh (h k hlt).1;simp (disch := omega) only [Qy, List.length_map, he, E3, Fa, go_sem];refine Aa (Js _ _ _) ?_;simp (disch := omega) only [hh', er, Qy, go_sem]
 · obtain rfl : k = l.length := by omega
   have er := Akb (a := a) (l := l) fun i h => hk2 i h h;simp (disch := omega) only [Qy, List.length_map, er, Qy, go_sem]
def L5 (f : Bool) (z : Nat) (l : List Bo) (a : Vc) (k : Nat) : FS := mk [(5, .pv (.i .i64 k)), (0, .pv (.sl f z (l.map Em))), (3, .p 3 0)] [(3, some (.var (.vec 8 (vE a))))]
set_option maxHeartbeats 2000000 in
theorem Ar2 {f : Bool} {z : Nat} {l : List Bo} {a : Vc} {h d} (hz : l = [] ∨ z = 2) (hn : l.length ≤ 1000) :
 FunOk Tryz.prog 64 [.pv (.sl f z (l.map Em)), .vec 8 (vE a)] h d (.pv (.b (G4 a l))) [] := by
 refine Aw Af fn64 (by simp) rfl rfl fun F => ?_;simp (disch := omega) only [ir64, List.length_map, go_sem];refine A0 Af (L5 f z l a) (fun k => k ≤ l.length ∧ ∀ i, (h : i < l.length) → i < k → Bs a l[i].1 l[i].2 = true ∧ (0 < i → Ch l[i - 1].1 l[i - 1].2 l[i].1 l[i].2 = true)) (fun k => l.length - k) 0 (by simp) (Ak ?_ ?_) fun k hk => ?_
 · simp (disch := omega) only [go_sem]
 · simp (disch := omega) only [go_sem]
 obtain ⟨hk1, hk2⟩ := hk;by_cases hlt : k < l.length
 · have hz2 : z = 2 := hz.resolve_left fun e => by subst e; simp at hlt
   subst hz2;have he : (l.map Em)[k]? = some (Em l[k]) := by simp [hlt]
   have hst := Zj hk2 hlt;by_cases hh : Bs a l[k].1 l[k].2 = true
   · by_cases h0 : k = 0
     · subst h0;have e0 : (l.map Em)[0]? = some (Em l[0]) := he;simp (disch := omega) only [L5, List.length_map, he, e0, E3, Fa, Int.natCast_zero, go_sem];refine Aa (P5 _ _ _) ?_;simp (disch := omega) only [hh, Int.natCast_zero, go_sem];refine Ad (x := (0 : Nat)) (1 : Nat) _ _ rfl ⟨by omega, hst hh (by omega)⟩ (by omega) ?_ ?_
       · simp (disch := omega) only [go_sem]
       · simp (disch := omega) only [go_sem]
     · have hk' : k - 1 < l.length := by omega
       have he' : (l.map Em)[k - 1]? = some (Em l[k - 1]) := by simp [hk']
       have ek : ((k : Int) - 1).toNat = k - 1 := by omega
       have hpos : (0 : Int) < k := by omega
       by_cases hlt2 : Ch l[k - 1].1 l[k - 1].2 l[k].1 l[k].2 = true
       · simp (disch := omega) only [L5, List.length_map, he, he', ek, hpos, E3, Fa, go_sem];refine Aa (P5 _ _ _) ?_;simp (disch := omega) only [hh, he, he', ek, hpos, E3, List.length_map, go_sem];refine Aa (F7 _ _ _ _) ?_;simp (disch := omega) only [hlt2, go_sem];refine Ad (k + 1) _ _ rfl ⟨by omega, hst hh fun _ => hlt2⟩ (by omega) ?_ ?_
         · simp (disch := omega) only [go_sem]
         · simp (disch := omega) only [go_sem]
       · have hlt3 : Ch l[k - 1].1 l[k - 1].2 l[k].1 l[k].2 = false := by simpa using hlt2
         have er := U7 (a := a) (l := l) fun h => hlt2 ((h k hlt).2 (by omega));simp (disch := omega) only [L5, List.length_map, he, he', ek, hpos, E3, Fa, go_sem];refine Aa (P5 _ _ _) ?_;simp (disch := omega) only [hh, he, he', ek, hpos, E3, List.length_map, go_sem];refine Aa (F7 _ _ _ _) ?_;simp (disch := omega) only [hlt3, er, L5, go_sem]
   · have hh' : Bs a l[k].1 l[k].2 = false := by simpa using hh
     have er := U7 (a := a) (l := l) fun h => hh (h k hlt).1;simp (disch := omega) only [L5, List.length_map, he, E3, Fa, go_sem];refine Aa (P5 _ _ _) ?_;simp (disch := omega) only [hh', er, L5, go_sem]
 · obtain rfl : k = l.length := by omega
   have er := Akb (a := a) (l := l) fun i h => hk2 i h h;simp (disch := omega) only [L5, List.length_map, er, L5, go_sem]
def Al (e : Evt) (o d g b f t w : Bool) : Bool := (o || Cc e.orep e.oseq) && ((d || (Cc e.drep e.dseq && decide (e.name = []))) && ((g || decide ((e.gone.l.length : Int) = 0)) && ((b || decide ((e.base.l.length : Int) = 0)) && ((f || decide (e.off = 0)) && ((t || decide (e.data = [])) && (w || decide (e.ward = 0)))))))
set_option maxHeartbeats 4000000 in
theorem Akn (e : Evt) {h d} : FunOk Tryz.prog 66 [.vec 21 (Bq e), .pv (.b false), .pv (.b true), .pv (.b false), .pv (.b false), .pv (.b false), .pv (.b false), .pv (.b false)] h d (.pv (.b (Al e false true false false false false false))) [] := by
 refine Aw Af fn66 (by simp) rfl rfl fun F => ?_;have hl := Ac e;by_cases hz1' : Cc e.orep e.oseq = false
 · have hz1 := hz1';have eb : Al e false true false false false false false = false := by simp only [Al, hz1, go_sem, Bool.true_or]
   simp (disch := omega) only [ir66, Ac, hz1, eb, go_sem];refine Aa (Ay _ _) ?_;simp (disch := omega) only [Ac, hz1, eb, go_sem]
 have hz1 : Cc e.orep e.oseq = true := by simpa using hz1'
 by_cases hgo : (e.gone.l.length : Int) = 0;rotate_left
 · have eb : Al e false true false false false false false = false := by simp only [Al, hz1, hgo, go_sem, Bool.true_or]
   simp (disch := omega) only [ir66, Ac, hz1, hgo, eb, go_sem];refine Aa (Ay _ _) ?_;simp (disch := omega) only [Ac, hz1, hgo, eb, go_sem]
 by_cases hba : (e.base.l.length : Int) = 0;rotate_left
 · have eb : Al e false true false false false false false = false := by simp only [Al, hz1, hgo, hba, go_sem, Bool.true_or]
   simp (disch := omega) only [ir66, Ac, hz1, hgo, hba, eb, go_sem];refine Aa (Ay _ _) ?_;simp (disch := omega) only [Ac, hz1, hgo, hba, eb, go_sem]
 by_cases hof : e.off = 0;rotate_left
 · have eb : Al e false true false false false false false = false := by simp only [Al, hz1, hgo, hba, hof, go_sem, Bool.true_or]
   simp (disch := omega) only [ir66, Ac, hz1, hgo, hba, hof, eb, go_sem];refine Aa (Ay _ _) ?_;simp (disch := omega) only [Ac, hz1, hgo, hba, hof, eb, go_sem]
 by_cases hda : e.data = [];rotate_left
 · have eb : Al e false true false false false false false = false := by simp only [Al, hz1, hgo, hba, hof, hda, go_sem, Bool.true_or]
   simp (disch := omega) only [ir66, Ac, hz1, hgo, hba, hof, hda, eb, go_sem];refine Aa (Ay _ _) ?_;simp (disch := omega) only [Ac, hz1, hgo, hba, hof, hda, eb, go_sem]
 by_cases hwa : e.ward = 0;rotate_left
 · have eb : Al e false true false false false false false = false := by simp only [Al, hz1, hgo, hba, hof, hda, hwa, go_sem, Bool.true_or]
   simp (disch := omega) only [ir66, Ac, hz1, hgo, hba, hof, hda, hwa, eb, go_sem];refine Aa (Ay _ _) ?_;simp (disch := omega) only [Ac, hz1, hgo, hba, hof, hda, hwa, eb, go_sem]
 have eb : Al e false true false false false false false = true := by simp only [Al, hz1, hgo, hba, hof, hda, hwa, go_sem, Bool.true_or]
 simp (disch := omega) only [ir66, Ac, hz1, hgo, hba, hof, hda, hwa, eb, go_sem];refine Aa (Ay _ _) ?_;simp (disch := omega) only [Ac, hz1, hgo, hba, hof, hda, hwa, eb, go_sem]
set_option maxHeartbeats 4000000 in
theorem Ahn (e : Evt) {h d} : FunOk Tryz.prog 66 [.vec 21 (Bq e), .pv (.b true), .pv (.b false), .pv (.b false), .pv (.b true), .pv (.b true), .pv (.b true), .pv (.b false)] h d (.pv (.b (Al e true false false true true true false))) [] := by
 refine Aw Af fn66 (by simp) rfl rfl fun F => ?_;have hl := Ac e;by_cases hz2' : Cc e.drep e.dseq = false
 · have hz2 := hz2';have eb : Al e true false false true true true false = false := by simp only [Al, hz2, go_sem, Bool.true_or]
   simp (disch := omega) only [ir66, Ac, hz2, eb, go_sem];refine Aa (Ay _ _) ?_;simp (disch := omega) only [Ac, hz2, eb, go_sem]
 have hz2 : Cc e.drep e.dseq = true := by simpa using hz2'
 by_cases hnm : e.name = [];rotate_left
 · have eb : Al e true false false true true true false = false := by simp only [Al, hz2, hnm, go_sem, Bool.true_or]
   simp (disch := omega) only [ir66, Ac, hz2, hnm, eb, go_sem];refine Aa (Ay _ _) ?_;simp (disch := omega) only [Ac, hz2, hnm, eb, go_sem]
 by_cases hgo : (e.gone.l.length : Int) = 0;rotate_left
 · have eb : Al e true false false true true true false = false := by simp only [Al, hz2, hnm, hgo, go_sem, Bool.true_or]
   simp (disch := omega) only [ir66, Ac, hz2, hnm, hgo, eb, go_sem];refine Aa (Ay _ _) ?_;simp (disch := omega) only [Ac, hz2, hnm, hgo, eb, go_sem]
 by_cases hwa : e.ward = 0;rotate_left
 · have eb : Al e true false false true true true false = false := by simp only [Al, hz2, hnm, hgo, hwa, go_sem, Bool.true_or]
   simp (disch := omega) only [ir66, Ac, hz2, hnm, hgo, hwa, eb, go_sem];refine Aa (Ay _ _) ?_;simp (disch := omega) only [Ac, hz2, hnm, hgo, hwa, eb, go_sem]
 have eb : Al e true false false true true true false = true := by simp only [Al, hz2, hnm, hgo, hwa, go_sem, Bool.true_or]
 simp (disch := omega) only [ir66, Ac, hz2, hnm, hgo, hwa, eb, go_sem];refine Aa (Ay _ _) ?_;simp (disch := omega) only [Ac, hz2, hnm, hgo, hwa, eb, go_sem]
set_option maxHeartbeats 4000000 in
theorem Amx (e : Evt) {h d} : FunOk Tryz.prog 66 [.vec 21 (Bq e), .pv (.b true), .pv (.b false), .pv (.b false), .pv (.b true), .pv (.b true), .pv (.b false), .pv (.b false)] h d (.pv (.b (Al e true false false true true false false))) [] := by
 refine Aw Af fn66 (by simp) rfl rfl fun F => ?_;have hl := Ac e;by_cases hz2' : Cc e.drep e.dseq = false
 · have hz2 := hz2';have eb : Al e true false false true true false false = false := by simp only [Al, hz2, go_sem, Bool.true_or]
   simp (disch := omega) only [ir66, Ac, hz2, eb, go_sem];refine Aa (Ay _ _) ?_;simp (disch := omega) only [Ac, hz2, eb, go_sem]
 have hz2 : Cc e.drep e.dseq = true := by simpa using hz2'
 by_cases hnm : e.name = [];rotate_left
 · have eb : Al e true false false true true false false = false := by simp only [Al, hz2, hnm, go_sem, Bool.true_or]
   simp (disch := omega) only [ir66, Ac, hz2, hnm, eb, go_sem];refine Aa (Ay _ _) ?_;simp (disch := omega) only [Ac, hz2, hnm, eb, go_sem]
 by_cases hgo : (e.gone.l.length : Int) = 0;rotate_left
 · have eb : Al e true false false true true false false = false := by simp only [Al, hz2, hnm, hgo, go_sem, Bool.true_or]
   simp (disch := omega) only [ir66, Ac, hz2, hnm, hgo, eb, go_sem];refine Aa (Ay _ _) ?_;simp (disch := omega) only [Ac, hz2, hnm, hgo, eb, go_sem]
 by_cases hda : e.data = [];rotate_left
 · have eb : Al e true false false true true false false = false := by simp only [Al, hz2, hnm, hgo, hda, go_sem, Bool.true_or]
   simp (disch := omega) only [ir66, Ac, hz2, hnm, hgo, hda, eb, go_sem];refine Aa (Ay _ _) ?_;simp (disch := omega) only [Ac, hz2, hnm, hgo, hda, eb, go_sem]
 by_cases hwa : e.ward = 0;rotate_left
 · have eb : Al e true false false true true false false = false := by simp only [Al, hz2, hnm, hgo, hda, hwa, go_sem, Bool.true_or]
   simp (disch := omega) only [ir66, Ac, hz2, hnm, hgo, hda, hwa, eb, go_sem];refine Aa (Ay _ _) ?_;simp (disch := omega) only [Ac, hz2, hnm, hgo, hda, hwa, eb, go_sem]
 have eb : Al e true false false true true false false = true := by simp only [Al, hz2, hnm, hgo, hda, hwa, go_sem, Bool.true_or]
 simp (disch := omega) only [ir66, Ac, hz2, hnm, hgo, hda, hwa, eb, go_sem];refine Aa (Ay _ _) ?_;simp (disch := omega) only [Ac, hz2, hnm, hgo, hda, hwa, eb, go_sem]
set_option maxHeartbeats 4000000 in
theorem Amy (e : Evt) {h d} : FunOk Tryz.prog 66 [.vec 21 (Bq e), .pv (.b true), .pv (.b false), .pv (.b false), .pv (.b true), .pv (.b false), .pv (.b true), .pv (.b false)] h d (.pv (.b (Al e true false false true false true false))) [] := by
 refine Aw Af fn66 (by simp) rfl rfl fun F => ?_;have hl := Ac e;by_cases hz2' : Cc e.drep e.dseq = false
 · have hz2 := hz2';have eb : Al e true false false true false true false = false := by simp only [Al, hz2, go_sem, Bool.true_or]
   simp (disch := omega) only [ir66, Ac, hz2, eb, go_sem];refine Aa (Ay _ _) ?_;simp (disch := omega) only [Ac, hz2, eb, go_sem]
 have hz2 : Cc e.drep e.dseq = true := by simpa using hz2'
 by_cases hnm : e.name = [];rotate_left
 · have eb : Al e true false false true false true false = false := by simp only [Al, hz2, hnm, go_sem, Bool.true_or]
   simp (disch := omega) only [ir66, Ac, hz2, hnm, eb, go_sem];refine Aa (Ay _ _) ?_;simp (disch := omega) only [Ac, hz2, hnm, eb, go_sem]
 by_cases hgo : (e.gone.l.length : Int) = 0;rotate_left
 · have eb : Al e true false false true false true false = false := by simp only [Al, hz2, hnm, hgo, go_sem, Bool.true_or]
   simp (disch := omega) only [ir66, Ac, hz2, hnm, hgo, eb, go_sem];refine Aa (Ay _ _) ?_;simp (disch := omega) only [Ac, hz2, hnm, hgo, eb, go_sem]
 by_cases hof : e.off = 0;rotate_left
 · have eb : Al e true false false true false true false = false := by simp only [Al, hz2, hnm, hgo, hof, go_sem, Bool.true_or]
   simp (disch := omega) only [ir66, Ac, hz2, hnm, hgo, hof, eb, go_sem];refine Aa (Ay _ _) ?_;simp (disch := omega) only [Ac, hz2, hnm, hgo, hof, eb, go_sem]
 by_cases hwa : e.ward = 0;rotate_left
 · have eb : Al e true false false true false true false = false := by simp only [Al, hz2, hnm, hgo, hof, hwa, go_sem, Bool.true_or]
   simp (disch := omega) only [ir66, Ac, hz2, hnm, hgo, hof, hwa, eb, go_sem];refine Aa (Ay _ _) ?_;simp (disch := omega) only [Ac, hz2, hnm, hgo, hof, hwa, eb, go_sem]
 have eb : Al e true false false true false true false = true := by simp only [Al, hz2, hnm, hgo, hof, hwa, go_sem, Bool.true_or]
 simp (disch := omega) only [ir66, Ac, hz2, hnm, hgo, hof, hwa, eb, go_sem];refine Aa (Ay _ _) ?_;simp (disch := omega) only [Ac, hz2, hnm, hgo, hof, hwa, eb, go_sem]
set_option maxHeartbeats 4000000 in
theorem Ar4 (e : Evt) {h d} : FunOk Tryz.prog 66 [.vec 21 (Bq e), .pv (.b true), .pv (.b false), .pv (.b true), .pv (.b false), .pv (.b false), .pv (.b false), .pv (.b false)] h d (.pv (.b (Al e true false true false false false false))) [] := by
 refine Aw Af fn66 (by simp) rfl rfl fun F => ?_;have hl := Ac e;by_cases hz2' : Cc e.drep e.dseq = false
 · have hz2 := hz2';have eb : Al e true false true false false false false = false := by simp only [Al, hz2, go_sem, Bool.true_or]
   simp (disch := omega) only [ir66, Ac, hz2, eb, go_sem];refine Aa (Ay _ _) ?_;simp (disch := omega) only [Ac, hz2, eb, go_sem]
 have hz2 : Cc e.drep e.dseq = true := by simpa using hz2'
 by_cases hnm : e.name = [];rotate_left
 · have eb : Al e true false true false false false false = false := by simp only [Al, hz2, hnm, go_sem, Bool.true_or]
   simp (disch := omega) only [ir66, Ac, hz2, hnm, eb, go_sem];refine Aa (Ay _ _) ?_;simp (disch := omega) only [Ac, hz2, hnm, eb, go_sem]
 by_cases hba : (e.base.l.length : Int) = 0;rotate_left
 · have eb : Al e true false true false false false false = false := by simp only [Al, hz2, hnm, hba, go_sem, Bool.true_or]
   simp (disch := omega) only [ir66, Ac, hz2, hnm, hba, eb, go_sem];refine Aa (Ay _ _) ?_;simp (disch := omega) only [Ac, hz2, hnm, hba, eb, go_sem]
 by_cases hof : e.off = 0;rotate_left
 · have eb : Al e true false true false false false false = false := by simp only [Al, hz2, hnm, hba, hof, go_sem, Bool.true_or]
   simp (disch := omega) only [ir66, Ac, hz2, hnm, hba, hof, eb, go_sem];refine Aa (Ay _ _) ?_;simp (disch := omega) only [Ac, hz2, hnm, hba, hof, eb, go_sem]
 by_cases hda : e.data = [];rotate_left
 · have eb : Al e true false true false false false false = false := by simp only [Al, hz2, hnm, hba, hof, hda, go_sem, Bool.true_or]
   simp (disch := omega) only [ir66, Ac, hz2, hnm, hba, hof, hda, eb, go_sem];refine Aa (Ay _ _) ?_;simp (disch := omega) only [Ac, hz2, hnm, hba, hof, hda, eb, go_sem]
 by_cases hwa : e.ward = 0;rotate_left
 · have eb : Al e true false true false false false false = false := by simp only [Al, hz2, hnm, hba, hof, hda, hwa, go_sem, Bool.true_or]
   simp (disch := omega) only [ir66, Ac, hz2, hnm, hba, hof, hda, hwa, eb, go_sem];refine Aa (Ay _ _) ?_;simp (disch := omega) only [Ac, hz2, hnm, hba, hof, hda, hwa, eb, go_sem]
 have eb : Al e true false true false false false false = true := by simp only [Al, hz2, hnm, hba, hof, hda, hwa, go_sem, Bool.true_or]
 simp (disch := omega) only [ir66, Ac, hz2, hnm, hba, hof, hda, hwa, eb, go_sem];refine Aa (Ay _ _) ?_;simp (disch := omega) only [Ac, hz2, hnm, hba, hof, hda, hwa, eb, go_sem]
set_option maxHeartbeats 4000000 in
theorem Amw (e : Evt) {h d} : FunOk Tryz.prog 66 [.vec 21 (Bq e), .pv (.b true), .pv (.b true), .pv (.b true), .pv (.b false), .pv (.b false), .pv (.b false), .pv (.b false)] h d (.pv (.b (Al e true true true false false false false))) [] := by
 refine Aw Af fn66 (by simp) rfl rfl fun F => ?_;have hl := Ac e;by_cases hba : (e.base.l.length : Int) = 0;rotate_left
 · have eb : Al e true true true false false false false = false := by simp only [Al, hba, go_sem, Bool.true_or]
   simp (disch := omega) only [ir66, Ac, hba, eb, go_sem]
 by_cases hof : e.off = 0;rotate_left
 · have eb : Al e true true true false false false false = false := by simp only [Al, hba, hof, go_sem, Bool.true_or]
   simp (disch := omega) only [ir66, Ac, hba, hof, eb, go_sem]
 by_cases hda : e.data = [];rotate_left
 · have eb : Al e true true true false false false false = false := by simp only [Al, hba, hof, hda, go_sem, Bool.true_or]
   simp (disch := omega) only [ir66, Ac, hba, hof, hda, eb, go_sem]
 by_cases hwa : e.ward = 0;rotate_left
 · have eb : Al e true true true false false false false = false := by simp only [Al, hba, hof, hda, hwa, go_sem, Bool.true_or]
   simp (disch := omega) only [ir66, Ac, hba, hof, hda, hwa, eb, go_sem]
 have eb : Al e true true true false false false false = true := by simp only [Al, hba, hof, hda, hwa, go_sem, Bool.true_or]
 simp (disch := omega) only [ir66, Ac, hba, hof, hda, hwa, eb, go_sem]
set_option maxHeartbeats 4000000 in
theorem Ayd (e : Evt) {h d} : FunOk Tryz.prog 66 [.vec 21 (Bq e), .pv (.b false), .pv (.b false), .pv (.b false), .pv (.b false), .pv (.b false), .pv (.b false), .pv (.b true)] h d (.pv (.b (Al e false false false false false false true))) [] := by
 refine Aw Af fn66 (by simp) rfl rfl fun F => ?_;have hl := Ac e;by_cases hz1' : Cc e.orep e.oseq = false
 · have hz1 := hz1';have eb : Al e false false false false false false true = false := by simp only [Al, hz1, go_sem, Bool.true_or]
   simp (disch := omega) only [ir66, Ac, hz1, eb, go_sem];refine Aa (Ay _ _) ?_;simp (disch := omega) only [Ac, hz1, eb, go_sem]
 have hz1 : Cc e.orep e.oseq = true := by simpa using hz1'
 by_cases hz2' : Cc e.drep e.dseq = false
 · have hz2 := hz2';have eb : Al e false false false false false false true = false := by simp only [Al, hz1, hz2, go_sem, Bool.true_or]
   simp (disch := omega) only [ir66, Ac, hz1, hz2, eb, go_sem];refine Aa (Ay _ _) ?_;simp (disch := omega) only [Ac, hz1, hz2, eb, go_sem];refine Aa (Ay _ _) ?_;simp (disch := omega) only [Ac, hz1, hz2, eb, go_sem]
 have hz2 : Cc e.drep e.dseq = true := by simpa using hz2'
 by_cases hnm : e.name = [];rotate_left
 · have eb : Al e false false false false false false true = false := by simp only [Al, hz1, hz2, hnm, go_sem, Bool.true_or]
   simp (disch := omega) only [ir66, Ac, hz1, hz2, hnm, eb, go_sem];refine Aa (Ay _ _) ?_;simp (disch := omega) only [Ac, hz1, hz2, hnm, eb, go_sem];refine Aa (Ay _ _) ?_;simp (disch := omega) only [Ac, hz1, hz2, hnm, eb, go_sem]
 by_cases hgo : (e.gone.l.length : Int) = 0;rotate_left
 · have eb : Al e false false false false false false true = false := by simp only [Al, hz1, hz2, hnm, hgo, go_sem, Bool.true_or]
   simp (disch := omega) only [ir66, Ac, hz1, hz2, hnm, hgo, eb, go_sem];refine Aa (Ay _ _) ?_;simp (disch := omega) only [Ac, hz1, hz2, hnm, hgo, eb, go_sem];refine Aa (Ay _ _) ?_;simp (disch := omega) only [Ac, hz1, hz2, hnm, hgo, eb, go_sem]
 by_cases hba : (e.base.l.length : Int) = 0;rotate_left
 · have eb : Al e false false false false false false true = false := by simp only [Al, hz1, hz2, hnm, hgo, hba, go_sem, Bool.true_or]
   simp (disch := omega) only [ir66, Ac, hz1, hz2, hnm, hgo, hba, eb, go_sem];refine Aa (Ay _ _) ?_;simp (disch := omega) only [Ac, hz1, hz2, hnm, hgo, hba, eb, go_sem];refine Aa (Ay _ _) ?_;simp (disch := omega) only [Ac, hz1, hz2, hnm, hgo, hba, eb, go_sem]
 by_cases hof : e.off = 0;rotate_left
 · have eb : Al e false false false false false false true = false := by simp only [Al, hz1, hz2, hnm, hgo, hba, hof, go_sem, Bool.true_or]
   simp (disch := omega) only [ir66, Ac, hz1, hz2, hnm, hgo, hba, hof, eb, go_sem];refine Aa (Ay _ _) ?_;simp (disch := omega) only [Ac, hz1, hz2, hnm, hgo, hba, hof, eb, go_sem];refine Aa (Ay _ _) ?_;simp (disch := omega) only [Ac, hz1, hz2, hnm, hgo, hba, hof, eb, go_sem]
 by_cases hda : e.data = [];rotate_left
 · have eb : Al e false false false false false false true = false := by simp only [Al, hz1, hz2, hnm, hgo, hba, hof, hda, go_sem, Bool.true_or]
   simp (disch := omega) only [ir66, Ac, hz1, hz2, hnm, hgo, hba, hof, hda, eb, go_sem];refine Aa (Ay _ _) ?_;simp (disch := omega) only [Ac, hz1, hz2, hnm, hgo, hba, hof, hda, eb, go_sem];refine Aa (Ay _ _) ?_;simp (disch := omega) only [Ac, hz1, hz2, hnm, hgo, hba, hof, hda, eb, go_sem]
 have eb : Al e false false false false false false true = true := by simp only [Al, hz1, hz2, hnm, hgo, hba, hof, hda, go_sem, Bool.true_or]
 simp (disch := omega) only [ir66, Ac, hz1, hz2, hnm, hgo, hba, hof, hda, eb, go_sem];refine Aa (Ay _ _) ?_;simp (disch := omega) only [Ac, hz1, hz2, hnm, hgo, hba, hof, hda, eb, go_sem];refine Aa (Ay _ _) ?_;simp (disch := omega) only [Ac, hz1, hz2, hnm, hgo, hba, hof, hda, eb, go_sem]
set_option maxHeartbeats 4000000 in
theorem Aye (e : Evt) {h d} : FunOk Tryz.prog 66 [.vec 21 (Bq e), .pv (.b false), .pv (.b false), .pv (.b false), .pv (.b false), .pv (.b false), .pv (.b false), .pv (.b false)] h d (.pv (.b (Al e false false false false false false false))) [] := by
 refine Aw Af fn66 (by simp) rfl rfl fun F => ?_;have hl := Ac e;by_cases hz1' : Cc e.orep e.oseq = false
 · have hz1 := hz1';have eb : Al e false false false false false false false = false := by simp only [Al, hz1, go_sem, Bool.true_or]
   simp (disch := omega) only [ir66, Ac, hz1, eb, go_sem];refine Aa (Ay _ _) ?_;simp (disch := omega) only [Ac, hz1, eb, go_sem]
 have hz1 : Cc e.orep e.oseq = true := by simpa using hz1'
 by_cases hz2' : Cc e.drep e.dseq = false
 · have hz2 := hz2';have eb : Al e false false false false false false false = false := by simp only [Al, hz1, hz2, go_sem, Bool.true_or]
   simp (disch := omega) only [ir66, Ac, hz1, hz2, eb, go_sem];refine Aa (Ay _ _) ?_;simp (disch := omega) only [Ac, hz1, hz2, eb, go_sem];refine Aa (Ay _ _) ?_;simp (disch := omega) only [Ac, hz1, hz2, eb, go_sem]
 have hz2 : Cc e.drep e.dseq = true := by simpa using hz2'
 by_cases hnm : e.name = [];rotate_left
 · have eb : Al e false false false false false false false = false := by simp only [Al, hz1, hz2, hnm, go_sem, Bool.true_or]
   simp (disch := omega) only [ir66, Ac, hz1, hz2, hnm, eb, go_sem];refine Aa (Ay _ _) ?_;simp (disch := omega) only [Ac, hz1, hz2, hnm, eb, go_sem];refine Aa (Ay _ _) ?_;simp (disch := omega) only [Ac, hz1, hz2, hnm, eb, go_sem]
 by_cases hgo : (e.gone.l.length : Int) = 0;rotate_left
 · have eb : Al e false false false false false false false = false := by simp only [Al, hz1, hz2, hnm, hgo, go_sem, Bool.true_or]
   simp (disch := omega) only [ir66, Ac, hz1, hz2, hnm, hgo, eb, go_sem];refine Aa (Ay _ _) ?_;simp (disch := omega) only [Ac, hz1, hz2, hnm, hgo, eb, go_sem];refine Aa (Ay _ _) ?_;simp (disch := omega) only [Ac, hz1, hz2, hnm, hgo, eb, go_sem]
 by_cases hba : (e.base.l.length : Int) = 0;rotate_left
 · have eb : Al e false false false false false false false = false := by simp only [Al, hz1, hz2, hnm, hgo, hba, go_sem, Bool.true_or]
   simp (disch := omega) only [ir66, Ac, hz1, hz2, hnm, hgo, hba, eb, go_sem];refine Aa (Ay _ _) ?_;simp (disch := omega) only [Ac, hz1, hz2, hnm, hgo, hba, eb, go_sem];refine Aa (Ay _ _) ?_;simp (disch := omega) only [Ac, hz1, hz2, hnm, hgo, hba, eb, go_sem]
 by_cases hof : e.off = 0;rotate_left
 · have eb : Al e false false false false false false false = false := by simp only [Al, hz1, hz2, hnm, hgo, hba, hof, go_sem, Bool.true_or]
   simp (disch := omega) only [ir66, Ac, hz1, hz2, hnm, hgo, hba, hof, eb, go_sem];refine Aa (Ay _ _) ?_;simp (disch := omega) only [Ac, hz1, hz2, hnm, hgo, hba, hof, eb, go_sem];refine Aa (Ay _ _) ?_;simp (disch := omega) only [Ac, hz1, hz2, hnm, hgo, hba, hof, eb, go_sem]
 by_cases hda : e.data = [];rotate_left
 · have eb : Al e false false false false false false false = false := by simp only [Al, hz1, hz2, hnm, hgo, hba, hof, hda, go_sem, Bool.true_or]
   simp (disch := omega) only [ir66, Ac, hz1, hz2, hnm, hgo, hba, hof, hda, eb, go_sem];refine Aa (Ay _ _) ?_;simp (disch := omega) only [Ac, hz1, hz2, hnm, hgo, hba, hof, hda, eb, go_sem];refine Aa (Ay _ _) ?_;simp (disch := omega) only [Ac, hz1, hz2, hnm, hgo, hba, hof, hda, eb, go_sem]
 by_cases hwa : e.ward = 0;rotate_left
 · have eb : Al e false false false false false false false = false := by simp only [Al, hz1, hz2, hnm, hgo, hba, hof, hda, hwa, go_sem, Bool.true_or]
   simp (disch := omega) only [ir66, Ac, hz1, hz2, hnm, hgo, hba, hof, hda, hwa, eb, go_sem];refine Aa (Ay _ _) ?_;simp (disch := omega) only [Ac, hz1, hz2, hnm, hgo, hba, hof, hda, hwa, eb, go_sem];refine Aa (Ay _ _) ?_;simp (disch := omega) only [Ac, hz1, hz2, hnm, hgo, hba, hof, hda, hwa, eb, go_sem]
 have eb : Al e false false false false false false false = true := by simp only [Al, hz1, hz2, hnm, hgo, hba, hof, hda, hwa, go_sem, Bool.true_or]
 simp (disch := omega) only [ir66, Ac, hz1, hz2, hnm, hgo, hba, hof, hda, hwa, eb, go_sem];refine Aa (Ay _ _) ?_;simp (disch := omega) only [Ac, hz1, hz2, hnm, hgo, hba, hof, hda, hwa, eb, go_sem];refine Aa (Ay _ _) ?_;simp (disch := omega) only [Ac, hz1, hz2, hnm, hgo, hba, hof, hda, hwa, eb, go_sem]
inductive RdR where
 | skip
 | err (e : Int)
 | val (x : Int) (rest : List UInt8)
theorem Adh (n : Nat) : IntKind.u8.wrap (n : Int) = ((UInt8.ofNat n).toNat : Int) := by
 rw [UInt8.toNat_ofNat'];simp [IntKind.wrap, IntKind.signed, IntKind.bits]
theorem A1p (l p l' p') : Ap0 (.it l p) (.it l' p') = (l = l' ∧ p = p') := (rfl)
attribute [go_sem] A1p
def M2 (b : UInt8) : Bool := decide ((97 ≤ b.toNat ∧ b.toNat ≤ 122) ∨ (65 ≤ b.toNat ∧ b.toNat ≤ 90) ∨ (48 ≤ b.toNat ∧ b.toNat ≤ 57) ∨ b.toNat = 46 ∨ b.toNat = 95 ∨ b.toNat = 45)
def De (s : List UInt8) : Bool := decide (1 ≤ s.length ∧ s.length ≤ 12 ∧ s ≠ [46] ∧ s ≠ [46, 46]) && s.all M2
theorem Ao0 {s : List UInt8} {pos : Nat} (h : pos < s.length) (ha : (s.getD pos 0).toNat < 128) : Pj s pos = ((s.getD pos 0).toNat, 1) := by
 have hs : pos < (⟨s.toArray⟩ : ByteArray).size := by simpa [ByteArray.size] using h
 have e : (⟨s.toArray⟩ : ByteArray)[pos]'hs = s.getD pos 0 := by
  rw [List.getD_eq_getElem?_getD, List.getElem?_eq_getElem h]; rfl
 have := decode_ascii ⟨s.toArray⟩ pos hs (by rw [e]; exact ha);unfold Pj;rw [this, e]
theorem A0j {s : List UInt8} {pos : Nat} (h : pos < s.length) (ha : ¬ (s.getD pos 0).toNat < 128) : 128 ≤ (Pj s pos).1 ∧ (Pj s pos).1 < 2147483648 := by
 have hs : pos < (⟨s.toArray⟩ : ByteArray).size := by simpa [ByteArray.size] using h
 have e : (⟨s.toArray⟩ : ByteArray).get! (pos + 0) = s.getD pos 0 := by
  show (⟨s.toArray⟩ : ByteArray).get! pos = _;have : (⟨s.toArray⟩ : ByteArray)[pos]'hs = s.getD pos 0 := by
   rw [List.getD_eq_getElem?_getD, List.getElem?_eq_getElem h]; rfl
  rw [← this];show (s.toArray)[pos]! = (s.toArray)[pos];rw [getElem!_pos]
 unfold Pj Utf8.decode;simp only [e, ha, if_false];unfold Utf8.runeError;split
 · split
   · simp only; omega
   · simp
 · split
   · split
     · rename_i hc; simp only [Bool.and_eq_true, decide_eq_true_eq] at hc ⊢; omega
     · simp
   · split
     · split
       · rename_i hc; simp only [Bool.and_eq_true, decide_eq_true_eq] at hc ⊢; omega
       · simp
     · simp
theorem Auz (n : Nat) (h : 128 ≤ n) : (Uy n).length ≤ 4 ∧ 2 ≤ (Uy n).length ∧ 128 ≤ ((Uy n).getD ((Uy n).length - 1) 0).toNat := by
 have key : ∀ c : Nat, 128 ≤ c → ∀ l : List UInt8, l = (if c < 0x80 then [UInt8.ofNat c] else if c < 0x800 then [UInt8.ofNat (0xC0 + c / 64), UInt8.ofNat (0x80 + c % 64)] else if c < 0x10000 then [UInt8.ofNat (0xE0 + c / 4096), UInt8.ofNat (0x80 + c / 64 % 64), UInt8.ofNat (0x80 + c % 64)] else [UInt8.ofNat (0xF0 + c / 262144), UInt8.ofNat (0x80 + c / 4096 % 64), UInt8.ofNat (0x80 + c / 64 % 64), UInt8.ofNat (0x80 + c % 64)]) → l.length ≤ 4 ∧ 2 ≤ l.length ∧ 128 ≤ (l.getD (l.length - 1) 0).toNat := by
  intro c hc l hl;have hb : 128 ≤ (UInt8.ofNat (0x80 + c % 64)).toNat := by rw [UInt8.toNat_ofNat']; omega
  rw [if_neg (by omega)] at hl;split at hl
  · subst hl; exact ⟨by simp, by simp, hb⟩
  · split at hl
    · subst hl; exact ⟨by simp, by simp, hb⟩
    · subst hl; exact ⟨by simp, by simp, hb⟩
 refine key (if Utf8.valid (n : Int) then n else 0xFFFD) (by split <;> omega) _ ?_;unfold Uy Utf8.encode Utf8.runeError;simp only [Int.toNat_natCast];generalize (if Utf8.valid (n : Int) = true then n else 0xFFFD) = c;split
 · rfl
 · split
   · rfl
   · split <;> rfl
theorem A88 (s : List UInt8) (c : UInt8) {h} : Aau Tryz.prog 108 [.pv (.s s), .pv (.i .u8 c.toNat)] h (.pv (.i .i64 (Lib.indexByte s c))) := by
 intro F N ρ st a w hR hh vs hc;simp only [ConcL] at hc;obtain ⟨v, us, rfl, hv, u, us', rfl, hu, rfl⟩ := hc;have hv := M6 hv;have hu := Fi hu;subst hv; subst hu;refine ⟨_, ?_, Dj⟩;rw [run_callFunc_extern (fn := (Tryz.prog.funcs[108]?).getD default) (by kernel_rfl) (by kernel_rfl) (by kernel_rfl) (by kernel_rfl) (e := Extern.BytealgIndexByte.indexByte) (by kernel_rfl)];rw [Lib.run_indexByteString];simp
theorem A89 (s : List UInt8) (c : UInt8) {h d} : FunOk Tryz.prog 105 [.pv (.s s), .pv (.i .u8 c.toNat)] h d (.pv (.i .i64 (Lib.indexByte s c))) [] := by
 refine Aw Af fn105 (by simp) rfl rfl fun F => ?_;simp (disch := omega) only [ir105, go_sem];refine R5 (A88 s c) ?_;simp (disch := omega) only [go_sem]
theorem A4l (s : List UInt8) (c : UInt8) {h d} : FunOk Tryz.prog 98 [.pv (.s s), .pv (.i .u8 c.toNat)] h d (.pv (.i .i64 (Lib.indexByte s c))) [] := by
 refine Aw Af fn98 (by simp) rfl rfl fun F => ?_;simp (disch := omega) only [ir98, go_sem];refine Aa (A89 s c) ?_;simp (disch := omega) only [go_sem]
def Sj (n : Nat) : Bool := decide (n < 55296 ∨ 57343 < n ∧ n ≤ 1114111)
theorem Ayb (n : Nat) {h d} : FunOk Tryz.prog 99 [.pv (.i .i32 n)] h d (.pv (.b (Sj n))) [] := by
 refine Aw Af fn99 (by simp) rfl rfl fun F => ?_;have h0 : (0 : Int) ≤ n := by omega
 by_cases h1 : (n : Int) < 55296
 · have e : Sj n = true := decide_eq_true (by omega);simp (disch := omega) only [ir99, h0, h1, e, go_sem]
 by_cases h2 : (57343 : Int) < n
 · by_cases h3 : (n : Int) ≤ 1114111
   · have e : Sj n = true := decide_eq_true (by omega);simp (disch := omega) only [ir99, h0, h1, h2, h3, e, go_sem]
   · have e : Sj n = false := decide_eq_false (by omega);simp (disch := omega) only [ir99, h0, h1, h2, h3, e, go_sem]
 · have e : Sj n = false := decide_eq_false (by omega);simp (disch := omega) only [ir99, h0, h1, h2, e, go_sem]
def ixD (n : Nat) : Int := if n < 128 then Lib.indexByte [46, 95, 45] (UInt8.ofNat n) else -1
def Ag9 (k : Nat) : FS := mk [(175, .p 175 0), (0, .pv (.s [46, 95, 45]))] [(175, some (.it [46, 95, 45] k))]
def Zc (rs : List UInt8) (i : Int) (_ : Unit) : FS := mk [(9, .pv (.i .i64 i)), (8, .pv (.i .i64 i)), (7, .pv (.s rs)), (10, .pv (.i .i64 0)), (0, .pv (.s [46, 95, 45]))] []
theorem Aou (n : Nat) (h : 128 ≤ n) : (∃ a b, Uy n = [a, b] ∧ 128 ≤ b.toNat) ∨ (∃ a b c, Uy n = [a, b, c] ∧ 128 ≤ c.toNat) ∨ (∃ a b c d, Uy n = [a, b, c, d] ∧ 128 ≤ d.toNat) := by
 obtain ⟨h1, h2, h3⟩ := Auz n h;generalize Uy n = l at *
 match l, h1, h2, h3 with
 | [a, b], _, _, h3 => exact .inl ⟨a, b, rfl, h3⟩
 | [a, b, c], _, _, h3 => exact .inr (.inl ⟨a, b, c, rfl, h3⟩)
 | [a, b, c, d], _, _, h3 => exact .inr (.inr ⟨a, b, c, d, rfl, h3⟩)
 | [], _, h2, _ => simp at h2
 | [a], _, h2, _ => simp at h2
 | a :: b :: c :: d :: e :: r, h1, _, _ => simp at h1
theorem Ale {s : List UInt8} {b : UInt8} (h : s = [95, 45] ∨ s = [45] ∨ s = []) (hb : 128 ≤ b.toNat) : Lib.indexByte s b = -1 := by
 have ne : ∀ c : UInt8, c.toNat < 128 → (c == b) = false := fun c hc => by
  rw [beq_eq_false_iff_ne]; intro e; subst e; omega
 rcases h with rfl | rfl | rfl <;> simp [Lib.indexByte, ne 95 (by decide), ne 45 (by decide)]
set_option maxHeartbeats 4000000 in
theorem Aeq (n : Nat) (hn : n < 2147483648) {h d} : FunOk Tryz.prog 87 [.pv (.s [46, 95, 45]), .pv (.i .i32 n)] h d (.pv (.i .i64 (ixD n))) [] := by
 refine Aw Af fn87 (by simp) rfl rfl fun F => ?_;have h0 : (0 : Int) ≤ n := by omega
 by_cases h1 : (n : Int) < 128
 · have e : ixD n = Lib.indexByte [46, 95, 45] (UInt8.ofNat n) := by unfold ixD; rw [if_pos (by omega)]
   have ew : IntKind.u8.wrap (n : Int) = ((UInt8.ofNat n).toNat : Int) := Adh _;simp (disch := omega) only [ir87, h0, h1, ew, go_sem];refine Aa (A4l _ _) ?_;simp (disch := omega) only [e, go_sem]
 have e : ixD n = -1 := by unfold ixD; rw [if_neg (by omega)]
 by_cases h2 : (n : Int) = 65533
 · simp (disch := omega) only [ir87, h0, h1, h2, go_sem];have hl3 : (([46, 95, 45] : List UInt8).length) = 3 := rfl;have d0 : Pj [46, 95, 45] 0 = (46, 1) := by decide
   have d1 : Pj [46, 95, 45] 1 = (95, 1) := by decide
   have d2 : Pj [46, 95, 45] 2 = (45, 1) := by decide
   refine A0 Af Ag9 (fun k => k ≤ 3) (fun k => 3 - k) 0 (by omega) (Ak ?_ ?_) fun k hk => ?_
   · simp (disch := omega) only [go_sem]
   · simp (disch := omega) only [go_sem]
   by_cases hlt : k < 3
   · have : k = 0 ∨ k = 1 ∨ k = 2 := by omega
     rcases this with rfl | rfl | rfl
     all_goals simp (disch := omega) only [Ag9, hl3, d0, d1, d2, go_sem]
     · refine Ad (x := (0 : Nat)) (1 : Nat) _ _ rfl (by omega) (by omega) ?_ ?_
       · simp (disch := omega) only [go_sem]
       · simp (disch := omega) only [go_sem]
     · refine Ad (x := (1 : Nat)) (2 : Nat) _ _ rfl (by omega) (by omega) ?_ ?_
       · simp (disch := omega) only [go_sem]
       · simp (disch := omega) only [go_sem]
     · refine Ad (x := (2 : Nat)) (3 : Nat) _ _ rfl (by omega) (by omega) ?_ ?_
       · simp (disch := omega) only [go_sem]
       · simp (disch := omega) only [go_sem]
   · obtain rfl : k = 3 := by omega
     simp (disch := omega) only [Ag9, hl3, e, go_sem]
 · simp (disch := omega) only [ir87, h0, h1, h2, go_sem];refine Aa (Ayb n) ?_;cases hv : Sj n with
   | false => simp (disch := omega) only [hv, e, go_sem]
   | true =>
     have hl3 : (([46, 95, 45] : List UInt8).length : Int) = 3 := rfl;rcases Aou n (by omega) with ⟨a, b, he, hb⟩ | ⟨a, b, c, he, hb⟩ | ⟨a, b, c, d, he, hb⟩
     ·
      have hlen : (([a, b] : List UInt8).length : Int) = 2 := rfl;have hg : ((([46, 95, 45] : List UInt8).getD (Int.toNat 1) 0).toNat : Int) = 95 := rfl;have hg' : ([a, b] : List UInt8).getD (Int.toNat 1) 0 = b := rfl;have hne : ¬ (95 : Int) = (b.toNat : Int) := by omega
      have hdr : List.drop ((1 : Int) + 1).toNat (List.take 3 ([46, 95, 45] : List UInt8)) = [45] := rfl;have hib : Lib.indexByte [45] b = -1 := Ale (by simp) hb;simp (disch := omega) only [hv, he, hlen, go_sem];refine A0 Af (Zc [a, b] 1) (fun _ => True) (fun _ => 0) () trivial (Ak ?_ ?_) fun _ _ => ?_
      · simp (disch := omega) only [go_sem]
      · simp (disch := omega) only [go_sem]
      simp (disch := omega) only [Zc, hl3, hlen, hg, hg', hne, hdr, go_sem];refine Aa (A4l [45] b) ?_;simp (disch := omega) only [hib, e, go_sem]
     ·
      have hlen : (([a, b, c] : List UInt8).length : Int) = 3 := rfl;have hg : ((([46, 95, 45] : List UInt8).getD (Int.toNat 2) 0).toNat : Int) = 45 := rfl;have hg' : ([a, b, c] : List UInt8).getD (Int.toNat 2) 0 = c := rfl;have hne : ¬ (45 : Int) = (c.toNat : Int) := by omega
      have hdr : List.drop ((2 : Int) + 1).toNat (List.take 3 ([46, 95, 45] : List UInt8)) = [] := rfl;have hib : Lib.indexByte [] c = -1 := Ale (by simp) hb;simp (disch := omega) only [hv, he, hlen, go_sem];refine A0 Af (Zc [a, b, c] 2) (fun _ => True) (fun _ => 0) () trivial (Ak ?_ ?_) fun _ _ => ?_
      · simp (disch := omega) only [go_sem]
      · simp (disch := omega) only [go_sem]
      simp (disch := omega) only [Zc, hl3, hlen, hg, hg', hne, hdr, go_sem];refine Aa (A4l [] c) ?_;simp (disch := omega) only [hib, e, go_sem]
     · have hlen : (([a, b, c, d] : List UInt8).length : Int) = 4 := rfl;simp (disch := omega) only [hv, he, hlen, go_sem];refine A0 Af (Zc [a, b, c, d] 3) (fun _ => True) (fun _ => 0) () trivial (Ak ?_ ?_) fun _ _ => ?_
       · simp (disch := omega) only [go_sem]
       · simp (disch := omega) only [go_sem]
       simp (disch := omega) only [Zc, hl3, hlen, e, go_sem]
def Aoy (n : Nat) : Bool := decide (n = 46 ∨ n = 95 ∨ n = 45)
theorem Azi (n : Nat) : decide (0 ≤ ixD n) = Aoy n := by
 by_cases h : n < 128
 · have : ∀ m, m < 128 → decide (0 ≤ ixD m) = Aoy m := by decide
   exact this n h
 · have e : ixD n = -1 := by unfold ixD; rw [if_neg h]
   rw [e];have : ¬ (n = 46 ∨ n = 95 ∨ n = 45) := by omega
   simp [Aoy]; omega
theorem Jt (n : Nat) (hn : n < 2147483648) {h d} : FunOk Tryz.prog 70 [.pv (.s [46, 95, 45]), .pv (.i .i32 n)] h d (.pv (.b (Aoy n))) [] := by
 refine Aw Af fn70 (by simp) rfl rfl fun F => ?_;have e := Azi n;simp (disch := omega) only [ir70, go_sem];refine Aa (Aeq n hn) ?_;simp (disch := omega) only [e, go_sem]
def Ae9 (n : Nat) : Bool := decide ((97 ≤ n ∧ n ≤ 122) ∨ (65 ≤ n ∧ n ≤ 90))
theorem Aeo (n : Nat) {h d} : FunOk Tryz.prog 69 [.pv (.i .i32 n)] h d (.pv (.b (Ae9 n))) [] := by
 refine Aw Af fn69 (by simp) rfl rfl fun F => ?_;have : n < 65 ∨ (65 ≤ n ∧ n ≤ 90) ∨ (91 ≤ n ∧ n ≤ 96) ∨ (97 ≤ n ∧ n ≤ 122) ∨ 123 ≤ n := by omega
 rcases this with h1 | h1 | h1 | h1 | h1
 · have e : Ae9 n = false := decide_eq_false (by omega);simp (disch := omega) only [ir69, e, go_sem]
 · have e : Ae9 n = true := decide_eq_true (by omega);simp (disch := omega) only [ir69, e, go_sem]
 · have e : Ae9 n = false := decide_eq_false (by omega);simp (disch := omega) only [ir69, e, go_sem]
 · have e : Ae9 n = true := decide_eq_true (by omega);simp (disch := omega) only [ir69, e, go_sem]
 · have e : Ae9 n = false := decide_eq_false (by omega);simp (disch := omega) only [ir69, e, go_sem]
theorem Xa {s : List UInt8} {k : Nat} (hk : k < s.length) (h : M2 (s.getD k 0) = false) : De s = false := by
 have hm : s.getD k 0 ∈ s := by rw [List.getD_eq_getElem?_getD, List.getElem?_eq_getElem hk]; exact List.getElem_mem hk
 unfold De;rw [show s.all M2 = false from by rw [List.all_eq_false]; exact ⟨_, hm, by rw [h]; decide⟩, Bool.and_false]
theorem Zt {s : List UInt8} (h1 : 1 ≤ s.length) (h2 : s.length ≤ 12) (h3 : s ≠ [46]) (h4 : s ≠ [46, 46]) (h : ∀ k, k < s.length → M2 (s.getD k 0) = true) : De s = true := by
 unfold De;rw [decide_eq_true ⟨h1, h2, h3, h4⟩, Bool.true_and, List.all_eq_true];intro b hb;obtain ⟨k, hk, rfl⟩ := List.getElem_of_mem hb;have := h k hk
 rwa [List.getD_eq_getElem?_getD, List.getElem?_eq_getElem hk] at this
theorem Nq {s : List UInt8} (h : ¬ (1 ≤ s.length ∧ s.length ≤ 12 ∧ s ≠ [46] ∧ s ≠ [46, 46])) : De s = false := by
 unfold De; rw [decide_eq_false h, Bool.false_and]
def Abb (s : List UInt8) (k : Nat) : FS := mk [(22, .p 22 0), (0, .pv (.s s))] [(22, some (.it s k))]
set_option maxHeartbeats 4000000 in
theorem Ahm (s : List UInt8) {h d} : FunOk Tryz.prog 48 [.pv (.s s)] h d (.pv (.b (De s))) [] := by
 refine Aw Af fn48 (by simp) rfl rfl fun F => ?_;by_cases h1 : s = []
 · subst h1;have e : De [] = false := Nq (by simp);have hl0 : (([] : List UInt8).length : Int) = 0 := rfl;simp (disch := omega) only [ir48, hl0, e, go_sem]
 have h1' : 1 ≤ s.length := List.length_pos_iff.2 h1;by_cases h2 : 12 < (s.length : Int)
 · have e : De s = false := Nq (by omega);simp (disch := omega) only [ir48, h1, h2, e, go_sem]
 by_cases h3 : s = [46]
 · subst h3;have e : De [46] = false := Nq (fun h => h.2.2.1 rfl);have hl0 : (([46] : List UInt8).length : Int) = 1 := rfl;simp (disch := omega) only [ir48, h1, hl0, e, go_sem]
 by_cases h4 : s = [46, 46]
 · subst h4;have e : De [46, 46] = false := Nq (fun h => h.2.2.2 rfl);have hl0 : (([46, 46] : List UInt8).length : Int) = 2 := rfl;simp (disch := omega) only [ir48, h1, h3, hl0, e, go_sem]
 simp (disch := omega) only [ir48, h1, h2, h3, h4, go_sem];refine A0 Af (Abb s) (fun k => k ≤ s.length ∧ ∀ j, j < k → M2 (s.getD j 0) = true) (fun k => s.length - k) 0 (by simp) (Ak ?_ ?_) fun k hk => ?_
 · simp (disch := omega) only [go_sem]
 · simp (disch := omega) only [go_sem]
 obtain ⟨hk1, hk2⟩ := hk;by_cases hlt : k < s.length
 · by_cases ha : (s.getD k 0).toNat < 128
   · have hd := Ao0 hlt ha;have hgo : M2 (s.getD k 0) = true → (k + 1 ≤ s.length ∧ ∀ j, j < k + 1 → M2 (s.getD j 0) = true) := fun h => ⟨hlt, fun j hj => by
      by_cases e : j = k
      · subst e; exact h
      · exact hk2 j (by omega)⟩
     have hbad := fun h => Xa (s := s) hlt h;generalize hb : s.getD k 0 = b at *;simp (disch := omega) only [Abb, hd, go_sem];refine Aa (Aeo _) ?_;cases hL : Ae9 b.toNat with
     | true =>
       have hL' : (97 ≤ b.toNat ∧ b.toNat ≤ 122) ∨ (65 ≤ b.toNat ∧ b.toNat ≤ 90) := of_decide_eq_true hL;simp (disch := omega) only [hL, go_sem];refine Ad (k + 1) _ _ rfl (hgo (decide_eq_true (by omega))) (by omega) ?_ ?_
       · simp (disch := omega) only [go_sem]
       · simp (disch := omega) only [go_sem]
     | false =>
       have hL' : ¬ ((97 ≤ b.toNat ∧ b.toNat ≤ 122) ∨ (65 ≤ b.toNat ∧ b.toNat ≤ 90)) := of_decide_eq_false hL;by_cases hdg : 48 ≤ b.toNat ∧ b.toNat ≤ 57
       · simp (disch := omega) only [hL, go_sem];refine Ad (k + 1) _ _ rfl (hgo (decide_eq_true (by omega))) (by omega) ?_ ?_
         · simp (disch := omega) only [go_sem]
         · simp (disch := omega) only [go_sem]
       · have ht : b.toNat < 48 ∨ (48 ≤ b.toNat ∧ 57 < b.toNat) := by omega
         cases hdt : Aoy b.toNat with
         | true =>
           have hdt' : b.toNat = 46 ∨ b.toNat = 95 ∨ b.toNat = 45 := of_decide_eq_true hdt;have hg := hgo (decide_eq_true (by omega));rcases ht with ht | ht
           all_goals simp (disch := omega) only [hL, go_sem]
           all_goals refine Aa (Jt b.toNat (by omega)) ?_
           all_goals simp (disch := omega) only [hdt, go_sem]
           all_goals refine Ad (k + 1) _ _ rfl hg (by omega) ?_ ?_
           all_goals simp (disch := omega) only [go_sem]
         | false =>
           have hdt' : ¬ (b.toNat = 46 ∨ b.toNat = 95 ∨ b.toNat = 45) := of_decide_eq_false hdt;have hg := hbad (decide_eq_false (by omega));rcases ht with ht | ht
           all_goals simp (disch := omega) only [hL, go_sem]
           all_goals refine Aa (Jt b.toNat (by omega)) ?_
           all_goals simp (disch := omega) only [hdt, hg, go_sem]
   · obtain ⟨hd1, hd2⟩ := A0j hlt ha;have hg := Xa (s := s) hlt (decide_eq_false (by omega));generalize hc : (Pj s k).1 = c at *;have hL : Ae9 c = false := decide_eq_false (by omega);have hdt : Aoy c = false := decide_eq_false (by omega);simp (disch := omega) only [Abb, hc, go_sem];refine Aa (Aeo _) ?_;simp (disch := omega) only [hL, go_sem];refine Aa (Jt c hd2) ?_;simp (disch := omega) only [hdt, hg, go_sem]
 · obtain rfl : k = s.length := by omega
   have e := Zt h1' (by omega) h3 h4 hk2;simp (disch := omega) only [Abb, e, go_sem]
def U3 (s : List UInt8) (k : Nat) : FS := mk [(3, .pv (.i .i64 k)), (0, .pv (.s s))] []
set_option maxHeartbeats 4000000 in
theorem Abz (s : List UInt8) {h d} : FunOk Tryz.prog 65 [.pv (.s s)] h d (.pv (.b (De s))) [] := by
 refine Aw Af fn65 (by simp) rfl rfl fun F => ?_;by_cases h1 : s = []
 · subst h1;have e : De [] = false := Nq (by simp);have hl0 : (([] : List UInt8).length : Int) = 0 := rfl;simp (disch := omega) only [ir65, hl0, e, go_sem]
 have h1' : 1 ≤ s.length := List.length_pos_iff.2 h1;by_cases h2 : 12 < (s.length : Int)
 · have e : De s = false := Nq (by omega);simp (disch := omega) only [ir65, h1, h2, e, go_sem]
 by_cases h3 : s = [46]
 · subst h3;have e : De [46] = false := Nq (fun h => h.2.2.1 rfl);have hl0 : (([46] : List UInt8).length : Int) = 1 := rfl;simp (disch := omega) only [ir65, h1, hl0, e, go_sem]
 by_cases h4 : s = [46, 46]
 · subst h4;have e : De [46, 46] = false := Nq (fun h => h.2.2.2 rfl);have hl0 : (([46, 46] : List UInt8).length : Int) = 2 := rfl;simp (disch := omega) only [ir65, h1, h3, hl0, e, go_sem]
 simp (disch := omega) only [ir65, h1, h2, h3, h4, go_sem];refine A0 Af (U3 s) (fun k => k ≤ s.length ∧ ∀ j, j < k → M2 (s.getD j 0) = true) (fun k => s.length - k) 0 (by simp) (Ak ?_ ?_) fun k hk => ?_
 · simp (disch := omega) only [go_sem]
 · simp (disch := omega) only [go_sem]
 obtain ⟨hk1, hk2⟩ := hk;by_cases hlt : k < s.length
 · have hgo : M2 (s.getD k 0) = true → (k + 1 ≤ s.length ∧ ∀ j, j < k + 1 → M2 (s.getD j 0) = true) := fun h => ⟨hlt, fun j hj => by
    by_cases e : j = k
    · subst e; exact h
    · exact hk2 j (by omega)⟩
   have hbad := fun h => Xa (s := s) hlt h;generalize hb : s.getD k 0 = b at *;by_cases hok : M2 b = true
   · have hok' := of_decide_eq_true hok;have hg := hgo hok;have : (97 ≤ b.toNat ∧ b.toNat ≤ 122) ∨ (65 ≤ b.toNat ∧ b.toNat ≤ 90) ∨ (48 ≤ b.toNat ∧ b.toNat ≤ 57) ∨ b.toNat = 46 ∨ b.toNat = 95 ∨ b.toNat = 45 := by omega
     rcases this with hc | hc | hc | hc | hc | hc
     all_goals simp (disch := omega) only [U3, hb, hc, go_sem]
     all_goals refine Ad (k + 1) _ _ rfl hg (by omega) ?_ ?_
     all_goals simp (disch := omega) only [go_sem]
   · have hok0 : M2 b = false := by simpa using hok
     have hok' := of_decide_eq_false hok0;have hg := hbad hok0;have : b.toNat < 45 ∨ b.toNat = 47 ∨ (58 ≤ b.toNat ∧ b.toNat ≤ 64) ∨ (91 ≤ b.toNat ∧ b.toNat ≤ 94) ∨ b.toNat = 96 ∨ 123 ≤ b.toNat := by omega
     rcases this with hc | hc | hc | hc | hc | hc
     all_goals simp (disch := omega) only [U3, hb, hc, hg, go_sem]
 · obtain rfl : k = s.length := by omega
   have e := Zt h1' (by omega) h3 h4 hk2;simp (disch := omega) only [U3, e, go_sem]
end Go.Proofs.YthiamojjhdcegaaGreat.Fw
namespace Go.Proofs.YthiamojjhdcegaaGreat.Fw
variable [Th]
open Go.RowKit Go.Proofs
def I6 (e : Evt) : Prop := 1 ≤ e.rep ∧ e.rep ≤ 8 ∧ 1 ≤ e.seq ∧ e.seq ≤ 1048576 ∧ e.dep (e.rep - 1).toNat + 1 = e.seq ∧ 1 ≤ e.kind ∧ e.kind ≤ 9
def Qs (e : Evt) : Prop := ∀ i, i < 8 → e.dep i ≤ 1048576
def Cn (b : Evt) : Bool := Cc b.orep b.oseq && (Cc b.drep b.dseq && (decide (b.name = []) && (decide ((b.gone.l.length : Int) = 0) && (decide ((b.base.l.length : Int) = 0) && (decide (b.off = 0) && (decide (b.data = []) && decide (b.ward = 0)))))))
noncomputable def Gf (e : Evt) : Bool :=
 if e.kind = 1 ∨ e.kind = 2 then (C0 e && (De e.name))
 else if e.kind = 3 then (Bs e.dep e.orep e.oseq && (Ee e.base.l 1 e.dep && (Cq (e.off) && (decide ((1 : Int) ≤ (e.data.length : Int)) && (Cq ((e.data.length : Int)) && (Cq (e.off + (e.data.length : Int))))))))
 else if e.kind = 4 then (Bs e.dep e.orep e.oseq && (Ee e.base.l 1 e.dep && (Cq (e.off))))
 else if e.kind = 5 then (Bs e.dep e.orep e.oseq && (Ee e.base.l 8 e.dep && (decide ((2 : Int) ≤ (e.base.l.length : Int)) && (Cq ((e.data.length : Int))))))
 else if e.kind = 6 then (Bs e.dep e.orep e.oseq && (Ee e.gone.l 8 e.dep))
 else if e.kind = 7 then (Bs e.dep e.orep e.oseq && (Ee e.gone.l 8 e.dep && (C0 e && (De e.name))))
 else if e.kind = 8 then (decide (1 ≤ e.ward) && (decide (e.ward ≤ 4)))
 else true
open Classical in
noncomputable def Bm (e : Evt) : Bool := decide (I6 e) && (decide (Qs e) && (Cn (Cm e) && Gf e))
theorem Gc {e : Evt} (h : ¬ I6 e) : Bm e = false := by simp [Bm, h]
theorem Als {e : Evt} (h : ¬ Qs e) : Bm e = false := by simp [Bm, h]
theorem A0o {e : Evt} (h : Cn (Cm e) = false) : Bm e = false := by simp [Bm, h]
theorem A0p {e : Evt} (h1 : I6 e) (h2 : Qs e) (h3 : Cn (Cm e) = true) : Bm e = Gf e := by simp [Bm, h1, h2, h3]
def ev (e : Evt) : Prop := e.gone.ok ∧ e.base.ok ∧ e.gone.l.length ≤ 1000 ∧ e.base.l.length ≤ 1000 ∧ e.data.length ≤ 100000
theorem Ak8 {e : Evt} (h : e.kind = 1) : Gf e = (C0 e && (De e.name)) := by simp [Gf, h]
theorem Ak7 {e : Evt} (h : e.kind = 2) : Gf e = (C0 e && (De e.name)) := by simp [Gf, h]
theorem Kn {e : Evt} (h : e.kind = 3) : Gf e = (Bs e.dep e.orep e.oseq && (Ee e.base.l 1 e.dep && (Cq (e.off) && (decide ((1 : Int) ≤ (e.data.length : Int)) && (Cq ((e.data.length : Int)) && (Cq (e.off + (e.data.length : Int)))))))) := by simp [Gf, h]
theorem O1 {e : Evt} (h : e.kind = 4) : Gf e = (Bs e.dep e.orep e.oseq && (Ee e.base.l 1 e.dep && (Cq (e.off)))) := by simp [Gf, h]
theorem O0 {e : Evt} (h : e.kind = 5) : Gf e = (Bs e.dep e.orep e.oseq && (Ee e.base.l 8 e.dep && (decide ((2 : Int) ≤ (e.base.l.length : Int)) && (Cq ((e.data.length : Int)))))) := by simp [Gf, h]
theorem Vf {e : Evt} (h : e.kind = 6) : Gf e = (Bs e.dep e.orep e.oseq && (Ee e.gone.l 8 e.dep)) := by simp [Gf, h]
theorem Ve {e : Evt} (h : e.kind = 7) : Gf e = (Bs e.dep e.orep e.oseq && (Ee e.gone.l 8 e.dep && (C0 e && (De e.name)))) := by simp [Gf, h]
theorem Ak6 {e : Evt} (h : e.kind = 8) : Gf e = (decide (1 ≤ e.ward) && (decide (e.ward ≤ 4))) := by simp [Gf, h]
theorem Ak5 {e : Evt} (h : e.kind = 9) : Gf e = (true) := by simp [Gf, h]
def Aj4 (e : Evt) (k : Nat) : FS := mk [(55, .pv (.i .i64 k)), (54, .vec 8 (vE e.dep)), (1, .p 1 0)] [(1, some (.var (.vec 21 (Bq e))))]
set_option maxHeartbeats 16000000 in
theorem Ayi (e : Evt) (he : ev e) {h d} : FunOk Tryz.prog 22 [.vec 21 (Bq e)] h d (.pv (.b (Bm e))) [] := by
 refine Aw Af fn22 (by simp) rfl rfl fun F => ?_;have hl := Ac e;obtain ⟨hg, hb, hgn, hbn, hdl⟩ := he;by_cases r1 : e.rep < 1
 · have eb := Gc (e := e) fun h => by have := h.1; omega
   simp (disch := omega) only [ir22, Db, r1, eb, go_sem]
 by_cases r2 : 8 < e.rep
 · have eb := Gc (e := e) fun h => by have := h.2.1; omega
   simp (disch := omega) only [ir22, Db, r1, r2, eb, go_sem]
 by_cases r3 : (e.seq : Int) < 1
 · have eb := Gc (e := e) fun h => by have := h.2.2.1; omega
   simp (disch := omega) only [ir22, Db, Fx, r1, r2, r3, eb, go_sem]
 by_cases r4 : 1048576 < (e.seq : Int)
 · have eb := Gc (e := e) fun h => by have := h.2.2.2.1; omega
   simp (disch := omega) only [ir22, Db, Fx, r1, r2, r3, r4, eb, go_sem]
 obtain ⟨k, hk⟩ : ∃ k : Nat, e.rep = (k : Int) + 1 := ⟨(e.rep - 1).toNat, by omega⟩
 have hk8 : k < 8 := by omega
 have ek : ((k : Int) + 1 - 1) = (k : Int) := by omega
 have ekn : (e.rep - 1).toNat = k := by omega
 by_cases r5 : (e.dep k : Int) = (e.seq : Int) - 1;rotate_left
 · have eb := Gc (e := e) fun h => by have := h.2.2.2.2.1; rw [ekn] at this; omega
   simp (disch := omega) only [ir22, Db, Fx, Hz, hk, ek, r3, r4, r5, eb, go_sem]
 by_cases r6 : e.kind < 1
 · have eb := Gc (e := e) fun h => by have := h.2.2.2.2.2.1; omega
   simp (disch := omega) only [ir22, Db, Fx, Ae, Hz, hk, ek, r3, r4, r5, r6, eb, go_sem]
 by_cases r7 : 9 < e.kind
 · have eb := Gc (e := e) fun h => by have := h.2.2.2.2.2.2; omega
   simp (disch := omega) only [ir22, Db, Fx, Ae, Hz, hk, ek, r3, r4, r5, r6, r7, eb, go_sem]
 have hB : I6 e := ⟨by omega, by omega, by omega, by omega, by rw [ekn]; omega, by omega, by omega⟩
 simp (disch := omega) only [ir22, Db, Fx, Ae, Fb, Hz, hk, ek, r3, r4, r5, r6, r7, go_sem];refine A0 Af (Aj4 e) (fun k => k ≤ 8 ∧ ∀ i, i < k → e.dep i ≤ 1048576) (fun k => 8 - k) 0 (by simp) (Ak ?_ ?_) fun j hj => ?_
 · simp (disch := omega) only [go_sem]
 · simp (disch := omega) only [go_sem]
 obtain ⟨hj1, hj2⟩ := hj;by_cases hlt : j < 8
 · by_cases hd : 1048576 < (e.dep j : Int)
   · have eb := Als (e := e) fun h => by have := h j hlt; omega
     simp (disch := omega) only [Aj4, hd, eb, go_sem]
   · simp (disch := omega) only [Aj4, hd, go_sem];refine Ad (j + 1) _ _ rfl ⟨by omega, fun i hi => ?_⟩ (by omega) ?_ ?_
     · by_cases e : i = j
       · subst e; omega
       · exact hj2 i (by omega)
     · simp (disch := omega) only [go_sem]
     · simp (disch := omega) only [go_sem]
 obtain rfl : j = 8 := by omega
 have hD : Qs e := hj2;simp (disch := omega) only [Aj4, Bx, go_sem];refine Aa (A4r e) ?_;have cz := A0o (e := e);have ck := fun h3 => A0p (e := e) hB hD h3;have hbl := Ac (Cm e);generalize Cm e = b at *

 by_cases z1' : Cc b.orep b.oseq = false
 · have eb := cz (by simp only [Cn, z1', decide_true, decide_false, Bool.true_and, Bool.false_and, Bool.and_true, Bool.and_false, Bool.and_self]);simp (disch := omega) only [Ag, Aq, Ap, E2, hl, hbl, z1', eb, go_sem]
 have z1 : Cc b.orep b.oseq = true := by simpa using z1'
 by_cases z2' : Cc b.drep b.dseq = false
 · have eb := cz (by simp only [Cn, z1, z2', decide_true, decide_false, Bool.true_and, Bool.false_and, Bool.and_true, Bool.and_false, Bool.and_self]);simp (disch := omega) only [Ag, Aq, Ap, E2, hl, hbl, z1, z2', eb, go_sem]
 have z2 : Cc b.drep b.dseq = true := by simpa using z2'
 by_cases z3 : b.name = [];rotate_left
 · have eb := cz (by simp only [Cn, z1, z2, z3, decide_true, decide_false, Bool.true_and, Bool.false_and, Bool.and_true, Bool.and_false, Bool.and_self]);simp (disch := omega) only [Ag, Aq, Ap, E2, hl, hbl, z1, z2, z3, eb, go_sem]
 by_cases z4 : (b.gone.l.length : Int) = 0;rotate_left
 · have eb := cz (by simp only [Cn, z1, z2, z3, z4, decide_true, decide_false, Bool.true_and, Bool.false_and, Bool.and_true, Bool.and_false, Bool.and_self]);simp (disch := omega) only [Ag, Aq, Ap, E2, hl, hbl, z1, z2, z3, z4, eb, go_sem]
 by_cases z5 : (b.base.l.length : Int) = 0;rotate_left
 · have eb := cz (by simp only [Cn, z1, z2, z3, z4, z5, decide_true, decide_false, Bool.true_and, Bool.false_and, Bool.and_true, Bool.and_false, Bool.and_self]);simp (disch := omega) only [Ag, Aq, Ap, E2, hl, hbl, z1, z2, z3, z4, z5, eb, go_sem]
 by_cases z6 : b.off = 0;rotate_left
 · have eb := cz (by simp only [Cn, z1, z2, z3, z4, z5, z6, decide_true, decide_false, Bool.true_and, Bool.false_and, Bool.and_true, Bool.and_false, Bool.and_self]);simp (disch := omega) only [Ag, Aq, Ap, E2, hl, hbl, z1, z2, z3, z4, z5, z6, eb, go_sem]
 by_cases z7 : b.data = [];rotate_left
 · have eb := cz (by simp only [Cn, z1, z2, z3, z4, z5, z6, z7, decide_true, decide_false, Bool.true_and, Bool.false_and, Bool.and_true, Bool.and_false, Bool.and_self]);simp (disch := omega) only [Ag, Aq, Ap, E2, hl, hbl, z1, z2, z3, z4, z5, z6, z7, eb, go_sem]
 by_cases z8 : b.ward = 0;rotate_left
 · have eb := cz (by simp only [Cn, z1, z2, z3, z4, z5, z6, z7, z8, decide_true, decide_false, Bool.true_and, Bool.false_and, Bool.and_true, Bool.and_false, Bool.and_self]);simp (disch := omega) only [Ag, Aq, Ap, E2, hl, hbl, z1, z2, z3, z4, z5, z6, z7, z8, eb, go_sem]
 have ez := ck (by simp only [Cn, z1, z2, z3, z4, z5, z6, z7, z8, decide_true, decide_false, Bool.true_and, Bool.false_and, Bool.and_true, Bool.and_false, Bool.and_self]);have hkk : e.kind = 1 ∨ e.kind = 2 ∨ e.kind = 3 ∨ e.kind = 4 ∨ e.kind = 5 ∨ e.kind = 6 ∨ e.kind = 7 ∨ e.kind = 8 ∨ e.kind = 9 := by omega
 rcases hkk with hki | hki | hki | hki | hki | hki | hki | hki | hki
 · rw [Ak8 hki] at ez;simp (disch := omega) only [Ag, Aq, Ap, E2, hl, hbl, z1, z2, z3, z4, z5, z6, z7, z8, hki, go_sem];refine Aa (Aby e) ?_;by_cases s0' : C0 e = false
   · simp only [s0', decide_true, decide_false, Bool.true_and, Bool.false_and, Bool.and_true, Bool.and_false, Bool.and_self] at ez;simp (disch := omega) only [Ag, Aq, Ap, s0', ez, go_sem]
   have s0 : C0 e = true := by simpa using s0'
   simp (disch := omega) only [Ag, Aq, Ap, s0, go_sem];refine Aa (Ahm _) ?_;by_cases s1' : De e.name = false
   · simp only [s0, s1', decide_true, decide_false, Bool.true_and, Bool.false_and, Bool.and_true, Bool.and_false, Bool.and_self] at ez;simp (disch := omega) only [Ag, Aq, Ap, s0, s1', ez, go_sem]
   have s1 : De e.name = true := by simpa using s1'
   simp only [s0, s1, decide_true, decide_false, Bool.true_and, Bool.false_and, Bool.and_true, Bool.and_false, Bool.and_self] at ez;simp (disch := omega) only [Ag, Aq, Ap, s0, s1, ez, go_sem]
 · rw [Ak7 hki] at ez;simp (disch := omega) only [Ag, Aq, Ap, E2, hl, hbl, z1, z2, z3, z4, z5, z6, z7, z8, hki, go_sem];refine Aa (Aby e) ?_;by_cases s0' : C0 e = false
   · simp only [s0', decide_true, decide_false, Bool.true_and, Bool.false_and, Bool.and_true, Bool.and_false, Bool.and_self] at ez;simp (disch := omega) only [Ag, Aq, Ap, s0', ez, go_sem]
   have s0 : C0 e = true := by simpa using s0'
   simp (disch := omega) only [Ag, Aq, Ap, s0, go_sem];refine Aa (Ahm _) ?_;by_cases s1' : De e.name = false
   · simp only [s0, s1', decide_true, decide_false, Bool.true_and, Bool.false_and, Bool.and_true, Bool.and_false, Bool.and_self] at ez;simp (disch := omega) only [Ag, Aq, Ap, s0, s1', ez, go_sem]
   have s1 : De e.name = true := by simpa using s1'
   simp only [s0, s1, decide_true, decide_false, Bool.true_and, Bool.false_and, Bool.and_true, Bool.and_false, Bool.and_self] at ez;simp (disch := omega) only [Ag, Aq, Ap, s0, s1, ez, go_sem]
 · rw [Kn hki] at ez;simp (disch := omega) only [Ag, Aq, Ap, E2, hl, hbl, z1, z2, z3, z4, z5, z6, z7, z8, hki, go_sem];refine Aa (Js _ _ _) ?_;by_cases s0' : Bs e.dep e.orep e.oseq = false
   · simp only [s0', decide_true, decide_false, Bool.true_and, Bool.false_and, Bool.and_true, Bool.and_false, Bool.and_self] at ez;simp (disch := omega) only [Ag, Aq, Ap, s0', ez, go_sem]
   have s0 : Bs e.dep e.orep e.oseq = true := by simpa using s0'
   simp (disch := omega) only [Ag, Aq, Ap, s0, go_sem];refine Aa (Aer (l := e.base.l) (most := 1) hb hbn) ?_;by_cases s1' : Ee e.base.l 1 e.dep = false
   · simp only [s0, s1', decide_true, decide_false, Bool.true_and, Bool.false_and, Bool.and_true, Bool.and_false, Bool.and_self] at ez;simp (disch := omega) only [Ag, Aq, Ap, s0, s1', ez, go_sem]
   have s1 : Ee e.base.l 1 e.dep = true := by simpa using s1'
   simp (disch := omega) only [Ag, Aq, Ap, s0, s1, go_sem];refine Aa (W1 (e.off)) ?_;by_cases s2' : Cq (e.off) = false
   · simp only [s0, s1, s2', decide_true, decide_false, Bool.true_and, Bool.false_and, Bool.and_true, Bool.and_false, Bool.and_self] at ez;simp (disch := omega) only [Ag, Aq, Ap, s0, s1, s2', ez, go_sem]
   have s2 : Cq (e.off) = true := by simpa using s2'
   have s2b := of_decide_eq_true s2;by_cases s3 : (1 : Int) ≤ (e.data.length : Int);rotate_left
   · simp only [s0, s1, s2, s3, decide_true, decide_false, Bool.true_and, Bool.false_and, Bool.and_true, Bool.and_false, Bool.and_self] at ez;simp (disch := omega) only [Ag, Aq, Ap, s0, s1, s2, s3, ez, go_sem]
   simp (disch := omega) only [Ag, Aq, Ap, s0, s1, s2, s3, go_sem];refine Aa (W1 ((e.data.length : Int))) ?_;by_cases s4' : Cq ((e.data.length : Int)) = false
   · simp only [s0, s1, s2, s3, s4', decide_true, decide_false, Bool.true_and, Bool.false_and, Bool.and_true, Bool.and_false, Bool.and_self] at ez;simp (disch := omega) only [Ag, Aq, Ap, s0, s1, s2, s3, s4', ez, go_sem]
   have s4 : Cq ((e.data.length : Int)) = true := by simpa using s4'
   have s4b := of_decide_eq_true s4;simp (disch := omega) only [Ag, Aq, Ap, s0, s1, s2, s3, s4, go_sem];refine Aa (W1 (e.off + (e.data.length : Int))) ?_;by_cases s5' : Cq (e.off + (e.data.length : Int)) = false
   · simp only [s0, s1, s2, s3, s4, s5', decide_true, decide_false, Bool.true_and, Bool.false_and, Bool.and_true, Bool.and_false, Bool.and_self] at ez;simp (disch := omega) only [Ag, Aq, Ap, s0, s1, s2, s3, s4, s5', ez, go_sem]
   have s5 : Cq (e.off + (e.data.length : Int)) = true := by simpa using s5'
   have s5b := of_decide_eq_true s5;simp only [s0, s1, s2, s3, s4, s5, decide_true, decide_false, Bool.true_and, Bool.false_and, Bool.and_true, Bool.and_false, Bool.and_self] at ez;simp (disch := omega) only [Ag, Aq, Ap, s0, s1, s2, s3, s4, s5, ez, go_sem]
 · rw [O1 hki] at ez;simp (disch := omega) only [Ag, Aq, Ap, E2, hl, hbl, z1, z2, z3, z4, z5, z6, z7, z8, hki, go_sem];refine Aa (Js _ _ _) ?_;by_cases s0' : Bs e.dep e.orep e.oseq = false
   · simp only [s0', decide_true, decide_false, Bool.true_and, Bool.false_and, Bool.and_true, Bool.and_false, Bool.and_self] at ez;simp (disch := omega) only [Ag, Aq, Ap, s0', ez, go_sem]
   have s0 : Bs e.dep e.orep e.oseq = true := by simpa using s0'
   simp (disch := omega) only [Ag, Aq, Ap, s0, go_sem];refine Aa (Aer (l := e.base.l) (most := 1) hb hbn) ?_;by_cases s1' : Ee e.base.l 1 e.dep = false
   · simp only [s0, s1', decide_true, decide_false, Bool.true_and, Bool.false_and, Bool.and_true, Bool.and_false, Bool.and_self] at ez;simp (disch := omega) only [Ag, Aq, Ap, s0, s1', ez, go_sem]
   have s1 : Ee e.base.l 1 e.dep = true := by simpa using s1'
   simp (disch := omega) only [Ag, Aq, Ap, s0, s1, go_sem];refine Aa (W1 (e.off)) ?_;by_cases s2' : Cq (e.off) = false
   · simp only [s0, s1, s2', decide_true, decide_false, Bool.true_and, Bool.false_and, Bool.and_true, Bool.and_false, Bool.and_self] at ez;simp (disch := omega) only [Ag, Aq, Ap, s0, s1, s2', ez, go_sem]
   have s2 : Cq (e.off) = true := by simpa using s2'
   have s2b := of_decide_eq_true s2;simp only [s0, s1, s2, decide_true, decide_false, Bool.true_and, Bool.false_and, Bool.and_true, Bool.and_false, Bool.and_self] at ez;simp (disch := omega) only [Ag, Aq, Ap, s0, s1, s2, ez, go_sem]
 · rw [O0 hki] at ez;simp (disch := omega) only [Ag, Aq, Ap, E2, hl, hbl, z1, z2, z3, z4, z5, z6, z7, z8, hki, go_sem];refine Aa (Js _ _ _) ?_;by_cases s0' : Bs e.dep e.orep e.oseq = false
   · simp only [s0', decide_true, decide_false, Bool.true_and, Bool.false_and, Bool.and_true, Bool.and_false, Bool.and_self] at ez;simp (disch := omega) only [Ag, Aq, Ap, s0', ez, go_sem]
   have s0 : Bs e.dep e.orep e.oseq = true := by simpa using s0'
   simp (disch := omega) only [Ag, Aq, Ap, s0, go_sem];refine Aa (Aer (l := e.base.l) (most := 8) hb hbn) ?_;by_cases s1' : Ee e.base.l 8 e.dep = false
   · simp only [s0, s1', decide_true, decide_false, Bool.true_and, Bool.false_and, Bool.and_true, Bool.and_false, Bool.and_self] at ez;simp (disch := omega) only [Ag, Aq, Ap, s0, s1', ez, go_sem]
   have s1 : Ee e.base.l 8 e.dep = true := by simpa using s1'
   by_cases s2 : (2 : Int) ≤ (e.base.l.length : Int);rotate_left
   · simp only [s0, s1, s2, decide_true, decide_false, Bool.true_and, Bool.false_and, Bool.and_true, Bool.and_false, Bool.and_self] at ez;simp (disch := omega) only [Ag, Aq, Ap, s0, s1, s2, ez, go_sem]
   simp (disch := omega) only [Ag, Aq, Ap, s0, s1, s2, go_sem];refine Aa (W1 ((e.data.length : Int))) ?_;by_cases s3' : Cq ((e.data.length : Int)) = false
   · simp only [s0, s1, s2, s3', decide_true, decide_false, Bool.true_and, Bool.false_and, Bool.and_true, Bool.and_false, Bool.and_self] at ez;simp (disch := omega) only [Ag, Aq, Ap, s0, s1, s2, s3', ez, go_sem]
   have s3 : Cq ((e.data.length : Int)) = true := by simpa using s3'
   have s3b := of_decide_eq_true s3;simp only [s0, s1, s2, s3, decide_true, decide_false, Bool.true_and, Bool.false_and, Bool.and_true, Bool.and_false, Bool.and_self] at ez;simp (disch := omega) only [Ag, Aq, Ap, s0, s1, s2, s3, ez, go_sem]
 · rw [Vf hki] at ez;simp (disch := omega) only [Ag, Aq, Ap, E2, hl, hbl, z1, z2, z3, z4, z5, z6, z7, z8, hki, go_sem];refine Aa (Js _ _ _) ?_;by_cases s0' : Bs e.dep e.orep e.oseq = false
   · simp only [s0', decide_true, decide_false, Bool.true_and, Bool.false_and, Bool.and_true, Bool.and_false, Bool.and_self] at ez;simp (disch := omega) only [Ag, Aq, Ap, s0', ez, go_sem]
   have s0 : Bs e.dep e.orep e.oseq = true := by simpa using s0'
   simp (disch := omega) only [Ag, Aq, Ap, s0, go_sem];refine Aa (Aer (l := e.gone.l) (most := 8) hg hgn) ?_;by_cases s1' : Ee e.gone.l 8 e.dep = false
   · simp only [s0, s1', decide_true, decide_false, Bool.true_and, Bool.false_and, Bool.and_true, Bool.and_false, Bool.and_self] at ez;simp (disch := omega) only [Ag, Aq, Ap, s0, s1', ez, go_sem]
   have s1 : Ee e.gone.l 8 e.dep = true := by simpa using s1'
   simp only [s0, s1, decide_true, decide_false, Bool.true_and, Bool.false_and, Bool.and_true, Bool.and_false, Bool.and_self] at ez;simp (disch := omega) only [Ag, Aq, Ap, s0, s1, ez, go_sem]
 · rw [Ve hki] at ez;simp (disch := omega) only [Ag, Aq, Ap, E2, hl, hbl, z1, z2, z3, z4, z5, z6, z7, z8, hki, go_sem];refine Aa (Js _ _ _) ?_;by_cases s0' : Bs e.dep e.orep e.oseq = false
   · simp only [s0', decide_true, decide_false, Bool.true_and, Bool.false_and, Bool.and_true, Bool.and_false, Bool.and_self] at ez;simp (disch := omega) only [Ag, Aq, Ap, s0', ez, go_sem]
   have s0 : Bs e.dep e.orep e.oseq = true := by simpa using s0'
   simp (disch := omega) only [Ag, Aq, Ap, s0, go_sem];refine Aa (Aer (l := e.gone.l) (most := 8) hg hgn) ?_;by_cases s1' : Ee e.gone.l 8 e.dep = false
   · simp only [s0, s1', decide_true, decide_false, Bool.true_and, Bool.false_and, Bool.and_true, Bool.and_false, Bool.and_self] at ez;simp (disch := omega) only [Ag, Aq, Ap, s0, s1', ez, go_sem]
   have s1 : Ee e.gone.l 8 e.dep = true := by simpa using s1'
   simp (disch := omega) only [Ag, Aq, Ap, s0, s1, go_sem];refine Aa (Aby e) ?_;by_cases s2' : C0 e = false
   · simp only [s0, s1, s2', decide_true, decide_false, Bool.true_and, Bool.false_and, Bool.and_true, Bool.and_false, Bool.and_self] at ez;simp (disch := omega) only [Ag, Aq, Ap, s0, s1, s2', ez, go_sem]
   have s2 : C0 e = true := by simpa using s2'
   simp (disch := omega) only [Ag, Aq, Ap, s0, s1, s2, go_sem];refine Aa (Ahm _) ?_;by_cases s3' : De e.name = false
   · simp only [s0, s1, s2, s3', decide_true, decide_false, Bool.true_and, Bool.false_and, Bool.and_true, Bool.and_false, Bool.and_self] at ez;simp (disch := omega) only [Ag, Aq, Ap, s0, s1, s2, s3', ez, go_sem]
   have s3 : De e.name = true := by simpa using s3'
   simp only [s0, s1, s2, s3, decide_true, decide_false, Bool.true_and, Bool.false_and, Bool.and_true, Bool.and_false, Bool.and_self] at ez;simp (disch := omega) only [Ag, Aq, Ap, s0, s1, s2, s3, ez, go_sem]
 · rw [Ak6 hki] at ez;by_cases s0 : 1 ≤ e.ward;rotate_left
   · simp only [s0, decide_true, decide_false, Bool.true_and, Bool.false_and, Bool.and_true, Bool.and_false, Bool.and_self] at ez;simp (disch := omega) only [Ag, Aq, Ap, E2, hl, hbl, z1, z2, z3, z4, z5, z6, z7, z8, hki, s0, ez, go_sem]
   by_cases s1 : e.ward ≤ 4;rotate_left
   · simp only [s0, s1, decide_true, decide_false, Bool.true_and, Bool.false_and, Bool.and_true, Bool.and_false, Bool.and_self] at ez;simp (disch := omega) only [Ag, Aq, Ap, E2, hl, hbl, z1, z2, z3, z4, z5, z6, z7, z8, hki, s0, s1, ez, go_sem]
   simp only [s0, s1, decide_true, decide_false, Bool.true_and, Bool.false_and, Bool.and_true, Bool.and_false, Bool.and_self] at ez;simp (disch := omega) only [Ag, Aq, Ap, E2, hl, hbl, z1, z2, z3, z4, z5, z6, z7, z8, hki, s0, s1, ez, go_sem]
 · rw [Ak5 hki] at ez;simp (disch := omega) only [Ag, Aq, Ap, E2, hl, hbl, z1, z2, z3, z4, z5, z6, z7, z8, hki, ez, go_sem]
theorem Hj {e : Evt} (h1 : I6 e) (h2 : Qs e) : Bm e = (Cn (Cm e) && Gf e) := by simp [Bm, h1, h2]
theorem Lx : Cc 0 0 = true := rfl
theorem Atz (l : List Bo) (n : Int) (a : Vc) : Ee l n a = (G4 a l && decide ((l.length : Int) ≤ n)) := by unfold Ee; rw [Bool.and_comm]
theorem A14 (f : Int) (s : List UInt8) : (Cq f && (decide ((1 : Int) ≤ (s.length : Int)) && (Cq (s.length : Int) && Cq (f + (s.length : Int))))) = (Cq f && (!decide (s = []) && decide ((s.length : Int) ≤ 200 - f))) := by
 have e1 : decide ((1 : Int) ≤ (s.length : Int)) = !decide (s = []) := by
  cases s with
  | nil => rfl
  | cons a s => simp; omega
 rw [e1];unfold Cq;by_cases h1 : 0 ≤ f ∧ f ≤ 200
 · rw [decide_eq_true h1, Bool.true_and, Bool.true_and];congr 1;rw [← Bool.decide_and];exact decide_eq_decide.2 (by omega)
 · rw [decide_eq_false h1, Bool.false_and, Bool.false_and]
theorem Aq2 (s : List UInt8) : Cq (s.length : Int) = decide ((s.length : Int) ≤ 200) := decide_eq_decide.2 (by omega)
theorem A2e {e : Evt} (h : e.kind = 1) : Cn (Cm e) = Al e false true false false false false false := by simp [Cn, Cm, Al, h, Lx, SlI.nil, Bool.and_assoc]
theorem A0y {e : Evt} (h1 : I6 e) (h2 : Qs e) (h : e.kind = 1) : Bm e = (Al e false true false false false false false && (C0 e && (De e.name))) := by rw [Hj h1 h2, A2e h, Ak8 h]
theorem A2d {e : Evt} (h : e.kind = 2) : Cn (Cm e) = Al e false true false false false false false := by simp [Cn, Cm, Al, h, Lx, SlI.nil, Bool.and_assoc]
theorem A0x {e : Evt} (h1 : I6 e) (h2 : Qs e) (h : e.kind = 2) : Bm e = (Al e false true false false false false false && (C0 e && (De e.name))) := by rw [Hj h1 h2, A2d h, Ak7 h]
theorem Bc8 {e : Evt} (h : e.kind = 3) : Cn (Cm e) = Al e true false false true true true false := by simp [Cn, Cm, Al, h, Lx, SlI.nil, Bool.and_assoc]
theorem A0w {e : Evt} (h1 : I6 e) (h2 : Qs e) (h : e.kind = 3) : Bm e = (Al e true false false true true true false && (Bs e.dep e.orep e.oseq && (G4 e.dep e.base.l && (decide ((e.base.l.length : Int) ≤ 1) && (Cq e.off && (!decide (e.data = []) && (decide ((e.data.length : Int) ≤ 200 - e.off)))))))) := by rw [Hj h1 h2, Bc8 h, Kn h]; simp only [Atz, A14, Bool.and_assoc]
theorem A78 {e : Evt} (h : e.kind = 4) : Cn (Cm e) = Al e true false false true true false false := by simp [Cn, Cm, Al, h, Lx, SlI.nil, Bool.and_assoc]
theorem A0v {e : Evt} (h1 : I6 e) (h2 : Qs e) (h : e.kind = 4) : Bm e = (Al e true false false true true false false && (Bs e.dep e.orep e.oseq && (G4 e.dep e.base.l && (decide ((e.base.l.length : Int) ≤ 1) && (Cq e.off))))) := by rw [Hj h1 h2, A78 h, O1 h]; simp only [Atz, A14, Bool.and_assoc]
theorem Bc7 {e : Evt} (h : e.kind = 5) : Cn (Cm e) = Al e true false false true false true false := by simp [Cn, Cm, Al, h, Lx, SlI.nil, Bool.and_assoc]
theorem A0u {e : Evt} (h1 : I6 e) (h2 : Qs e) (h : e.kind = 5) : Bm e = (Al e true false false true false true false && (Bs e.dep e.orep e.oseq && (G4 e.dep e.base.l && (decide ((2 : Int) ≤ (e.base.l.length : Int)) && (decide ((e.base.l.length : Int) ≤ 8) && (decide ((e.data.length : Int) ≤ 200))))))) := by rw [Hj h1 h2, Bc7 h, O0 h]; simp only [Atz, Aq2, Bool.and_assoc]; congr 3; cases decide ((e.base.l.length : Int) ≤ 8) <;> cases decide ((2 : Int) ≤ (e.base.l.length : Int)) <;> rfl
theorem A77 {e : Evt} (h : e.kind = 6) : Cn (Cm e) = Al e true false true false false false false := by simp [Cn, Cm, Al, h, Lx, SlI.nil, Bool.and_assoc]
theorem A0t {e : Evt} (h1 : I6 e) (h2 : Qs e) (h : e.kind = 6) : Bm e = (Al e true false true false false false false && (Bs e.dep e.orep e.oseq && (Ee e.gone.l 8 e.dep))) := by rw [Hj h1 h2, A77 h, Vf h]
theorem A76 {e : Evt} (h : e.kind = 7) : Cn (Cm e) = Al e true true true false false false false := by simp [Cn, Cm, Al, h, Lx, SlI.nil, Bool.and_assoc]
theorem A0s {e : Evt} (h1 : I6 e) (h2 : Qs e) (h : e.kind = 7) : Bm e = (Al e true true true false false false false && (Bs e.dep e.orep e.oseq && (Ee e.gone.l 8 e.dep && (C0 e && (De e.name))))) := by rw [Hj h1 h2, A76 h, Ve h]
theorem A2c {e : Evt} (h : e.kind = 8) : Cn (Cm e) = Al e false false false false false false true := by simp [Cn, Cm, Al, h, Lx, SlI.nil, Bool.and_assoc]
theorem A0r {e : Evt} (h1 : I6 e) (h2 : Qs e) (h : e.kind = 8) : Bm e = (Al e false false false false false false true && (decide (1 ≤ e.ward) && (decide (e.ward ≤ 4)))) := by rw [Hj h1 h2, A2c h, Ak6 h]
theorem A2b {e : Evt} (h : e.kind = 9) : Cn (Cm e) = Al e false false false false false false false := by simp [Cn, Cm, Al, h, Lx, SlI.nil, Bool.and_assoc]
theorem A0q {e : Evt} (h1 : I6 e) (h2 : Qs e) (h : e.kind = 9) : Bm e = (Al e false false false false false false false && (true)) := by rw [Hj h1 h2, A2b h, Ak5 h]
def Abg (e : Evt) (k : Nat) : FS := mk [(3, .pv (.i .i64 k)), (1, .p 1 0)] [(1, some (.var (.vec 21 (Bq e))))]
theorem A2l {a b : Nat} (ha : a < 4294967296) (hb : 1 ≤ b ∧ b ≤ 1048576) (h : ¬ a + 1 = b) : ¬ IntKind.u32.wrap ((a : Int) + 1) = (b : Int) := by
 by_cases h1 : a + 1 < 4294967296
 · rw [Adi (by omega)]; omega
 · have : (a : Int) + 1 = 4294967296 := by omega
   rw [this];have : IntKind.u32.wrap 4294967296 = 0 := by decide
   rw [this]; omega
set_option maxHeartbeats 40000000 in
theorem Asa (e : Evt) (he : ev e) (hdep : ∀ i, i < 8 → e.dep i < 4294967296) {h d} : FunOk Tryz.prog 39 [.vec 21 (Bq e)] h d (.pv (.b (Bm e))) [] := by
 refine Aw Af fn39 (by simp) rfl rfl fun F => ?_;have hl := Ac e;obtain ⟨hg, hb, hgn, hbn, hdl⟩ := he;by_cases r1 : e.rep < 1
 · have eb := Gc (e := e) fun h => by have := h.1; omega
   simp (disch := omega) only [ir39, Db, r1, eb, go_sem]
 by_cases r2 : 8 < e.rep
 · have eb := Gc (e := e) fun h => by have := h.2.1; omega
   simp (disch := omega) only [ir39, Db, r1, r2, eb, go_sem]
 by_cases r3 : (e.seq : Int) < 1
 · have eb := Gc (e := e) fun h => by have := h.2.2.1; omega
   simp (disch := omega) only [ir39, Db, Fx, r1, r2, r3, eb, go_sem]
 by_cases r4 : 1048576 < (e.seq : Int)
 · have eb := Gc (e := e) fun h => by have := h.2.2.2.1; omega
   simp (disch := omega) only [ir39, Db, Fx, r1, r2, r3, r4, eb, go_sem]
 obtain ⟨k, hk⟩ : ∃ k : Nat, e.rep = (k : Int) + 1 := ⟨(e.rep - 1).toNat, by omega⟩
 have hk8 : k < 8 := by omega
 have ekn : (e.rep - 1).toNat = k := by omega
 have egv : Ho e.dep ((k : Int) + 1) = e.dep k := by
  have e1 : ((k : Int) + 1 - 1).toNat = k := by omega
  simp [Ho, e1]; omega
 have hdk := hdep k hk8;by_cases r5 : e.dep k + 1 = e.seq;rotate_left
 · have eb := Gc (e := e) fun h => by have := h.2.2.2.2.1; rw [ekn] at this; omega
   have hw := A2l hdk (by omega) r5;simp (disch := omega) only [ir39, Db, Fx, Fb, Fa, hk, r3, r4, eb, go_sem];refine Aa (P6 _ _) ?_;simp (disch := omega) only [egv, hw, Fx, eb, go_sem]
 have r5' : (e.dep k : Int) + 1 = (e.seq : Int) := by omega
 simp (disch := omega) only [ir39, Db, Fx, Fb, Fa, hk, r3, r4, go_sem];refine Aa (P6 _ _) ?_;simp (disch := omega) only [egv, r5', Fx, go_sem];refine A0 Af (Abg e) (fun k => k ≤ 8 ∧ ∀ i, i < k → e.dep i ≤ 1048576) (fun k => 8 - k) 0 (by simp) (Ak ?_ ?_) fun j hj => ?_
 · simp (disch := omega) only [go_sem]
 · simp (disch := omega) only [go_sem]
 obtain ⟨hj1, hj2⟩ := hj;by_cases hlt : j < 8
 · by_cases hd : 1048576 < (e.dep j : Int)
   · have eb := Als (e := e) fun h => by have := h j hlt; omega
     simp (disch := omega) only [Abg, Hz, hd, eb, go_sem]
   · simp (disch := omega) only [Abg, Hz, hd, go_sem];refine Ad (j + 1) _ _ rfl ⟨by omega, fun i hi => ?_⟩ (by omega) ?_ ?_
     · by_cases e : i = j
       · subst e; omega
       · exact hj2 i (by omega)
     · simp (disch := omega) only [go_sem]
     · simp (disch := omega) only [go_sem]
 obtain rfl : j = 8 := by omega
 have hD : Qs e := hj2;simp (disch := omega) only [Abg, Ac, go_sem];refine Aa (P5 _ _ _) ?_;simp (disch := omega) only [Ac, go_sem];refine Aa (Ay _ _) ?_;by_cases hz' : Cc e.drep e.dseq = false
 all_goals first
  | (have hpl : C0 e = Bs e.dep e.drep e.dseq := by simp only [C0, hz', Bool.false_or]
     simp (disch := omega) only [hz', go_sem];refine Aa (P5 _ _ _) ?_)
  | (have hz : Cc e.drep e.dseq = true := by simpa using hz'
     have hpl : C0 e = true := by simp only [C0, hz, Bool.true_or]
     simp (disch := omega) only [hz, go_sem])
 all_goals by_cases hgl0 : (e.gone.l.length : Int) ≤ 8
 all_goals first
  | (have hgl : Ee e.gone.l 8 e.dep = G4 e.dep e.gone.l := by simp only [Ee, hgl0, decide_true, Bool.true_and]
     (try simp only [D4, D3, D2, D1, D0, Dx, Dw, Dv]); simp (disch := omega) only [hgl0, go_sem]
     refine Aa (Ar2 (l := e.gone.l) hg hgn) ?_;simp (disch := omega) only [hgl0, go_sem])
  | (have hgl : Ee e.gone.l 8 e.dep = false := by simp only [Ee, hgl0, decide_false, Bool.false_and]
     (try simp only [D4, D3, D2, D1, D0, Dx, Dw, Dv]); simp (disch := omega) only [hgl0, go_sem])
 all_goals refine Aa (Ar2 (l := e.base.l) hb hbn) ?_
 all_goals by_cases ho1 : 0 ≤ e.off
 rotate_left
 all_goals by_cases ho2 : e.off ≤ 200
 all_goals try (exfalso; omega)
 all_goals first
  | (have hso : Cq e.off = true := decide_eq_true ⟨ho1, ho2⟩
     simp (disch := omega) only [hgl0, ho1, ho2, go_sem])
  | (have hso : Cq e.off = false := decide_eq_false (by omega)
     simp (disch := omega) only [hgl0, ho1, ho2, go_sem])
 all_goals
  by_cases hkr : 1 ≤ e.kind ∧ e.kind ≤ 9;rotate_left
  · have eb := Gc (e := e) fun h => by have := h.2.2.2.2.2; omega
    have hn1 : ¬ e.kind = 1 := by omega
    have hn2 : ¬ e.kind = 2 := by omega
    have hn3 : ¬ e.kind = 3 := by omega
    have hn4 : ¬ e.kind = 4 := by omega
    have hn5 : ¬ e.kind = 5 := by omega
    have hn6 : ¬ e.kind = 6 := by omega
    have hn7 : ¬ e.kind = 7 := by omega
    have hn8 : ¬ e.kind = 8 := by omega
    have hn9 : ¬ e.kind = 9 := by omega
    (try simp only [D4, D3, D2, D1, D0, Dx, Dw, Dv]); simp (disch := omega) only [Ac, hn1, hn2, hn3, hn4, hn5, hn6, hn7, hn8, hn9, eb, go_sem]
  have hB : I6 e := ⟨by omega, by omega, by omega, by omega, by rw [ekn]; omega, by omega, by omega⟩
  have hkk : e.kind = 1 ∨ e.kind = 2 ∨ e.kind = 3 ∨ e.kind = 4 ∨ e.kind = 5 ∨ e.kind = 6 ∨ e.kind = 7 ∨ e.kind = 8 ∨ e.kind = 9 := by omega
  rcases hkk with hki | hki | hki | hki | hki | hki | hki | hki | hki
  · have ez := A0y hB hD hki;by_cases s0' : C0 e = false
    · first
       | exact absurd (hpl.symm.trans s0') (by decide)
       | (have s0b := hpl.symm.trans s0'
          simp only [s0', decide_true, decide_false, Bool.true_and, Bool.false_and, Bool.and_true, Bool.and_false, Bool.and_self, Bool.not_true, Bool.not_false] at ez
          (try simp only [D4, D3, D2, D1, D0, Dx, Dw, Dv]); simp (disch := omega) only [Ac, hki, s0b, ez, go_sem])
    have s0 : C0 e = true := by simpa using s0'
    have s0b := hpl.symm.trans s0
    first
     | exact absurd s0b (by decide)
     | ((try simp only [D4, D3, D2, D1, D0, Dx, Dw, Dv]); simp (disch := omega) only [Ac, hki, s0b, go_sem]
        refine Aa (Abz _) ?_;by_cases s1' : De e.name = false
        · simp only [s0, s1', decide_true, decide_false, Bool.true_and, Bool.false_and, Bool.and_true, Bool.and_false, Bool.and_self, Bool.not_true, Bool.not_false] at ez;simp (disch := omega) only [Ac, s0b, s1', ez, go_sem]
        have s1 : De e.name = true := by simpa using s1'
        simp (disch := omega) only [Ac, s0b, s1, go_sem];refine Aa (Akn e) ?_;simp only [s0, s1, decide_true, decide_false, Bool.true_and, Bool.false_and, Bool.and_true, Bool.and_false, Bool.and_self, Bool.not_true, Bool.not_false] at ez;simp (disch := omega) only [s0b, s1, ez, go_sem])
  · have ez := A0x hB hD hki;by_cases s0' : C0 e = false
    · first
       | exact absurd (hpl.symm.trans s0') (by decide)
       | (have s0b := hpl.symm.trans s0'
          simp only [s0', decide_true, decide_false, Bool.true_and, Bool.false_and, Bool.and_true, Bool.and_false, Bool.and_self, Bool.not_true, Bool.not_false] at ez
          (try simp only [D4, D3, D2, D1, D0, Dx, Dw, Dv]); simp (disch := omega) only [Ac, hki, s0b, ez, go_sem])
    have s0 : C0 e = true := by simpa using s0'
    have s0b := hpl.symm.trans s0
    first
     | exact absurd s0b (by decide)
     | ((try simp only [D4, D3, D2, D1, D0, Dx, Dw, Dv]); simp (disch := omega) only [Ac, hki, s0b, go_sem]
        refine Aa (Abz _) ?_;by_cases s1' : De e.name = false
        · simp only [s0, s1', decide_true, decide_false, Bool.true_and, Bool.false_and, Bool.and_true, Bool.and_false, Bool.and_self, Bool.not_true, Bool.not_false] at ez;simp (disch := omega) only [Ac, s0b, s1', ez, go_sem]
        have s1 : De e.name = true := by simpa using s1'
        simp (disch := omega) only [Ac, s0b, s1, go_sem];refine Aa (Akn e) ?_;simp only [s0, s1, decide_true, decide_false, Bool.true_and, Bool.false_and, Bool.and_true, Bool.and_false, Bool.and_self, Bool.not_true, Bool.not_false] at ez;simp (disch := omega) only [s0b, s1, ez, go_sem])
  · have ez := A0w hB hD hki;by_cases s0' : Bs e.dep e.orep e.oseq = false
    · simp only [s0', decide_true, decide_false, Bool.true_and, Bool.false_and, Bool.and_true, Bool.and_false, Bool.and_self, Bool.not_true, Bool.not_false] at ez
      (try simp only [D4, D3, D2, D1, D0, Dx, Dw, Dv]); simp (disch := omega) only [Ac, hki, s0', ez, go_sem]
    have s0 : Bs e.dep e.orep e.oseq = true := by simpa using s0'
    by_cases s1' : G4 e.dep e.base.l = false
    · simp only [s0, s1', decide_true, decide_false, Bool.true_and, Bool.false_and, Bool.and_true, Bool.and_false, Bool.and_self, Bool.not_true, Bool.not_false] at ez
      (try simp only [D4, D3, D2, D1, D0, Dx, Dw, Dv]); simp (disch := omega) only [Ac, hki, s0, s1', ez, go_sem]
    have s1 : G4 e.dep e.base.l = true := by simpa using s1'
    by_cases s2 : (e.base.l.length : Int) ≤ 1;rotate_left
    · simp only [s0, s1, s2, decide_true, decide_false, Bool.true_and, Bool.false_and, Bool.and_true, Bool.and_false, Bool.and_self, Bool.not_true, Bool.not_false] at ez
      (try simp only [D4, D3, D2, D1, D0, Dx, Dw, Dv]); simp (disch := omega) only [Ac, hki, s0, s1, s2, ez, go_sem]
    by_cases s3' : Cq e.off = false
    · first
       | exact absurd (hso.symm.trans s3') (by decide)
       | (have s3b := hso.symm.trans s3'
          simp only [s0, s1, s2, s3', decide_true, decide_false, Bool.true_and, Bool.false_and, Bool.and_true, Bool.and_false, Bool.and_self, Bool.not_true, Bool.not_false] at ez
          (try simp only [D4, D3, D2, D1, D0, Dx, Dw, Dv]); simp (disch := omega) only [Ac, hki, s0, s1, s2, s3b, ez, go_sem])
    have s3 : Cq e.off = true := by simpa using s3'
    have s3b := hso.symm.trans s3
    first
     | exact absurd s3b (by decide)
     | (by_cases s4 : e.data = []
        · simp only [s0, s1, s2, s3, s4, decide_true, decide_false, Bool.true_and, Bool.false_and, Bool.and_true, Bool.and_false, Bool.and_self, Bool.not_true, Bool.not_false] at ez
          (try simp only [D4, D3, D2, D1, D0, Dx, Dw, Dv]); simp (disch := omega) only [Ac, hki, s0, s1, s2, s4, ez, go_sem]
        by_cases s5 : (e.data.length : Int) ≤ 200 - e.off;rotate_left
        · simp only [s0, s1, s2, s3, s4, s5, decide_true, decide_false, Bool.true_and, Bool.false_and, Bool.and_true, Bool.and_false, Bool.and_self, Bool.not_true, Bool.not_false] at ez
          (try simp only [D4, D3, D2, D1, D0, Dx, Dw, Dv]); simp (disch := omega) only [Ac, hki, s0, s1, s2, s4, s5, ez, go_sem]
        (try simp only [D4, D3, D2, D1, D0, Dx, Dw, Dv]); simp (disch := omega) only [Ac, hki, s0, s1, s2, s4, s5, go_sem]
        refine Aa (Ahn e) ?_;simp only [s0, s1, s2, s3, s4, s5, decide_true, decide_false, Bool.true_and, Bool.false_and, Bool.and_true, Bool.and_false, Bool.and_self, Bool.not_true, Bool.not_false] at ez;simp (disch := omega) only [s0, s1, s2, s4, s5, ez, go_sem])
  · have ez := A0v hB hD hki;by_cases s0' : Bs e.dep e.orep e.oseq = false
    · simp only [s0', decide_true, decide_false, Bool.true_and, Bool.false_and, Bool.and_true, Bool.and_false, Bool.and_self, Bool.not_true, Bool.not_false] at ez
      (try simp only [D4, D3, D2, D1, D0, Dx, Dw, Dv]); simp (disch := omega) only [Ac, hki, s0', ez, go_sem]
    have s0 : Bs e.dep e.orep e.oseq = true := by simpa using s0'
    by_cases s1' : G4 e.dep e.base.l = false
    · simp only [s0, s1', decide_true, decide_false, Bool.true_and, Bool.false_and, Bool.and_true, Bool.and_false, Bool.and_self, Bool.not_true, Bool.not_false] at ez
      (try simp only [D4, D3, D2, D1, D0, Dx, Dw, Dv]); simp (disch := omega) only [Ac, hki, s0, s1', ez, go_sem]
    have s1 : G4 e.dep e.base.l = true := by simpa using s1'
    by_cases s2 : (e.base.l.length : Int) ≤ 1;rotate_left
    · simp only [s0, s1, s2, decide_true, decide_false, Bool.true_and, Bool.false_and, Bool.and_true, Bool.and_false, Bool.and_self, Bool.not_true, Bool.not_false] at ez
      (try simp only [D4, D3, D2, D1, D0, Dx, Dw, Dv]); simp (disch := omega) only [Ac, hki, s0, s1, s2, ez, go_sem]
    by_cases s3' : Cq e.off = false
    · first
       | exact absurd (hso.symm.trans s3') (by decide)
       | (have s3b := hso.symm.trans s3'
          simp only [s0, s1, s2, s3', decide_true, decide_false, Bool.true_and, Bool.false_and, Bool.and_true, Bool.and_false, Bool.and_self, Bool.not_true, Bool.not_false] at ez
          (try simp only [D4, D3, D2, D1, D0, Dx, Dw, Dv]); simp (disch := omega) only [Ac, hki, s0, s1, s2, s3b, ez, go_sem])
    have s3 : Cq e.off = true := by simpa using s3'
    have s3b := hso.symm.trans s3
    first
     | exact absurd s3b (by decide)
     | ((try simp only [D4, D3, D2, D1, D0, Dx, Dw, Dv]); simp (disch := omega) only [Ac, hki, s0, s1, s2, go_sem]
        refine Aa (Amx e) ?_;simp only [s0, s1, s2, s3, decide_true, decide_false, Bool.true_and, Bool.false_and, Bool.and_true, Bool.and_false, Bool.and_self, Bool.not_true, Bool.not_false] at ez;simp (disch := omega) only [s0, s1, s2, ez, go_sem])
  · have ez := A0u hB hD hki;by_cases s0' : Bs e.dep e.orep e.oseq = false
    · simp only [s0', decide_true, decide_false, Bool.true_and, Bool.false_and, Bool.and_true, Bool.and_false, Bool.and_self, Bool.not_true, Bool.not_false] at ez
      (try simp only [D4, D3, D2, D1, D0, Dx, Dw, Dv]); simp (disch := omega) only [Ac, hki, s0', ez, go_sem]
    have s0 : Bs e.dep e.orep e.oseq = true := by simpa using s0'
    by_cases s1' : G4 e.dep e.base.l = false
    · simp only [s0, s1', decide_true, decide_false, Bool.true_and, Bool.false_and, Bool.and_true, Bool.and_false, Bool.and_self, Bool.not_true, Bool.not_false] at ez
      (try simp only [D4, D3, D2, D1, D0, Dx, Dw, Dv]); simp (disch := omega) only [Ac, hki, s0, s1', ez, go_sem]
    have s1 : G4 e.dep e.base.l = true := by simpa using s1'
    by_cases s2 : (2 : Int) ≤ (e.base.l.length : Int);rotate_left
    · simp only [s0, s1, s2, decide_true, decide_false, Bool.true_and, Bool.false_and, Bool.and_true, Bool.and_false, Bool.and_self, Bool.not_true, Bool.not_false] at ez
      (try simp only [D4, D3, D2, D1, D0, Dx, Dw, Dv]); simp (disch := omega) only [Ac, hki, s0, s1, s2, ez, go_sem]
    by_cases s3 : (e.base.l.length : Int) ≤ 8;rotate_left
    · simp only [s0, s1, s2, s3, decide_true, decide_false, Bool.true_and, Bool.false_and, Bool.and_true, Bool.and_false, Bool.and_self, Bool.not_true, Bool.not_false] at ez
      (try simp only [D4, D3, D2, D1, D0, Dx, Dw, Dv]); simp (disch := omega) only [Ac, hki, s0, s1, s2, s3, ez, go_sem]
    by_cases s4 : (e.data.length : Int) ≤ 200;rotate_left
    · simp only [s0, s1, s2, s3, s4, decide_true, decide_false, Bool.true_and, Bool.false_and, Bool.and_true, Bool.and_false, Bool.and_self, Bool.not_true, Bool.not_false] at ez
      (try simp only [D4, D3, D2, D1, D0, Dx, Dw, Dv]); simp (disch := omega) only [Ac, hki, s0, s1, s2, s3, s4, ez, go_sem]
    (try simp only [D4, D3, D2, D1, D0, Dx, Dw, Dv]); simp (disch := omega) only [Ac, hki, s0, s1, s2, s3, s4, go_sem]
    refine Aa (Amy e) ?_;simp only [s0, s1, s2, s3, s4, decide_true, decide_false, Bool.true_and, Bool.false_and, Bool.and_true, Bool.and_false, Bool.and_self, Bool.not_true, Bool.not_false] at ez;simp (disch := omega) only [s0, s1, s2, s3, s4, ez, go_sem]
  · have ez := A0t hB hD hki;by_cases s0' : Bs e.dep e.orep e.oseq = false
    · simp only [s0', decide_true, decide_false, Bool.true_and, Bool.false_and, Bool.and_true, Bool.and_false, Bool.and_self, Bool.not_true, Bool.not_false] at ez
      (try simp only [D4, D3, D2, D1, D0, Dx, Dw, Dv]); simp (disch := omega) only [Ac, hki, s0', ez, go_sem]
    have s0 : Bs e.dep e.orep e.oseq = true := by simpa using s0'
    by_cases s1' : Ee e.gone.l 8 e.dep = false
    · first
       | exact absurd (hgl.symm.trans s1') (by decide)
       | (have s1b := hgl.symm.trans s1'
          simp only [s0, s1', decide_true, decide_false, Bool.true_and, Bool.false_and, Bool.and_true, Bool.and_false, Bool.and_self, Bool.not_true, Bool.not_false] at ez
          (try simp only [D4, D3, D2, D1, D0, Dx, Dw, Dv]); simp (disch := omega) only [Ac, hki, s0, s1b, ez, go_sem])
    have s1 : Ee e.gone.l 8 e.dep = true := by simpa using s1'
    have s1b := hgl.symm.trans s1
    first
     | exact absurd s1b (by decide)
     | ((try simp only [D4, D3, D2, D1, D0, Dx, Dw, Dv]); simp (disch := omega) only [Ac, hki, s0, s1b, go_sem]
        refine Aa (Ar4 e) ?_;simp only [s0, s1, decide_true, decide_false, Bool.true_and, Bool.false_and, Bool.and_true, Bool.and_false, Bool.and_self, Bool.not_true, Bool.not_false] at ez;simp (disch := omega) only [s0, s1b, ez, go_sem])
  · have ez := A0s hB hD hki;by_cases s0' : Bs e.dep e.orep e.oseq = false
    · simp only [s0', decide_true, decide_false, Bool.true_and, Bool.false_and, Bool.and_true, Bool.and_false, Bool.and_self, Bool.not_true, Bool.not_false] at ez
      (try simp only [D4, D3, D2, D1, D0, Dx, Dw, Dv]); simp (disch := omega) only [Ac, hki, s0', ez, go_sem]
    have s0 : Bs e.dep e.orep e.oseq = true := by simpa using s0'
    by_cases s1' : Ee e.gone.l 8 e.dep = false
    · first
       | exact absurd (hgl.symm.trans s1') (by decide)
       | (have s1b := hgl.symm.trans s1'
          simp only [s0, s1', decide_true, decide_false, Bool.true_and, Bool.false_and, Bool.and_true, Bool.and_false, Bool.and_self, Bool.not_true, Bool.not_false] at ez
          (try simp only [D4, D3, D2, D1, D0, Dx, Dw, Dv]); simp (disch := omega) only [Ac, hki, s0, s1b, ez, go_sem])
    have s1 : Ee e.gone.l 8 e.dep = true := by simpa using s1'
    have s1b := hgl.symm.trans s1
    first
     | exact absurd s1b (by decide)
     | (by_cases s2' : C0 e = false
        · first
           | exact absurd (hpl.symm.trans s2') (by decide)
           | (have s2b := hpl.symm.trans s2'
              simp only [s0, s1, s2', decide_true, decide_false, Bool.true_and, Bool.false_and, Bool.and_true, Bool.and_false, Bool.and_self, Bool.not_true, Bool.not_false] at ez
              (try simp only [D4, D3, D2, D1, D0, Dx, Dw, Dv]); simp (disch := omega) only [Ac, hki, s0, s1b, s2b, ez, go_sem])
        have s2 : C0 e = true := by simpa using s2'
        have s2b := hpl.symm.trans s2
        first
         | exact absurd s2b (by decide)
         | ((try simp only [D4, D3, D2, D1, D0, Dx, Dw, Dv]); simp (disch := omega) only [Ac, hki, s0, s1b, s2b, go_sem]
            refine Aa (Abz _) ?_;by_cases s3' : De e.name = false
            · simp only [s0, s1, s2, s3', decide_true, decide_false, Bool.true_and, Bool.false_and, Bool.and_true, Bool.and_false, Bool.and_self, Bool.not_true, Bool.not_false] at ez;simp (disch := omega) only [Ac, s0, s1b, s2b, s3', ez, go_sem]
            have s3 : De e.name = true := by simpa using s3'
            simp (disch := omega) only [Ac, s0, s1b, s2b, s3, go_sem];refine Aa (Amw e) ?_;simp only [s0, s1, s2, s3, decide_true, decide_false, Bool.true_and, Bool.false_and, Bool.and_true, Bool.and_false, Bool.and_self, Bool.not_true, Bool.not_false] at ez;simp (disch := omega) only [s0, s1b, s2b, s3, ez, go_sem]))
  · have ez := A0r hB hD hki;by_cases s0 : 1 ≤ e.ward;rotate_left
    · simp only [s0, decide_true, decide_false, Bool.true_and, Bool.false_and, Bool.and_true, Bool.and_false, Bool.and_self, Bool.not_true, Bool.not_false] at ez
      (try simp only [D4, D3, D2, D1, D0, Dx, Dw, Dv]); simp (disch := omega) only [Ac, hki, s0, ez, go_sem]
    by_cases s1 : e.ward ≤ 4;rotate_left
    · simp only [s0, s1, decide_true, decide_false, Bool.true_and, Bool.false_and, Bool.and_true, Bool.and_false, Bool.and_self, Bool.not_true, Bool.not_false] at ez
      (try simp only [D4, D3, D2, D1, D0, Dx, Dw, Dv]); simp (disch := omega) only [Ac, hki, s0, s1, ez, go_sem]
    (try simp only [D4, D3, D2, D1, D0, Dx, Dw, Dv]); simp (disch := omega) only [Ac, hki, s0, s1, go_sem]
    refine Aa (Ayd e) ?_;simp only [s0, s1, decide_true, decide_false, Bool.true_and, Bool.false_and, Bool.and_true, Bool.and_false, Bool.and_self, Bool.not_true, Bool.not_false] at ez;simp (disch := omega) only [s0, s1, ez, go_sem]
  · have ez := A0q hB hD hki
    (try simp only [D4, D3, D2, D1, D0, Dx, Dw, Dv]); simp (disch := omega) only [Ac, hki, go_sem]
    refine Aa (Aye e) ?_;simp only [decide_true, decide_false, Bool.true_and, Bool.false_and, Bool.and_true, Bool.and_false, Bool.and_self, Bool.not_true, Bool.not_false] at ez;simp (disch := omega) only [ez, go_sem]
end Go.Proofs.YthiamojjhdcegaaGreat.Fw
namespace Go.Proofs.YthiamojjhdcegaaGreat.Fw
variable [Th]
open Go.RowKit Go.Proofs
def zs (n : Nat) : List UInt8 := List.replicate n 0
theorem Sc (n : Nat) : (zs n).length = n := by simp [zs]
theorem Ajn (n : Nat) : zs (n + 1) = zs n ++ [0] := by simp [zs, List.replicate_succ']
theorem A19 : zs 0 = [] := rfl
theorem A8p (l : List UInt8) : A7 l ++ [[.i .u8 0]] = A7 (l ++ [0]) := by
 rw [← Ur]; rfl
def Aa6 (n : Int) (k : Nat) : FS := mk [(4, .pv (.i .i64 k)), (3, .pv (.s (zs k))), (0, .pv (.i .i64 n))] []
theorem Akk (n : Int) (hn : n ≤ 1000) {h d} : FunOk Tryz.prog 97 [.pv (.i .i64 n)] h d (.pv (.s (zs n.toNat))) [] := by
 refine Aw Af fn97 (by simp) rfl rfl fun F => ?_;simp (disch := omega) only [ir97, go_sem];refine A0 Af (Aa6 n) (fun k => k ≤ n.toNat) (fun k => n.toNat - k) 0 (by omega) (Ak ?_ ?_) fun k hk => ?_
 · simp (disch := omega) only [A19, go_sem]
 · simp (disch := omega) only [go_sem]
 have hl := Sc k;by_cases hlt : (k : Int) < n
 · simp (disch := omega) only [Aa6, hl, go_sem];refine Ad (k + 1) _ _ rfl (by omega) (by omega) ?_ ?_
   · simp (disch := omega) only [Ajn, go_sem]
   · simp (disch := omega) only [go_sem]
 · obtain rfl : k = n.toNat := by omega
   simp (disch := omega) only [Aa6, go_sem]
def Iz (data : List UInt8) (o : Nat) (s : List UInt8) : List UInt8 :=
 (data ++ zs (o + s.length - data.length)).take o ++ s ++ (data ++ zs (o + s.length - data.length)).drop (o + s.length)
def D7 (data : List UInt8) (off : Int) (s : List UInt8) : Prop := off < 0 ∨ 200 < off ∨ 200 < (data.length : Int) ∨ 200 - off < s.length
open Classical in
noncomputable def Nk (data : List UInt8) (off : Int) (s : List UInt8) : SV := if D7 data off s then .tup [.pv (.s []), .pv (.i .i64 4)] else .tup [.pv (.s (Iz data off.toNat s)), .pv (.i .i64 0)]
theorem Ek {data off s} (h : D7 data off s) : Nk data off s = .tup [.pv (.s []), .pv (.i .i64 4)] := by unfold Nk; rw [if_pos h]
theorem Jg {data off s} (h : ¬ D7 data off s) : Nk data off s = .tup [.pv (.s (Iz data off.toNat s)), .pv (.i .i64 0)] := by unfold Nk; rw [if_neg h]
def Aa7 (data s : List UInt8) (o k : Nat) : FS := mk [(8, .os 60), (2, .pv (.s s)), (1, .pv (.i .i64 o))] [(60, some (.row 1 (A7 (data ++ zs k))))]
set_option maxHeartbeats 2000000 in
theorem Akl (data s : List UInt8) (off : Int) {h d} : FunOk Tryz.prog 80 [.pv (.s data), .pv (.i .i64 off), .pv (.s s)] h d (Nk data off s) [] := by
 refine Aw Af fn80 (by simp) rfl (by unfold Nk; split <;> rfl) fun F => ?_;by_cases h1 : off < 0
 · rw [Ek (.inl h1)];simp (disch := omega) only [ir80, go_sem]
 by_cases h2 : 200 < off
 · rw [Ek (.inr (.inl h2))];simp (disch := omega) only [ir80, go_sem]
 by_cases h3 : 200 < (data.length : Int)
 · rw [Ek (.inr (.inr (.inl h3)))];simp (disch := omega) only [ir80, go_sem]
 by_cases h4 : 200 - off < (s.length : Int)
 · rw [Ek (.inr (.inr (.inr h4)))];simp (disch := omega) only [ir80, go_sem]
 have hok : ¬ D7 data off s := by unfold D7; omega
 obtain ⟨o, rfl⟩ : ∃ o : Nat, off = o := ⟨off.toNat, by omega⟩
 rw [Jg hok];simp (disch := omega) only [ir80, go_sem];refine A0 Af (Aa7 data s o) (fun k => k ≤ o + s.length - data.length) (fun k => o + s.length - data.length - k) 0 (by omega) (Ei 28 60 (by decide) rfl (Ak ?_ ?_)) fun k hk => ?_
 · simp (disch := omega) only [go_sem]
 · simp (disch := omega) only [A19, go_sem]
 have hl : (data ++ zs k).length = data.length + k := by simp [zs]
 by_cases hlt : data.length + k < o + s.length
 · simp (disch := omega) only [Aa7, hl, A8p, go_sem];refine ⟨k + 1, by omega, by omega, Ei 38 60 (by decide) rfl (Ak ?_ ?_)⟩
   · simp (disch := omega) only [go_sem]
   · simp (disch := omega) only [Ajn, List.append_assoc, go_sem]
 · obtain rfl : k = o + s.length - data.length := by omega
   have hp : Iz data o s = (data ++ zs (o + s.length - data.length)).take o ++ s ++ (data ++ zs (o + s.length - data.length)).drop (o + s.length) := rfl;generalize hX : data ++ zs (o + s.length - data.length) = X at *;have hle : o + s.length ≤ X.length := by omega
   have e1 : min s.length (X.length - o) = s.length := by omega
   have e2 : s.take (X.length - o) = s := List.take_of_length_le (by omega);simp (disch := omega) only [Aa7, hX, e1, e2, hp, go_sem]
set_option maxHeartbeats 2000000 in
theorem Aek (data s : List UInt8) (off : Int) (hs : s.length ≤ 1000) {h d} : FunOk Tryz.prog 85 [.pv (.s data), .pv (.i .i64 off), .pv (.s s)] h d (Nk data off s) [] := by
 refine Aw Af fn85 (by simp) rfl (by unfold Nk; split <;> rfl) fun F => ?_;by_cases h1 : off < 0
 · rw [Ek (.inl h1)];simp (disch := omega) only [ir85, go_sem]
 by_cases h2 : 200 < off
 · rw [Ek (.inr (.inl h2))];simp (disch := omega) only [ir85, go_sem]
 by_cases h3 : 200 < (data.length : Int)
 · rw [Ek (.inr (.inr (.inl h3)))];simp (disch := omega) only [ir85, go_sem]
 by_cases h4 : 200 < off + (s.length : Int)
 · rw [Ek (.inr (.inr (.inr (by omega))))];simp (disch := omega) only [ir85, go_sem]
 have hok : ¬ D7 data off s := by unfold D7; omega
 obtain ⟨o, rfl⟩ : ∃ o : Nat, off = o := ⟨off.toNat, by omega⟩
 rw [Jg hok];simp (disch := omega) only [ir85, go_sem];refine Aa (Akk _ (by omega)) ?_;have hp : Iz data o s = (data ++ zs (o + s.length - data.length)).take o ++ s ++ (data ++ zs (o + s.length - data.length)).drop (o + s.length) := rfl;have e1 : ((o : Int) + (s.length : Int) - (data.length : Int)).toNat = o + s.length - data.length := by omega
 have e2 : ((o : Int) + (s.length : Int)).toNat = o + s.length := by omega
 have hl : (data ++ zs (o + s.length - data.length)).length = data.length + (o + s.length - data.length) := by simp [zs]
 have hz := Sc (o + s.length - data.length);rw [e1];generalize hX : data ++ zs (o + s.length - data.length) = X at *;simp (disch := omega) only [hX, e2, hp, List.length_append, List.length_take, List.length_drop, hz, go_sem]
def Pk (data : List UInt8) (n : Nat) : List UInt8 := if n < data.length then data.take n else data ++ zs (n - data.length)
open Classical in
noncomputable def Ul (data : List UInt8) (n : Int) : SV := if n < 0 ∨ 200 < n then .tup [.pv (.s []), .pv (.i .i64 4)] else .tup [.pv (.s (Pk data n.toNat)), .pv (.i .i64 0)]
theorem Jj {data n} (h : n < 0 ∨ 200 < n) : Ul data n = .tup [.pv (.s []), .pv (.i .i64 4)] := by unfold Ul; rw [if_pos h]
theorem Ls {data n} (h : ¬ (n < 0 ∨ 200 < n)) : Ul data n = .tup [.pv (.s (Pk data n.toNat)), .pv (.i .i64 0)] := by unfold Ul; rw [if_neg h]
theorem Bc6 (n : Nat) : List.replicate n [PV.i .u8 0] = A7 (zs n) := by simp [zs, A7]
set_option maxHeartbeats 2000000 in
theorem A11 (data : List UInt8) (n : Int) (hd : data.length ≤ 1000) {h d} : FunOk Tryz.prog 79 [.pv (.s data), .pv (.i .i64 n)] h d (Ul data n) [] := by
 refine Aw Af fn79 (by simp) rfl (by unfold Ul; split <;> rfl) fun F => ?_;by_cases h1 : n < 0
 · rw [Jj (.inl h1)];simp (disch := omega) only [ir79, go_sem]
 by_cases h2 : 200 < n
 · rw [Jj (.inr h2)];simp (disch := omega) only [ir79, go_sem]
 rw [Ls (by omega)];obtain ⟨o, rfl⟩ : ∃ o : Nat, n = o := ⟨n.toNat, by omega⟩
 by_cases hlt : o < data.length
 · have e : Pk data o = data.take o := by unfold Pk; rw [if_pos hlt]
   simp (disch := omega) only [ir79, e, go_sem]
 · have e : Pk data o = data ++ zs (o - data.length) := by unfold Pk; rw [if_neg hlt]
   have e1 : ((o : Int) - (data.length : Int)).toNat = o - data.length := by omega
   have hz := Sc (o - data.length);simp (disch := omega) only [ir79, e, e1, Bc6, hz, go_sem]
set_option maxHeartbeats 2000000 in
theorem Ar9 (data : List UInt8) (n : Int) (hd : data.length ≤ 1000) {h d} : FunOk Tryz.prog 84 [.pv (.s data), .pv (.i .i64 n)] h d (Ul data n) [] := by
 refine Aw Af fn84 (by simp) rfl (by unfold Ul; split <;> rfl) fun F => ?_;by_cases h1 : n < 0
 · rw [Jj (.inl h1)];simp (disch := omega) only [ir84, go_sem]
 by_cases h2 : 200 < n
 · rw [Jj (.inr h2)];simp (disch := omega) only [ir84, go_sem]
 rw [Ls (by omega)];obtain ⟨o, rfl⟩ : ∃ o : Nat, n = o := ⟨n.toNat, by omega⟩
 have hz := Sc (o - data.length);have e1 : ((o : Int) - (data.length : Int)).toNat = o - data.length := by omega
 have e : (data ++ zs (o - data.length)).take o = Pk data o := by
  unfold Pk;split
  · rw [show o - data.length = 0 by omega, A19, List.append_nil]
  · exact List.take_of_length_le (by simp [zs]; omega)
 simp (disch := omega) only [ir84, go_sem];refine Aa (Akk _ (by omega)) ?_;simp (disch := omega) only [e1, e, hz, List.length_append, go_sem]
theorem A86 {m n lo hi : Nat} {es fs : List (List PV)} {h} (hm : h m = some (.row 11 fs)) (hn : h n = some (.row 11 es)) (hne : m ≠ n) (hfs : fs ≠ []) (hes : es ≠ []) (hlt : lo < hi) : Aau Tryz.prog 95 [.os m, .ov n 11 lo hi] h (.pv (.b false)) := by
 intro F N ρ s a w hR hh vs hc;simp only [ConcL] at hc;obtain ⟨v, us, rfl, hv, u, us', rfl, hu, rfl⟩ := hc;have hsm := (hh m (by simp [A5, tn])).trans hm;have hsn := (hh n (by simp [A5, tn])).trans hn;refine ⟨.bool false, ?_, E5⟩;rw [run_callFunc_extern (fn := (Tryz.prog.funcs[95]?).getD default) (by kernel_rfl) (by kernel_rfl) (by kernel_rfl) (by kernel_rfl) (e := Extern.SlicesOverlaps.overlaps #[45, 45] #[4]) (by kernel_rfl)];rw [Jr (tS := 45) (e := 49) (by kernel_rfl) (by kernel_rfl) (by decide) hR hsm hsn hne hfs hes hlt hv hu];rfl
set_option maxHeartbeats 4000000 in
theorem Aep (es : List (List PV)) (cs : List PV) (i : Nat) (hi : i ≤ es.length) (hb : es.length ≤ 1000) (hes : ∀ c ∈ es, c.length = 11) (hcs : cs.length = 11) {h d} (h1 : h 16 = some (.row 11 es)) (h2 : h 55 = some (.row 11 [cs])) : FunOk Tryz.prog 82 [.os 16, .pv (.i .i64 i), .os 55] h d (.os d) [.del 16, .del 55, .new d (.row 11 (es.take i ++ cs :: es.drop i))] := by
 refine Acm Af fn82 (by simp) rfl fun F => ?_;simp only [Cx];by_cases he : i = es.length
 · subst he;have e1 : es.take es.length ++ cs :: es.drop es.length = es ++ [cs] := by simp
   rw [e1];simp (disch := omega) only [ir82, h1, h2, go_sem]
 · have hne : es ≠ [] := by intro e; subst e; simp at hi; exact he (by simpa using hi)
   simp (disch := omega) only [ir82, h1, h2, go_sem];intro c hc;by_cases hcap : c < es.length + 1
   · have hp : ((c : Int) < (es.length : Int) + ((1 : Nat) : Int)) = True := eq_true (by omega);have ek : ((es.length : Int) + ((1 : Nat) : Int) - (i : Int)).toNat = es.length + 1 - i := by omega
     (try simp only [D4, D3, D2, D1, D0, Dx, Dw, Dv]); simp (disch := omega) only [hp, ek, go_sem]
     generalize hT : List.take i es ++ List.replicate (es.length + 1 - i) _ = T;have hTl : T.length = es.length + 1 := by rw [← hT]; simp; omega
     have t1 : T.take i = es.take i := by
      rw [← hT, List.take_append_of_le_length (by simp; omega), List.take_take, Nat.min_self]
     have hi' : (es.take i).length = i := by simp; omega
     have m1 : min 1 (es.length + 1 - i) = 1 := by omega
     have m2 : [cs].take (es.length + 1 - i) = [cs] := List.take_of_length_le (by simp; omega);have hU : (es.take i ++ [cs] ++ T.drop (i + 1)).length = es.length + 1 := by simp [hTl]; omega
     have e1 : ((i : Int) + ((1 : Nat) : Int)).toNat = i + 1 := by omega
     have u1 : (es.take i ++ [cs] ++ T.drop (i + 1)).take (i + 1) = es.take i ++ [cs] := by
      rw [List.take_append_of_le_length (by simp; omega)];exact List.take_of_length_le (by simp; omega)
     have u2 : (es.take es.length).drop i = es.drop i := by rw [List.take_length]
     have u3 : min (es.drop i).length (es.length + 1 - (i + 1)) = es.length - i := by simp
     have u4 : (es.drop i).take (es.length + 1 - (i + 1)) = es.drop i := List.take_of_length_le (by simp);have u5 : (es.take i ++ [cs] ++ T.drop (i + 1)).drop (i + 1 + (es.length - i)) = [] := List.drop_of_length_le (by rw [hU]; omega);have u6 : es.take i ++ cs :: es.drop i = es.take i ++ [cs] ++ es.drop i := by simp
     simp only [hTl, t1, m1, m2, e1, List.length_singleton];simp only [hU, u1, u2, u3, u4, u5, u6, List.append_nil];exact ⟨by omega, by omega, trivial⟩
   · have hp : ((c : Int) < (es.length : Int) + ((1 : Nat) : Int)) = False := eq_false (by omega)
     (try simp only [D4, D3, D2, D1, D0, Dx, Dw, Dv]); simp (disch := omega) only [hp, go_sem]
     intro g hg hgs;have hg1 : g.length = 1 := by omega
     have e1 : ((i : Int) + ((1 : Nat) : Int)).toNat = i + 1 := by omega
     have hE : (es ++ g).length = es.length + 1 := by simp [hg1]
     refine ⟨by omega, ?_⟩;rw [e1];refine R5 (A86 (es := es ++ g) (fs := [cs]) rfl rfl (by decide) (by simp) (by simp [hne]) (by omega)) ?_;have v1 : ((es ++ g).take (es ++ g).length).drop i = (es ++ g).drop i := by rw [List.take_length]
     have v2 : min ((es ++ g).drop i).length ((es ++ g).length - (i + 1)) = es.length - i := by simp [hg1]; omega
     have v3 : ((es ++ g).drop i).take ((es ++ g).length - (i + 1)) = es.drop i := by
      rw [hE, List.drop_append_of_le_length hi, show es.length + 1 - (i + 1) = (es.drop i).length from by simp];exact List.take_left
     have v4 : (es ++ g).drop (i + 1 + (es.length - i)) = [] := List.drop_of_length_le (by omega);have v5 : ((es ++ g).take (i + 1) ++ es.drop i).length = es.length + 1 := by simp [hg1]; omega
     have v6 : ((es ++ g).take (i + 1) ++ es.drop i).take i = es.take i := by
      rw [List.take_append_of_le_length (by simp; omega), List.take_take, Nat.min_eq_left (by omega), List.take_append_of_le_length hi]
     have v7 : ((es ++ g).take (i + 1) ++ es.drop i).drop (i + 1) = es.drop i := by
      rw [List.drop_append_of_le_length (by simp; omega), List.drop_of_length_le (by simp; omega), List.nil_append]
     have m1 : min 1 (es.length + 1 - i) = 1 := by omega
     have m2 : [cs].take (es.length + 1 - i) = [cs] := List.take_of_length_le (by simp; omega);have u6 : es.take i ++ cs :: es.drop i = es.take i ++ [cs] ++ es.drop i := by simp
     simp (disch := omega) only [e1, v1, v2, v3, v4, v5, v6, v7, m1, m2, u6, go_sem]
theorem Ayh {x : SV} {f : Bool} {z : Nat} {es : List (List PV)} {h d} (hx : Cl h [x] = [.pv (.sl f z es)]) (hl : Bf [x] = true) (hz : es = [] ∨ z = 11) (hb : es.length ≤ 1000) (hs : SV.closedL [x] = true) :
 FunOk Tryz.prog 21 [x] h d (.os d) [.new d (.row 11 es)] := by
 refine Xp Af fn21 (by simp) hl (.inl hs) fun F => ?_;rw [hx];simp (disch := omega) only [ir21, go_sem];intro b hb';cases b
 · simp (disch := omega) only [go_sem]
 · have he : es = [] := by
    cases es with
    | nil => rfl
    | cons c l => exact absurd (hb' (by simp)) (by simp)
   subst he
   (try simp only [D4, D3, D2, D1, D0, Dx, Dw, Dv]); simp (disch := omega) only [go_sem]
   decide
structure Ver where
 rep : Int
 seq : Nat
 data : List UInt8
 gone : Vc
def A6 (v : Ver) : List PV := .i .i64 v.rep :: .i .u32 v.seq :: .s v.data :: vE v.gone
def Ql : List Ver → Int → Nat → Nat → Nat × Bool
 | [], _, _, k => (k, false)
 | v :: l, r, q, k => if v.rep = r ∧ v.seq = q then (k, true) else if Ch r q v.rep v.seq = true then (k, false) else Ql l r q (k + 1)
theorem Cy (v : Ver) (K : KK) : LoadK (some (A6 v)) 0 2 true K = K (.vec 2 [.i .i64 v.rep, .i .u32 v.seq]) [] := by
 simp only [LoadK, Hm, eq_iff_iff];exact ⟨fun h => h.2.2, fun h => ⟨by simp [A6], .inl trivial, h⟩⟩
theorem K0 (v : Ver) (K : KK) : LoadK (some (A6 v)) 0 11 true K = K (.vec 11 (A6 v)) [] := by
 simp only [LoadK, Hm, eq_iff_iff];have e : ((A6 v).drop 0).take 11 = A6 v := List.take_of_length_le (by simp [A6, vE, Cj]);rw [e];exact ⟨fun h => h.2.2, fun h => ⟨by simp [A6, vE, Cj], .inl trivial, h⟩⟩
theorem Gy (r : Int) (q : Nat) : Ef [K1.int .i64, K1.int .u32] [.i .i64 r, .i .u32 q] = True := eq_true rfl
def Axk (f : Bool) (l : List Ver) (r : Int) (q k : Nat) : FS := mk [(10, .pv (.i .i64 k)), (9, .pv (.i .i64 l.length)), (8, .pv (.sl f 11 (l.map A6))), (3, .p 3 0), (0, .pv (.sl f 11 (l.map A6)))] [(3, some (.var (.vec 2 [.i .i64 r, .i .u32 q])))]
set_option maxHeartbeats 1000000 in
theorem A4s {x : SV} {f : Bool} {l : List Ver} (r : Int) (q : Nat) {h d} (hx : Cl h [x, .vec 2 [.i .i64 r, .i .u32 q]] = [.pv (.sl f 11 (l.map A6)), .vec 2 [.i .i64 r, .i .u32 q]]) (hl : Bf [x, .vec 2 [.i .i64 r, .i .u32 q]] = true) (hn : l.length ≤ 1000) :
 FunOk Tryz.prog 81 [x, .vec 2 [.i .i64 r, .i .u32 q]] h d (.tup [.pv (.i .i64 (Ql l r q 0).1), .pv (.b (Ql l r q 0).2)]) [] := by
 refine Cg Af fn81 (by simp) hl rfl fun F => ?_;rw [hx];simp (disch := omega) only [ir81, List.length_map, go_sem];refine A0 Af (Axk f l r q) (fun k => k ≤ l.length ∧ Ql l r q 0 = Ql (l.drop k) r q k) (fun k => l.length - k) 0 (by simp) (Ak ?_ ?_) fun k hk => ?_
 · simp (disch := omega) only [go_sem]
 · simp (disch := omega) only [go_sem]
 obtain ⟨hk1, hk2⟩ := hk;by_cases hlt : k < l.length
 · have hd : l.drop k = l[k] :: l.drop (k + 1) := List.drop_eq_getElem_cons hlt;have he : (l.map A6)[k]? = some (A6 l[k]) := by simp [hlt]
   rw [hd] at hk2;generalize l[k] = v at *;simp only [Ql] at hk2;by_cases hid : v.rep = r ∧ v.seq = q
   · rw [if_pos hid] at hk2;have hp := Kj hid;simp (disch := omega) only [Axk, List.length_map, he, K0, Cy, Gy, hp, hk2, go_sem]
   · rw [if_neg hid] at hk2;have hp := Ib hid;simp (disch := omega) only [Axk, List.length_map, he, K0, Cy, Gy, hp, go_sem];refine Aa (Nn _ _ _ _) ?_;by_cases hl : Ch r q v.rep v.seq = true
     · rw [if_pos hl] at hk2;simp (disch := omega) only [hl, hk2, go_sem]
     · rw [if_neg hl] at hk2;have hl' : Ch r q v.rep v.seq = false := by simpa using hl
       simp (disch := omega) only [hl', go_sem];refine Ad (k + 1) _ _ rfl ⟨by omega, hk2⟩ (by omega) ?_ ?_
       · simp (disch := omega) only [List.length_map, go_sem]
       · simp (disch := omega) only [go_sem]
 · have : k = l.length := by omega
   subst this;rw [List.drop_length] at hk2;simp only [Ql] at hk2;rw [hk2]
   (try simp only [D4, D3, D2, D1, D0, Dx, Dw, Dv]); simp (disch := omega) only [Axk, List.length_map, go_sem]
theorem Nt (v : Ver) (K : KK) : LoadK (some (A6 v)) 3 8 true K = K (.vec 8 (vE v.gone)) [] := by
 simp only [LoadK, Hm, eq_iff_iff];have e : ((A6 v).drop 3).take 8 = vE v.gone := List.take_of_length_le (by simp [A6, vE, Cj]);rw [e];exact ⟨fun h => h.2.2, fun h => ⟨by simp [A6, vE, Cj], .inl trivial, h⟩⟩
theorem Hb (v : Ver) : (A6 v).length = 11 := by simp [A6, vE, Cj]
theorem Za (l : List Ver) : ∀ c ∈ l.map A6, c.all PV.flat = true := by
 intro c hc;obtain ⟨v, _, rfl⟩ := List.mem_map.1 hc;simp [A6, vE, Cj, PV.flat]
theorem Auf (v : Ver) : Ef [K1.int .i64, K1.int .u32, .str, .int .u32, .int .u32, .int .u32, .int .u32, .int .u32, .int .u32, .int .u32, .int .u32] (A6 v) = True := eq_true rfl
theorem Aef (c : List PV) : Yl c c = true := by simp [Yl]
def Ag7 (f g : Bool) (l m : List Ver) (k : Nat) : FS := mk [(5, .pv (.i .i64 k)), (0, .pv (.sl f 11 (l.map A6))), (1, .pv (.sl g 11 (m.map A6)))] []
theorem A4d {x y : SV} {f g : Bool} {l m : List Ver} {h d} (hx : Cl h [x, y] = [.pv (.sl f 11 (l.map A6)), .pv (.sl g 11 (m.map A6))]) (hl : Bf [x, y] = true) (he : l.map A6 = m.map A6) (hn : l.length ≤ 1000) :
 FunOk Tryz.prog 28 [x, y] h d (.pv (.b true)) [] := by
 refine Cg Af fn28 (by simp) hl rfl fun F => ?_;have hlen : l.length = m.length := by simpa using congrArg List.length he
 rw [hx];simp (disch := omega) only [ir28, List.length_map, hlen, go_sem];refine A0 Af (Ag7 f g l m) (fun k => k ≤ m.length) (fun k => m.length - k) 0 (by simp) (Ak ?_ ?_) fun k hk => ?_
 · simp (disch := omega) only [go_sem]
 · simp (disch := omega) only [go_sem]
 by_cases hlt : k < m.length
 · have h2 : (m.map A6)[k]? = some (A6 m[k]) := by simp [hlt]
   have h1 : (l.map A6)[k]? = some (A6 m[k]) := by rw [he]; exact h2
   generalize m[k] = v at *;have hp := Aef (A6 v);have hf := Auf v;simp (disch := omega) only [Ag7, List.length_map, hlen, h1, h2, K0, hp, hf, go_sem];refine Ad (k + 1) _ _ rfl (by omega) (by omega) ?_ ?_
   · simp (disch := omega) only [go_sem]
   · simp (disch := omega) only [go_sem]
 · simp (disch := omega) only [Ag7, List.length_map, hlen, go_sem]
def Bt : List Ver → Int → Nat → Option Ver
 | [], _, _ => none
 | v :: l, r, q => if v.rep = r ∧ v.seq = q then some v else Bt l r q
def Aj2 (f : Bool) (l : List Ver) (r : Int) (q k : Nat) : FS := mk [(5, .pv (.i .i64 k)), (0, .pv (.sl f 11 (l.map A6))), (3, .p 3 0)] [(3, some (.var (.vec 2 [.i .i64 r, .i .u32 q])))]
theorem A10 {x : SV} {f : Bool} {l : List Ver} (r : Int) (q : Nat) {h d} (hx : Cl h [x, .vec 2 [.i .i64 r, .i .u32 q]] = [.pv (.sl f 11 (l.map A6)), .vec 2 [.i .i64 r, .i .u32 q]]) (hl : Bf [x, .vec 2 [.i .i64 r, .i .u32 q]] = true) (hn : l.length ≤ 1000) :
 FunOk Tryz.prog 86 [x, .vec 2 [.i .i64 r, .i .u32 q]] h d (.pv (.b (Bt l r q).isSome)) [] := by
 refine Cg Af fn86 (by simp) hl rfl fun F => ?_;rw [hx];simp (disch := omega) only [ir86, List.length_map, go_sem];refine A0 Af (Aj2 f l r q) (fun k => k ≤ l.length ∧ Bt l r q = Bt (l.drop k) r q) (fun k => l.length - k) 0 (by simp) (Ak ?_ ?_) fun k hk => ?_
 · simp (disch := omega) only [go_sem]
 · simp (disch := omega) only [go_sem]
 obtain ⟨hk1, hk2⟩ := hk;by_cases hlt : k < l.length
 · have hd : l.drop k = l[k] :: l.drop (k + 1) := List.drop_eq_getElem_cons hlt;have he : (l.map A6)[k]? = some (A6 l[k]) := by simp [hlt]
   rw [hd] at hk2;generalize l[k] = v at *;simp only [Bt] at hk2;by_cases hid : v.rep = r ∧ v.seq = q
   · rw [if_pos hid] at hk2;have hp := Kj hid;simp (disch := omega) only [Aj2, List.length_map, he, Cy, Gy, hp, hk2, Option.isSome_some, go_sem]
   · rw [if_neg hid] at hk2;have hp := Ib hid;simp (disch := omega) only [Aj2, List.length_map, he, Cy, Gy, hp, go_sem];refine Ad (k + 1) _ _ rfl ⟨by omega, hk2⟩ (by omega) ?_ ?_
     · simp (disch := omega) only [go_sem]
     · simp (disch := omega) only [go_sem]
 · have : k = l.length := by omega
   subst this;rw [List.drop_length] at hk2;simp only [Bt] at hk2;rw [hk2];simp (disch := omega) only [Aj2, List.length_map, Option.isSome_none, go_sem]
def Ng (v : Ver) (r : Int) (q : Nat) : Prop := v.rep = r ∧ v.seq = q
instance (v : Ver) (r : Int) (q : Nat) : Decidable (Ng v r q) := inferInstanceAs (Decidable (_ ∧ _))
theorem P9 (v : Ver) (K : KK) : LoadK (some (A6 v)) 2 1 false K = K (.pv (.s v.data)) [] := by
 simp only [LoadK, Hm, eq_iff_iff];exact ⟨fun h => h.2.2, fun h => ⟨by simp [A6], .inr trivial, h⟩⟩
theorem Rq {r : Int} {q : Nat} {r' : Int} {q' : Nat} : Ch r q r' q' = true ↔ (q < q' ∨ q = q' ∧ r < r') := by simp [Ch]
theorem Qb {r : Int} {q : Nat} {r' : Int} {q' : Nat} {r'' : Int} {q'' : Nat} (h : Ch r q r' q' = true) (k : Ch r' q' r'' q'' = true) : Ch r q r'' q'' = true := by
 rw [Rq] at *; omega
theorem Acl {r : Int} {q : Nat} {r' : Int} {q' : Nat} (h : Ch r q r' q' = true) : ¬ (r = r' ∧ q = q') := by
 rw [Rq] at h; omega
theorem Azq {r : Int} {q : Nat} {r' : Int} {q' : Nat} (h : Ch r q r' q' = true) : ¬ Ch r' q' r q = true := by
 rw [Rq] at *; omega
theorem At0 {r : Int} {q : Nat} {r' : Int} {q' : Nat} (h : ¬ (r = r' ∧ q = q')) (k : ¬ Ch r q r' q' = true) : Ch r' q' r q = true := by
 rw [Rq] at *; omega
def Ck (l : List Ver) : Prop := l.Pairwise fun a b => Ch a.rep a.seq b.rep b.seq = true
theorem Iu : ∀ {l : List Ver} {r q k i}, Ql l r q k = (i, true) → k ≤ i ∧ ∃ v, l[i - k]? = some v ∧ Ng v r q ∧ Bt l r q = some v
 | [], r, q, k, i, h => by simp [Ql] at h
 | v :: l, r, q, k, i, h => by
   simp only [Ql] at h;split at h
   · rename_i hs;cases h;exact ⟨Nat.le_refl _, v, by simp, hs, by simp [Bt, hs]⟩
   · rename_i hs;split at h
     · cases h
     · obtain ⟨h1, u, h2, h3, h4⟩ := Iu h;refine ⟨by omega, u, ?_, h3, by simp only [Bt]; rw [if_neg hs]; exact h4⟩;rw [show i - k = (i - (k + 1)) + 1 by omega, List.getElem?_cons_succ]; exact h2
theorem H4 : ∀ {l : List Ver} {r q k i}, Ck l → Ql l r q k = (i, false) → k ≤ i ∧ i - k ≤ l.length ∧ Bt l r q = none ∧ (∀ v ∈ l, ¬ Ng v r q) ∧ (∀ v ∈ l.take (i - k), Ch v.rep v.seq r q = true) ∧ ∀ v ∈ l.drop (i - k), Ch r q v.rep v.seq = true
 | [], r, q, k, i, _, h => by simp only [Ql] at h; cases h; simp [Bt]
 | v :: l, r, q, k, i, hs, h => by
   obtain ⟨h1, h2⟩ := List.pairwise_cons.1 hs;simp only [Ql] at h;split at h
   · cases h
   · rename_i hn;split at h
     · rename_i hlt;cases h;have hall : ∀ u ∈ v :: l, Ch r q u.rep u.seq = true := fun u hu => by
        rcases List.mem_cons.1 hu with rfl | hu
        · exact hlt
        · exact Qb hlt (h1 u hu)
       have hno : ∀ u ∈ v :: l, ¬ Ng u r q := fun u hu e => Acl (hall u hu) ⟨e.1.symm, e.2.symm⟩;refine ⟨Nat.le_refl _, by simp, ?_, hno, by simp, by simpa using hall⟩;have : ∀ m : List Ver, (∀ u ∈ m, ¬ Ng u r q) → Bt m r q = none := fun m hm => by
        induction m with
        | nil => rfl
        | cons u m ih => simp only [Bt]; rw [if_neg (show ¬ (u.rep = r ∧ u.seq = q) from hm u List.mem_cons_self)]; exact ih fun x hx => hm x (List.mem_cons_of_mem _ hx)
       exact this _ hno
     · rename_i hge;obtain ⟨g1, g2, g3, g4, g5, g6⟩ := H4 h2 h;have e : i - k = (i - (k + 1)) + 1 := by omega
       refine ⟨by omega, by rw [e]; simpa using g2, by simp only [Bt]; rw [if_neg hn]; exact g3, fun u hu => ?_, ?_, ?_⟩
       · rcases List.mem_cons.1 hu with rfl | hu
         · exact hn
         · exact g4 u hu
       · rw [e, List.take_succ_cons];intro u hu;rcases List.mem_cons.1 hu with rfl | hu
         · exact At0 (fun e => hn ⟨e.1.symm, e.2.symm⟩) hge
         · exact g5 u hu
       · rw [e, List.drop_succ_cons]; exact g6
theorem Qd {l : List Ver} {r : Int} {q : Nat} : Bt l r q = none ↔ ∀ v ∈ l, ¬ Ng v r q := by
 induction l with
 | nil => simp [Bt]
 | cons u m ih =>
   simp only [Bt];by_cases h : u.rep = r ∧ u.seq = q
   · rw [if_pos h];exact ⟨fun e => (nomatch e), fun e => absurd h (e u List.mem_cons_self)⟩
   · rw [if_neg h, ih];simp only [List.mem_cons, forall_eq_or_imp];exact ⟨fun e => ⟨h, e⟩, fun e => e.2⟩
theorem Aad {l : List Ver} {r : Int} {q : Nat} {v : Ver} (h : Bt l r q = some v) : v ∈ l ∧ Ng v r q := by
 induction l with
 | nil => simp [Bt] at h
 | cons u m ih =>
   simp only [Bt] at h;by_cases e : u.rep = r ∧ u.seq = q
   · rw [if_pos e] at h; cases h; exact ⟨List.mem_cons_self, e⟩
   · rw [if_neg e] at h; exact ⟨List.mem_cons_of_mem _ (ih h).1, (ih h).2⟩
def Dp (l : List Ver) (r : Int) (q : Nat) : List UInt8 × Int := if r = 0 ∧ q = 0 then ([], 0) else match Bt l r q with
 | some v => (v.data, 0)
 | none => ([], 2)
theorem R2 {l : List Ver} {r : Int} {q : Nat} (h : r = 0 ∧ q = 0) : Dp l r q = ([], 0) := by simp [Dp, h]
theorem Mu {l : List Ver} {r : Int} {q : Nat} {v : Ver} (h : ¬ (r = 0 ∧ q = 0)) (k : Bt l r q = some v) : Dp l r q = (v.data, 0) := by unfold Dp; rw [if_neg h, k]
theorem R1 {l : List Ver} {r : Int} {q : Nat} (h : ¬ (r = 0 ∧ q = 0)) (k : Bt l r q = none) : Dp l r q = ([], 2) := by unfold Dp; rw [if_neg h, k]
theorem A35 : Yl [.i .i64 0, .i .u32 0] [.i .i64 0, .i .u32 0] = true := by simp [Yl]
theorem A36 {r : Int} {q : Nat} (h : ¬ (r = 0 ∧ q = 0)) : Yl [.i .i64 r, .i .u32 q] [.i .i64 0, .i .u32 0] = false := Ib (q' := 0) fun e => h e
theorem All : Ef [K1.int .i64, K1.int .u32] [.i .i64 0, .i .u32 0] = True := eq_true rfl
set_option maxHeartbeats 1000000 in
theorem Ar8 {x : SV} {f : Bool} {l : List Ver} (r : Int) (q : Nat) {h d} (hx : Cl h [x, .vec 2 [.i .i64 r, .i .u32 q]] = [.pv (.sl f 11 (l.map A6)), .vec 2 [.i .i64 r, .i .u32 q]]) (hl : Bf [x, .vec 2 [.i .i64 r, .i .u32 q]] = true) (hs : Ck l) (hn : l.length ≤ 1000) :
 FunOk Tryz.prog 78 [x, .vec 2 [.i .i64 r, .i .u32 q]] h d (.tup [.pv (.s (Dp l r q).1), .pv (.i .i64 (Dp l r q).2)]) [] := by
 refine Cg Af fn78 (by simp) hl rfl fun F => ?_;rw [hx];by_cases hz : r = 0 ∧ q = 0
 · have e := R2 (l := l) hz;rw [e];obtain ⟨rfl, rfl⟩ := hz;have e1 := A35;have e2 := All
   (try simp only [D4, D3, D2, D1, D0, Dx, Dw, Dv]); simp (disch := omega) only [ir78, e1, e2, Int.natCast_zero, go_sem]
 · have hp := A36 hz;simp (disch := omega) only [ir78, All, Gy, hp, go_sem];refine Aa (A4s (l := l) r q rfl rfl hn) ?_;rcases ha : Ql l r q 0 with ⟨i, b⟩
   cases b with
   | true =>
     obtain ⟨_, v, h2, h3, h4⟩ := Iu ha;rw [Mu hz h4];have he : (l.map A6)[i]? = some (A6 v) := by rw [List.getElem?_map, show l[i]? = some v from by simpa using h2]; rfl
     have hi : i < l.length := by
      have := (List.getElem?_eq_some_iff.1 h2).1; simpa using this
     (try simp only [D4, D3, D2, D1, D0, Dx, Dw, Dv]); simp (disch := omega) only [List.length_map, he, P9, go_sem]
   | false =>
     obtain ⟨_, _, h3, _⟩ := H4 hs ha;rw [R1 hz h3]
     (try simp only [D4, D3, D2, D1, D0, Dx, Dw, Dv]); simp (disch := omega) only [go_sem]
def J9 (f : Bool) (l : List Ver) (r : Int) (q k : Nat) : FS := mk [(6, .pv (.i .i64 k)), (0, .pv (.sl f 11 (l.map A6))), (3, .p 3 0)] [(3, some (.var (.vec 2 [.i .i64 r, .i .u32 q])))]
set_option maxHeartbeats 1000000 in
theorem Akq {x : SV} {f : Bool} {l : List Ver} (r : Int) (q : Nat) {h d} (hx : Cl h [x, .vec 2 [.i .i64 r, .i .u32 q]] = [.pv (.sl f 11 (l.map A6)), .vec 2 [.i .i64 r, .i .u32 q]]) (hl : Bf [x, .vec 2 [.i .i64 r, .i .u32 q]] = true) (hn : l.length ≤ 1000) :
 FunOk Tryz.prog 44 [x, .vec 2 [.i .i64 r, .i .u32 q]] h d (.tup [.pv (.s (Dp l r q).1), .pv (.i .i64 (Dp l r q).2)]) [] := by
 refine Cg Af fn44 (by simp) hl rfl fun F => ?_;rw [hx];by_cases hz : r = 0 ∧ q = 0
 · have e := R2 (l := l) hz;rw [e];obtain ⟨rfl, rfl⟩ := hz
   (try simp only [D4, D3, D2, D1, D0, Dx, Dw, Dv]); simp (disch := omega) only [ir44, Int.natCast_zero, go_sem]
 · have hk : ∀ K : Prop, K → K := fun _ h => h;by_cases hr : r = 0
   · subst hr;have hq : ¬ (q : Int) = 0 := by omega
     simp (disch := omega) only [ir44, hq, go_sem];refine A0 Af (J9 f l 0 q) (fun k => k ≤ l.length ∧ Bt l 0 q = Bt (l.drop k) 0 q) (fun k => l.length - k) 0 (by simp) (Ak ?_ ?_) fun k hk => ?_
     · simp (disch := omega) only [go_sem]
     · simp (disch := omega) only [go_sem]
     obtain ⟨hk1, hk2⟩ := hk;by_cases hlt : k < l.length
     · have hd : l.drop k = l[k] :: l.drop (k + 1) := List.drop_eq_getElem_cons hlt;have he : (l.map A6)[k]? = some (A6 l[k]) := by simp [hlt]
       rw [hd] at hk2;generalize l[k] = v at *;simp only [Bt] at hk2;by_cases hid : v.rep = 0 ∧ v.seq = q
       · rw [if_pos hid] at hk2;have hp := Kj hid;rw [Mu hz hk2]
         (try simp only [D4, D3, D2, D1, D0, Dx, Dw, Dv]); simp (disch := omega) only [J9, List.length_map, he, Cy, Gy, hp, P9, go_sem]
       · rw [if_neg hid] at hk2;have hp := Ib hid;simp (disch := omega) only [J9, List.length_map, he, Cy, Gy, hp, go_sem];refine Ad (k + 1) _ _ rfl ⟨by omega, hk2⟩ (by omega) ?_ ?_
         · simp (disch := omega) only [go_sem]
         · simp (disch := omega) only [go_sem]
     · obtain rfl : k = l.length := by omega
       rw [List.drop_length] at hk2;rw [R1 hz hk2]
       (try simp only [D4, D3, D2, D1, D0, Dx, Dw, Dv]); simp (disch := omega) only [J9, List.length_map, go_sem]
   · simp (disch := omega) only [ir44, hr, go_sem];refine A0 Af (J9 f l r q) (fun k => k ≤ l.length ∧ Bt l r q = Bt (l.drop k) r q) (fun k => l.length - k) 0 (by simp) (Ak ?_ ?_) fun k hk => ?_
     · simp (disch := omega) only [go_sem]
     · simp (disch := omega) only [go_sem]
     obtain ⟨hk1, hk2⟩ := hk;by_cases hlt : k < l.length
     · have hd : l.drop k = l[k] :: l.drop (k + 1) := List.drop_eq_getElem_cons hlt;have he : (l.map A6)[k]? = some (A6 l[k]) := by simp [hlt]
       rw [hd] at hk2;generalize l[k] = v at *;simp only [Bt] at hk2;by_cases hid : v.rep = r ∧ v.seq = q
       · rw [if_pos hid] at hk2;have hp := Kj hid;rw [Mu hz hk2]
         (try simp only [D4, D3, D2, D1, D0, Dx, Dw, Dv]); simp (disch := omega) only [J9, List.length_map, he, Cy, Gy, hp, P9, go_sem]
       · rw [if_neg hid] at hk2;have hp := Ib hid;simp (disch := omega) only [J9, List.length_map, he, Cy, Gy, hp, go_sem];refine Ad (k + 1) _ _ rfl ⟨by omega, hk2⟩ (by omega) ?_ ?_
         · simp (disch := omega) only [go_sem]
         · simp (disch := omega) only [go_sem]
     · obtain rfl : k = l.length := by omega
       rw [List.drop_length] at hk2;rw [R1 hz hk2]
       (try simp only [D4, D3, D2, D1, D0, Dx, Dw, Dv]); simp (disch := omega) only [J9, List.length_map, go_sem]
theorem Rf (b : Bo) (K : KK) : LoadK (some (Em b)) 0 2 true K = K (.vec 2 [.i .i64 b.1, .i .u32 b.2]) [] := by
 simp only [LoadK, Hm, eq_iff_iff];exact ⟨fun h => h.2.2, fun h => ⟨by simp [Em], .inl trivial, h⟩⟩
def Es (v : Ver) (r : Int) (q : Nat) : Ver := { v with gone := Bc v.gone r q }
def Ds (l : List Ver) (bs : List Bo) (r : Int) (q : Nat) : List Ver := l.map fun x => if (x.rep, x.seq) ∈ bs then Es x r q else x
theorem Vy (g : Vc) (r : Int) (q : Nat) : Bc (Bc g r q) r q = Bc g r q := by
 unfold Bc;split
 · funext i;simp only [E7];split <;> simp
 · rfl
theorem Oz (l : List Ver) (r : Int) (q : Nat) : Ds l [] r q = l := by simp [Ds]
theorem Zv (l : List Ver) (bs) (r : Int) (q : Nat) : (Ds l bs r q).length = l.length := by simp [Ds]
theorem Gn (x : Ver) (bs : List Bo) (r : Int) (q : Nat) : (if (x.rep, x.seq) ∈ bs then Es x r q else x).rep = x.rep ∧ (if (x.rep, x.seq) ∈ bs then Es x r q else x).seq = x.seq := by split <;> exact ⟨rfl, rfl⟩
theorem Rb {l : List Ver} {bs} {r : Int} {q : Nat} (h : Ck l) : Ck (Ds l bs r q) := by
 unfold Ds Ck;rw [List.pairwise_map];refine List.Pairwise.imp (fun {a b} hab => ?_) h;rw [(Gn a bs r q).1, (Gn a bs r q).2, (Gn b bs r q).1, (Gn b bs r q).2]; exact hab
theorem Agg (bs : List Bo) (r : Int) (q : Nat) (r' : Int) (q' : Nat) : ∀ (l : List Ver) (k : Nat), Ql (Ds l bs r q) r' q' k = Ql l r' q' k
 | [], k => rfl
 | x :: l, k => by
   have ih := Agg bs r q r' q' l (k + 1);unfold Ds at ih ⊢;simp only [List.map_cons, Ql, ih, (Gn x bs r q).1, (Gn x bs r q).2]
theorem Adw {l : List Ver} (h : Ck l) {i j : Nat} {a b : Ver} (hi : l[i]? = some a) (hj : l[j]? = some b) (he : a.rep = b.rep ∧ a.seq = b.seq) : i = j := by
 obtain ⟨h1, rfl⟩ := List.getElem?_eq_some_iff.1 hi;obtain ⟨h2, rfl⟩ := List.getElem?_eq_some_iff.1 hj;rcases Nat.lt_trichotomy i j with h3 | h3 | h3
 · exact absurd he (Acl (List.pairwise_iff_getElem.1 h i j h1 h2 h3))
 · exact h3
 · exact absurd ⟨he.1.symm, he.2.symm⟩ (Acl (List.pairwise_iff_getElem.1 h j i h2 h1 h3))
theorem As4 {l : List Ver} (h : Ck l) {bs : List Bo} {b : Bo} {r : Int} {q : Nat} {i : Nat} {u : Ver} (hi : (Ds l bs r q)[i]? = some u) (hu : Ng u b.1 b.2) :
 (Ds l bs r q).set i (Es u r q) = Ds l (bs ++ [b]) r q := by
 apply List.ext_getElem?;intro j;have hi' := hi;unfold Ds at hi';rw [List.getElem?_map] at hi';obtain ⟨x, hx, rfl⟩ := Option.map_eq_some_iff.1 hi';have hxi : (x.rep, x.seq) = b := by
  have h1 := (Gn x bs r q).1;have h2 := (Gn x bs r q).2;obtain ⟨g1, g2⟩ := hu;rw [h1] at g1; rw [h2] at g2;rw [g1, g2]
 by_cases hij : i = j
 · subst hij;rw [List.getElem?_set_self (List.getElem?_eq_some_iff.1 hi).1];unfold Ds;rw [List.getElem?_map, hx];simp only [Option.map_some, List.mem_append, List.mem_singleton, hxi, or_true, if_true, Option.some.injEq];split
   · simp only [Es, Vy]
   · rfl
 · rw [List.getElem?_set_ne hij];unfold Ds;rw [List.getElem?_map, List.getElem?_map];cases hy : l[j]? with
   | none => rfl
   | some y =>
     have hne : ¬ (y.rep, y.seq) = b := fun e => hij (Adw h hx hy (by rw [← e] at hxi; simpa using hxi));simp only [Option.map_some, List.mem_append, List.mem_singleton, hne, or_false]
def C7 (l : List Ver) (bs : List Bo) : Prop := ∃ b ∈ bs, Bt l b.1 b.2 = none
def Fk (l : List Ver) (bs : List Bo) (v : Ver) : List Ver := (Ds l bs v.rep v.seq).take (Ql l v.rep v.seq 0).1 ++ v :: (Ds l bs v.rep v.seq).drop (Ql l v.rep v.seq 0).1
theorem Jm (u : Ver) (g : Vc) : splice (A6 u) 3 (vE g) = A6 { u with gone := g } := by
 simp [splice, A6, vE, Cj]
def Aqp (f : Bool) (l : List Ver) (g : Bool) (bs : List Bo) (v : Ver) (k : Nat) : FS := mk [(19, .pv (.i .i64 k)), (18, .pv (.i .i64 bs.length)), (17, .pv (.sl g 2 (bs.map Em))), (8, .os 16), (5, .p 5 0)]
 [(5, some (.var (.vec 11 (A6 v)))), (16, some (.row 11 ((Ds l (bs.take k) v.rep v.seq).map A6)))]
set_option maxHeartbeats 2000000 in
theorem Alx {F : Fr} {f : Bool} {l : List Ver} {g : Bool} {bs : List Bo} {v : Ver} {R : SV → (Nat → Option Blk) → Prop} (hs : Ck l) (hn : l.length ≤ 900) (hbn : bs.length ≤ 900)
 (h1 : C7 l bs → ∀ h, R (.tup [.pv (.sl true 0 []), .pv (.i .i64 2)]) h)
 (h2 : ¬ C7 l bs → (Bt l v.rep v.seq).isSome = true → ∀ h, R (.tup [.pv (.sl true 0 []), .pv (.i .i64 11)]) h)
 (h3 : ¬ C7 l bs → Bt l v.rep v.seq = none → ∀ h n, h n = some (.row 11 ((Fk l bs v).map A6)) → R (.tup [.os n, .pv (.i .i64 0)]) h) :
 sx (Sb Tryz.prog F 57) ir56 (My [.t 6, .t 7] R) (mk (C2 0 [.pv (.sl f 11 (l.map A6)), .pv (.sl g 2 (bs.map Em)), .vec 11 (A6 v)]) []) := by
 have hv := Hb v;simp (disch := omega) only [ir56, List.length_map, go_sem];refine Aa (Ayh (es := l.map A6) rfl rfl (.inr rfl) (by simp; omega) rfl) ?_;simp (disch := omega) only [List.length_map, go_sem];refine A0 Af (Aqp f l g bs v) (fun k => k ≤ bs.length ∧ ∀ b ∈ bs.take k, Bt l b.1 b.2 ≠ none) (fun k => bs.length - k) 0 (by simp) (Ak ?_ ?_) fun k hk => ?_
 · simp (disch := omega) only [go_sem]
 · simp (disch := omega) only [List.take_zero, Oz, go_sem]
 obtain ⟨hk1, hk2⟩ := hk;have hsM := Rb (bs := bs.take k) (r := v.rep) (q := v.seq) hs;have hlM := Zv l (bs.take k) v.rep v.seq;have haM := fun r q => Agg (bs.take k) v.rep v.seq r q l 0;by_cases hlt : k < bs.length
 · have he : (bs.map Em)[k]? = some (Em bs[k]) := by simp [hlt]
   have ht : bs.take (k + 1) = bs.take k ++ [bs[k]] := by rw [List.take_add_one, List.getElem?_eq_getElem hlt]; rfl
   have hb : bs[k] ∈ bs := List.getElem_mem hlt;generalize bs[k] = b at *;simp (disch := omega) only [Aqp, List.length_map, he, Rf, go_sem];refine Aa (A4s (l := Ds l (bs.take k) v.rep v.seq) b.1 b.2 rfl rfl (by omega)) ?_;rcases ha : Ql (Ds l (bs.take k) v.rep v.seq) b.1 b.2 0 with ⟨i, is⟩
   have ha' := ha;rw [haM] at ha';cases is with
   | false =>
     obtain ⟨_, _, g3, _⟩ := H4 hs ha'
     (try simp only [D4, D3, D2, D1, D0, Dx, Dw, Dv]); simp (disch := omega) only [go_sem]
     exact h1 ⟨b, hb, g3⟩ _
   | true =>
     obtain ⟨_, u, g2, g3, g4⟩ := Iu ha;obtain ⟨_, u', _, _, g5⟩ := Iu ha';have hu : (Ds l (bs.take k) v.rep v.seq)[i]? = some u := by simpa using g2
     have hi : i < (Ds l (bs.take k) v.rep v.seq).length := (List.getElem?_eq_some_iff.1 hu).1;have heu : ((Ds l (bs.take k) v.rep v.seq).map A6)[i]? = some (A6 u) := by rw [List.getElem?_map, hu]; rfl
     have hm := As4 (b := b) hs hu g3;have hgd : ((Ds l (bs.take k) v.rep v.seq).map A6).getD i [] = A6 u := by rw [List.getD_eq_getElem?_getD, heu]; rfl
     (try simp only [D4, D3, D2, D1, D0, Dx, Dw, Dv]); simp (disch := omega) only [List.length_map, heu, Nt, Cy, go_sem]
     refine Aa (Wz _ _ _) ?_;have hw : splice (A6 u) 3 (vE (Bc u.gone v.rep v.seq)) = A6 (Es u v.rep v.seq) := Jm _ _;simp (disch := omega) only [List.length_map, heu, hgd, hw, go_sem];refine Ad (k + 1) _ _ rfl ⟨by omega, fun c hc => ?_⟩ (by omega) ?_ ?_
     · rw [ht] at hc;rcases List.mem_append.1 hc with hc | hc
       · exact hk2 c hc
       · simp at hc; subst hc; rw [g5]; simp
     · simp (disch := omega) only [List.length_map, go_sem]
     · simp (disch := omega) only [go_sem];rw [ht, ← hm, List.map_set]
 · obtain rfl : k = bs.length := by omega
   have hmiss : ¬ C7 l bs := fun ⟨b, hb, e⟩ => hk2 b (by rw [List.take_length]; exact hb) e;rw [List.take_length] at hsM hlM haM;have e := List.take_length (l := bs);simp (disch := omega) only [Aqp, e, Cy, go_sem];refine Aa (A4s (l := Ds l bs v.rep v.seq) v.rep v.seq rfl rfl (by omega)) ?_;rcases ha : Ql (Ds l bs v.rep v.seq) v.rep v.seq 0 with ⟨i, is⟩
   have ha' := ha;rw [haM] at ha';cases is with
   | true =>
     obtain ⟨_, u', _, _, g5⟩ := Iu ha'
     (try simp only [D4, D3, D2, D1, D0, Dx, Dw, Dv]); simp (disch := omega) only [go_sem]
     exact h2 hmiss (by rw [g5]; rfl) _
   | false =>
     obtain ⟨_, g2, g3, _⟩ := H4 hs ha'
     (try simp only [D4, D3, D2, D1, D0, Dx, Dw, Dv]); simp (disch := omega) only [hv, go_sem]
     refine Aa (Aep ((Ds l bs v.rep v.seq).map A6) (A6 v) i (by simp [hlM]; omega) (by simp [hlM]; omega) (by intro c hc; obtain ⟨x, _, rfl⟩ := List.mem_map.1 hc; exact Hb x) hv rfl rfl) ?_;simp (disch := omega) only [go_sem];refine h3 hmiss g3 _ _ ?_;simp (disch := omega) only [go_sem];simp [Fk, ha', List.map_take, List.map_drop]
theorem Ahr {x y : SV} {f g : Bool} {l : List Ver} {bs : List Bo} {v : Ver} {h d} (hx : Cl h [x, y, .vec 11 (A6 v)] = [.pv (.sl f 11 (l.map A6)), .pv (.sl g 2 (bs.map Em)), .vec 11 (A6 v)]) (hl : Bf [x, y, .vec 11 (A6 v)] = true)
 (hs : Ck l) (hn : l.length ≤ 900) (hbn : bs.length ≤ 900) (hm : C7 l bs) :
 FunOk Tryz.prog 56 [x, y, .vec 11 (A6 v)] h d (.tup [.pv (.sl true 0 []), .pv (.i .i64 2)]) [] := by
 refine Cg Af fn56 (by simp) hl rfl fun F => ?_;rw [hx];exact Alx hs hn hbn (fun _ _ => rfl) (fun h => absurd hm h) (fun h => absurd hm h)
def Ld (M : List Ver) (v : Ver) (p k : Nat) : List Ver := if p < k then (M.take k).take p ++ v :: (M.take k).drop p else M.take k
theorem Arv (M : List Ver) (v : Ver) (p k : Nat) (hk : k ≤ M.length) : (Ld M v p k).length ≤ k + 1 := by
 unfold Ld; split <;> simp <;> omega
def Abh (f : Bool) (l : List Ver) (g : Bool) (bs : List Bo) (v : Ver) (k : Nat) : FS := mk [(8, .pv (.i .i64 k)), (0, .pv (.sl f 11 (l.map A6))), (1, .pv (.sl g 2 (bs.map Em))), (5, .p 5 0)]
 [(5, some (.var (.vec 11 (A6 v))))]
def Oo (f : Bool) (l : List Ver) (g : Bool) (bs : List Bo) (v : Ver) (M : List Ver) (p k : Nat) : FS := mk [(13, .pv (.i .i64 k)), (12, .pv (.b (decide (p < k)))), (11, .os 16), (0, .pv (.sl f 11 (l.map A6))), (1, .pv (.sl g 2 (bs.map Em))), (5, .p 5 0)]
 [(5, some (.var (.vec 11 (A6 v)))), (16, some (.row 11 ((Ld M v p k).map A6)))]
def Gm (f : Bool) (l : List Ver) (g : Bool) (bs : List Bo) (v : Ver) (k : Nat) (b : Bool) (o : List Ver) (x : Ver) (j : Nat) : FS := mk [(15, .pv (.i .i64 j)), (14, .p 14 0), (13, .pv (.i .i64 k)), (12, .pv (.b b)), (11, .os 16), (0, .pv (.sl f 11 (l.map A6))), (1, .pv (.sl g 2 (bs.map Em))), (5, .p 5 0)]
 [(5, some (.var (.vec 11 (A6 v)))), (16, some (.row 11 (o.map A6))), (14, some (.var (.vec 11 (A6 (if (x.rep, x.seq) ∈ bs.take j then Es x v.rep v.seq else x)))))]
theorem Xk (x : Ver) (c : Prop) [Decidable c] (r : Int) (q : Nat) : A6 { (if c then Es x r q else x) with gone := Cw (if c then Es x r q else x).gone (Q8 r q) } = A6 (Es x r q) := by
 have h1 : (if c then Es x r q else x).rep = x.rep := by split <;> rfl
 have h2 : (if c then Es x r q else x).seq = x.seq := by split <;> rfl
 have h3 : (if c then Es x r q else x).data = x.data := by split <;> rfl
 have h4 : ∀ i, i < 8 → Cw (if c then Es x r q else x).gone (Q8 r q) i = (Bc x.gone r q) i := by
  intro i hi;rw [← Adj _ _ _ i hi];split
  · simp only [Es, Vy]
  · rfl
 show _ = A6 { x with gone := Bc x.gone r q };simp only [A6, h1, h2, h3, Lz h4]
theorem Ax7 {M : List Ver} {v : Ver} {p k : Nat} {x : Ver} (h : p < k) (hx : M[k]? = some x) : Ld M v p (k + 1) = Ld M v p k ++ [x] := by
 have hk : k < M.length := (List.getElem?_eq_some_iff.1 hx).1;unfold Ld;rw [if_pos h, if_pos (by omega), List.take_add_one, hx];simp only [Option.toList_some];rw [List.take_append_of_le_length (by simp; omega), List.drop_append_of_le_length (by simp; omega)];simp
theorem Ax9 {M : List Ver} {v : Ver} {k : Nat} {x : Ver} (hx : M[k]? = some x) : Ld M v k (k + 1) = Ld M v k k ++ [v] ++ [x] := by
 have hk : k < M.length := (List.getElem?_eq_some_iff.1 hx).1;have hl : (M.take k).length = k := by simp; omega
 unfold Ld;rw [if_neg (Nat.lt_irrefl k), if_pos (by omega), List.take_add_one, hx];simp only [Option.toList_some];rw [List.take_append_of_le_length (by omega), List.take_of_length_le (by omega), List.drop_append_of_le_length (by omega), List.drop_of_length_le (by omega)];simp
theorem Ax8 {M : List Ver} {v : Ver} {p k : Nat} {x : Ver} (h : k < p) (hx : M[k]? = some x) : Ld M v p (k + 1) = Ld M v p k ++ [x] := by
 unfold Ld;rw [if_neg (by omega), if_neg (by omega), List.take_add_one, hx]; rfl
set_option maxHeartbeats 4000000 in
theorem Awk {F : Fr} {f : Bool} {l : List Ver} {g : Bool} {bs : List Bo} {v : Ver} {R : SV → (Nat → Option Blk) → Prop} (hs : Ck l) (hn : l.length ≤ 900) (hbn : bs.length ≤ 900)
 (h1 : C7 l bs → ∀ h, R (.tup [.pv (.sl true 0 []), .pv (.i .i64 2)]) h)
 (h2 : ¬ C7 l bs → (Bt l v.rep v.seq).isSome = true → ∀ h, R (.tup [.pv (.sl true 0 []), .pv (.i .i64 11)]) h)
 (h3 : ¬ C7 l bs → Bt l v.rep v.seq = none → ∀ h n, h n = some (.row 11 ((Fk l bs v).map A6)) → R (.tup [.os n, .pv (.i .i64 0)]) h) :
 sx (Sb Tryz.prog F 118) ir62 (My [.t 6, .t 7] R) (mk (C2 0 [.pv (.sl f 11 (l.map A6)), .pv (.sl g 2 (bs.map Em)), .vec 11 (A6 v)]) []) := by
 have hv := Hb v;simp (disch := omega) only [ir62, List.length_map, go_sem];refine A0 Af (Abh f l g bs v) (fun k => k ≤ bs.length ∧ ∀ b ∈ bs.take k, Bt l b.1 b.2 ≠ none) (fun k => bs.length - k) 0 (by simp) (Ak ?_ ?_) fun k hk => ?_
 · simp (disch := omega) only [go_sem]
 · simp (disch := omega) only [go_sem]
 obtain ⟨hk1, hk2⟩ := hk;by_cases hlt : k < bs.length
 · have he : (bs.map Em)[k]? = some (Em bs[k]) := by simp [hlt]
   have ht : bs.take (k + 1) = bs.take k ++ [bs[k]] := by rw [List.take_add_one, List.getElem?_eq_getElem hlt]; rfl
   have hb : bs[k] ∈ bs := List.getElem_mem hlt;generalize bs[k] = b at *;have c0 : LoadK (some (Em b)) 0 1 false = fun K => K (.pv (.i .i64 b.1)) [] := by
    funext K; simp only [LoadK, Hm, eq_iff_iff]; exact ⟨fun h => h.2.2, fun h => ⟨by simp [Em], .inr trivial, h⟩⟩
   have c1 : LoadK (some (Em b)) 1 1 false = fun K => K (.pv (.i .u32 b.2)) [] := by
    funext K; simp only [LoadK, Hm, eq_iff_iff]; exact ⟨fun h => h.2.2, fun h => ⟨by simp [Em], .inr trivial, h⟩⟩
   simp (disch := omega) only [Abh, List.length_map, he, Rf, go_sem];refine Aa (Akq (l := l) b.1 b.2 rfl rfl (by omega)) ?_;have go : Bt l b.1 b.2 ≠ none → (k + 1 ≤ bs.length ∧ ∀ c ∈ bs.take (k + 1), Bt l c.1 c.2 ≠ none) := fun hne => ⟨by omega, fun c hc => by
    rw [ht] at hc;rcases List.mem_append.1 hc with hc | hc
    · exact hk2 c hc
    · simp at hc; subst hc; exact hne⟩
   by_cases hz : b.1 = 0 ∧ b.2 = 0
   · obtain ⟨b1, b2⟩ := b;obtain ⟨rfl, rfl⟩ : b1 = 0 ∧ b2 = 0 := hz;rw [R2 ⟨rfl, rfl⟩]
     (try simp only [D4, D3, D2, D1, D0, Dx, Dw, Dv]); simp (disch := omega) only [List.length_map, he, c0, c1, Rf, Int.natCast_zero, go_sem]
     refine Aa (A10 (l := l) 0 0 rfl rfl (by omega)) ?_;cases hf : Bt l 0 0 with
     | none =>
       simp (disch := omega) only [Option.isSome_none, go_sem];exact h1 ⟨_, hb, hf⟩ _
     | some u =>
       simp (disch := omega) only [Option.isSome_some, go_sem];refine Ad (k + 1) _ _ rfl (go (by rw [hf]; simp)) (by omega) ?_ ?_
       · simp (disch := omega) only [go_sem]
       · simp (disch := omega) only [go_sem]
   · cases hf : Bt l b.1 b.2 with
     | none =>
       rw [R1 hz hf]
       (try simp only [D4, D3, D2, D1, D0, Dx, Dw, Dv]); simp (disch := omega) only [go_sem]
       exact h1 ⟨b, hb, hf⟩ _
     | some u =>
       rw [Mu hz hf];by_cases hz1 : b.1 = 0
       · have hz2 : ¬ (b.2 : Int) = 0 := by omega
         (try simp only [D4, D3, D2, D1, D0, Dx, Dw, Dv]); simp (disch := omega) only [List.length_map, he, c0, c1, hz1, hz2, go_sem]
         refine Ad (k + 1) _ _ rfl (go (by rw [hf]; simp)) (by omega) ?_ ?_
         · simp (disch := omega) only [go_sem]
         · simp (disch := omega) only [go_sem]
       · (try simp only [D4, D3, D2, D1, D0, Dx, Dw, Dv]); simp (disch := omega) only [List.length_map, he, c0, c1, hz1, go_sem]
         refine Ad (k + 1) _ _ rfl (go (by rw [hf]; simp)) (by omega) ?_ ?_
         · simp (disch := omega) only [go_sem]
         · simp (disch := omega) only [go_sem]
 · obtain rfl : k = bs.length := by omega
   have hmiss : ¬ C7 l bs := fun ⟨b, hb, e⟩ => hk2 b (by rw [List.take_length]; exact hb) e;have e := List.take_length (l := bs);simp (disch := omega) only [Abh, List.length_map, Cy, go_sem];refine Aa (A10 (l := l) v.rep v.seq rfl rfl (by omega)) ?_;cases hf : Bt l v.rep v.seq with
   | some u =>
     simp (disch := omega) only [Option.isSome_some, go_sem];exact h2 hmiss (by rw [hf]; rfl) _
   | none =>
     obtain ⟨p, hp⟩ : ∃ p, Ql l v.rep v.seq 0 = (p, false) := by
      rcases ha : Ql l v.rep v.seq 0 with ⟨p, b⟩
      cases b with
      | false => exact ⟨p, rfl⟩
      | true => obtain ⟨_, u, _, _, h4⟩ := Iu ha; rw [hf] at h4; cases h4
     obtain ⟨_, g2, _, g4, g5, g6⟩ := H4 hs hp;rw [Nat.sub_zero] at g2 g5 g6;have h3' := h3 hmiss hf;simp only [Fk, hp] at h3';have hM : ∀ k x, l[k]? = some x → (Ds l bs v.rep v.seq)[k]? = some (if (x.rep, x.seq) ∈ bs then Es x v.rep v.seq else x) := fun k x hx => by unfold Ds; rw [List.getElem?_map, hx]; rfl
     have hMl := Zv l bs v.rep v.seq;generalize Ds l bs v.rep v.seq = M at *;simp (disch := omega) only [Option.isSome_none, go_sem];refine A0 Af (Oo f l g bs v M p) (fun k => k ≤ l.length) (fun k => l.length - k) 0 (by simp) (Vx 11 16 11 rfl (by omega) (Ak ?_ ?_)) fun k hk => ?_
     · simp (disch := omega) only [Nat.not_lt_zero, go_sem]
     · simp (disch := omega) only [go_sem];simp [Ld]
     by_cases hlt : k < l.length
     · have he : (l.map A6)[k]? = some (A6 l[k]) := by simp [hlt]
       have hx := hM k l[k] (List.getElem?_eq_getElem hlt);have ho := Arv M v p k (by omega);have hl5 : p > k → Ch v.rep v.seq l[k].rep l[k].seq = false := fun h => by
        have := Azq (g5 l[k] (List.mem_take_iff_getElem.2 ⟨k, by omega, rfl⟩));simpa using this
       have hl6 : p = k → Ch v.rep v.seq l[k].rep l[k].seq = true := fun h => g6 l[k] (by
        subst h;rw [List.drop_eq_getElem_cons hlt]; exact List.mem_cons_self)
       generalize l[k] = x at *;have hxl := Hb x;rcases Nat.lt_trichotomy p k with hpk | hpk | hpk
       · have e1 : decide (p < k) = true := by simp [hpk]
         have e2 : decide (p < k + 1) = true := by simp; omega
         have eo := Ax7 (v := v) hpk hx;simp (disch := omega) only [Oo, e1, List.length_map, he, K0, hxl, go_sem];refine A0 Af (Gm f l g bs v k true (Ld M v p k) x) (fun j => j ≤ bs.length) (fun j => bs.length - j) 0 (by simp) (Ak ?_ ?_) fun j hj => ?_
         · simp (disch := omega) only [go_sem]
         · simp (disch := omega) only [List.take_zero, List.not_mem_nil, go_sem]
         have ex := Gn x (bs.take j) v.rep v.seq;by_cases hj2 : j < bs.length
         · have hbe : (bs.map Em)[j]? = some (Em bs[j]) := by simp [hj2]
           have ht : bs.take (j + 1) = bs.take j ++ [bs[j]] := by rw [List.take_add_one, List.getElem?_eq_getElem hj2]; rfl
           generalize bs[j] = b at *;have hjn := Xk x ((x.rep, x.seq) ∈ bs.take j) v.rep v.seq;have hsp := Jm (if (x.rep, x.seq) ∈ bs.take j then Es x v.rep v.seq else x) (Cw (if (x.rep, x.seq) ∈ bs.take j then Es x v.rep v.seq else x).gone (Q8 v.rep v.seq));by_cases hb : b.1 = x.rep ∧ b.2 = x.seq
           · have hp := Kj hb;have hb' : (x.rep, x.seq) = b := by rw [← hb.1, ← hb.2]
             simp (disch := omega) only [Gm, List.length_map, hbe, Rf, Cy, ex.1, ex.2, Gy, hp, Nt, go_sem];refine Aa (U8 _ _ _) ?_;simp (disch := omega) only [hsp, hjn, go_sem];refine Ad (j + 1) _ _ rfl (by omega) (by omega) ?_ ?_
             · simp (disch := omega) only [go_sem]
             · simp (disch := omega) only [ht, hb', List.mem_append, List.mem_singleton, go_sem]
           · have hp := Ib hb;have hb' : ¬ (x.rep, x.seq) = b := fun e => hb (by rw [← e]; exact ⟨rfl, rfl⟩);simp (disch := omega) only [Gm, List.length_map, hbe, Rf, Cy, ex.1, ex.2, Gy, hp, go_sem];refine Ad (j + 1) _ _ rfl (by omega) (by omega) ?_ ?_
             · simp (disch := omega) only [go_sem]
             · simp (disch := omega) only [ht, hb', List.mem_append, List.mem_singleton, or_false, go_sem]
         · obtain rfl : j = bs.length := by omega
           have e := List.take_length (l := bs);have hxl2 := Hb (if (x.rep, x.seq) ∈ bs then Es x v.rep v.seq else x);simp (disch := omega) only [Gm, e, List.length_map, K0, hxl2, List.length_append, List.length_singleton, go_sem];refine ⟨k + 1, by omega, by omega, Ei 110 16 (by decide) rfl (Ak ?_ ?_)⟩
           · simp (disch := omega) only [e2, go_sem]
           · simp (disch := omega) only [eo, List.map_append, List.map_cons, List.map_nil, go_sem]
       · subst hpk;have e1 : decide (p < p) = false := by simp
         have e2 : decide (p < p + 1) = true := by simp
         have eo := Ax9 (v := v) hx;have hl7 := hl6 rfl;simp (disch := omega) only [Oo, e1, List.length_map, he, Cy, go_sem];refine Aa (F7 _ _ _ _) ?_;simp (disch := omega) only [hl7, hv, List.length_map, he, K0, hxl, go_sem];refine A0 Af (Gm f l g bs v p true (Ld M v p p ++ [v]) x) (fun j => j ≤ bs.length) (fun j => bs.length - j) 0 (by simp) (Ei 83 16 (by decide) rfl (Ak ?_ ?_)) fun j hj => ?_
         · simp (disch := omega) only [go_sem]
         · simp (disch := omega) only [List.take_zero, List.not_mem_nil, List.map_append, List.map_cons, List.map_nil, go_sem]
         have ex := Gn x (bs.take j) v.rep v.seq;by_cases hj2 : j < bs.length
         · have hbe : (bs.map Em)[j]? = some (Em bs[j]) := by simp [hj2]
           have ht : bs.take (j + 1) = bs.take j ++ [bs[j]] := by rw [List.take_add_one, List.getElem?_eq_getElem hj2]; rfl
           generalize bs[j] = b at *;have hjn := Xk x ((x.rep, x.seq) ∈ bs.take j) v.rep v.seq;have hsp := Jm (if (x.rep, x.seq) ∈ bs.take j then Es x v.rep v.seq else x) (Cw (if (x.rep, x.seq) ∈ bs.take j then Es x v.rep v.seq else x).gone (Q8 v.rep v.seq));by_cases hb : b.1 = x.rep ∧ b.2 = x.seq
           · have hp := Kj hb;have hb' : (x.rep, x.seq) = b := by rw [← hb.1, ← hb.2]
             simp (disch := omega) only [Gm, List.length_map, hbe, Rf, Cy, ex.1, ex.2, Gy, hp, Nt, go_sem];refine Aa (U8 _ _ _) ?_;simp (disch := omega) only [hsp, hjn, go_sem];refine Ad (j + 1) _ _ rfl (by omega) (by omega) ?_ ?_
             · simp (disch := omega) only [go_sem]
             · simp (disch := omega) only [ht, hb', List.mem_append, List.mem_singleton, go_sem]
           · have hp := Ib hb;have hb' : ¬ (x.rep, x.seq) = b := fun e => hb (by rw [← e]; exact ⟨rfl, rfl⟩);simp (disch := omega) only [Gm, List.length_map, hbe, Rf, Cy, ex.1, ex.2, Gy, hp, go_sem];refine Ad (j + 1) _ _ rfl (by omega) (by omega) ?_ ?_
             · simp (disch := omega) only [go_sem]
             · simp (disch := omega) only [ht, hb', List.mem_append, List.mem_singleton, or_false, go_sem]
         · obtain rfl : j = bs.length := by omega
           have e := List.take_length (l := bs);have hxl2 := Hb (if (x.rep, x.seq) ∈ bs then Es x v.rep v.seq else x);simp (disch := omega) only [Gm, e, List.length_map, K0, hxl2, List.length_append, List.length_singleton, go_sem];refine ⟨p + 1, by omega, by omega, Ei 110 16 (by decide) rfl (Ak ?_ ?_)⟩
           · simp (disch := omega) only [e2, go_sem]
           · simp (disch := omega) only [eo, List.map_append, List.map_cons, List.map_nil, go_sem]
       · have e1 : decide (p < k) = false := by simp; omega
         have e2 : decide (p < k + 1) = false := by simp; omega
         have eo := Ax8 (v := v) hpk hx;have hl7 := hl5 hpk;simp (disch := omega) only [Oo, e1, List.length_map, he, Cy, go_sem];refine Aa (F7 _ _ _ _) ?_;simp (disch := omega) only [hl7, hv, List.length_map, he, K0, hxl, go_sem];refine A0 Af (Gm f l g bs v k false (Ld M v p k) x) (fun j => j ≤ bs.length) (fun j => bs.length - j) 0 (by simp) (Ak ?_ ?_) fun j hj => ?_
         · simp (disch := omega) only [go_sem]
         · simp (disch := omega) only [List.take_zero, List.not_mem_nil, go_sem]
         have ex := Gn x (bs.take j) v.rep v.seq;by_cases hj2 : j < bs.length
         · have hbe : (bs.map Em)[j]? = some (Em bs[j]) := by simp [hj2]
           have ht : bs.take (j + 1) = bs.take j ++ [bs[j]] := by rw [List.take_add_one, List.getElem?_eq_getElem hj2]; rfl
           generalize bs[j] = b at *;have hjn := Xk x ((x.rep, x.seq) ∈ bs.take j) v.rep v.seq;have hsp := Jm (if (x.rep, x.seq) ∈ bs.take j then Es x v.rep v.seq else x) (Cw (if (x.rep, x.seq) ∈ bs.take j then Es x v.rep v.seq else x).gone (Q8 v.rep v.seq));by_cases hb : b.1 = x.rep ∧ b.2 = x.seq
           · have hp := Kj hb;have hb' : (x.rep, x.seq) = b := by rw [← hb.1, ← hb.2]
             simp (disch := omega) only [Gm, List.length_map, hbe, Rf, Cy, ex.1, ex.2, Gy, hp, Nt, go_sem];refine Aa (U8 _ _ _) ?_;simp (disch := omega) only [hsp, hjn, go_sem];refine Ad (j + 1) _ _ rfl (by omega) (by omega) ?_ ?_
             · simp (disch := omega) only [go_sem]
             · simp (disch := omega) only [ht, hb', List.mem_append, List.mem_singleton, go_sem]
           · have hp := Ib hb;have hb' : ¬ (x.rep, x.seq) = b := fun e => hb (by rw [← e]; exact ⟨rfl, rfl⟩);simp (disch := omega) only [Gm, List.length_map, hbe, Rf, Cy, ex.1, ex.2, Gy, hp, go_sem];refine Ad (j + 1) _ _ rfl (by omega) (by omega) ?_ ?_
             · simp (disch := omega) only [go_sem]
             · simp (disch := omega) only [ht, hb', List.mem_append, List.mem_singleton, or_false, go_sem]
         · obtain rfl : j = bs.length := by omega
           have e := List.take_length (l := bs);have hxl2 := Hb (if (x.rep, x.seq) ∈ bs then Es x v.rep v.seq else x);simp (disch := omega) only [Gm, e, List.length_map, K0, hxl2, List.length_append, List.length_singleton, go_sem];refine ⟨k + 1, by omega, by omega, Ei 110 16 (by decide) rfl (Ak ?_ ?_)⟩
           · simp (disch := omega) only [e2, go_sem]
           · simp (disch := omega) only [eo, List.map_append, List.map_cons, List.map_nil, go_sem]
     · obtain rfl : k = l.length := by omega
       by_cases hpl : p < l.length
       · have e1 : decide (p < l.length) = true := by simp [hpl]
         have e2 : Ld M v p l.length = M.take p ++ v :: M.drop p := by unfold Ld; rw [if_pos hpl, ← hMl, List.take_length]
         simp (disch := omega) only [Oo, e1, e2, List.length_map, go_sem];exact h3' _ _ rfl
       · have e1 : decide (p < l.length) = false := by simp; omega
         have ep : p = M.length := by omega
         have e2 : Ld M v p l.length = M := by unfold Ld; rw [if_neg hpl, ← hMl, List.take_length]
         simp (disch := omega) only [Oo, e1, e2, hv, List.length_map, go_sem];refine h3' _ _ ?_;simp (disch := omega) only [go_sem];simp [ep]
end Go.Proofs.YthiamojjhdcegaaGreat.Fw
namespace Go.Proofs.YthiamojjhdcegaaGreat.Fw
variable [Th]
open Go.RowKit Go.Proofs
variable {P : Program} {F : Fr} {N : Nat} {ρ ρ' : Nat → Value} {s : FS} {a : Act} {w w' : World} {V V' : View}
def PImp (x y : PV) : Prop := ∀ (V : View) (v : Value), PConc V x v → PConc V y v
theorem PImp.refl (x : PV) : PImp x x := fun _ _ h => h
def PImpL : List PV → List PV → Prop
 | [], [] => True
 | x :: l, y :: m => PImp x y ∧ PImpL l m
 | _, _ => False
def PImpR : List (List PV) → List (List PV) → Prop
 | [], [] => True
 | x :: l, y :: m => PImpL x y ∧ PImpR l m
 | _, _ => False
theorem PImpL.refl : ∀ l : List PV, PImpL l l
 | [] => trivial
 | x :: l => ⟨.refl x, PImpL.refl l⟩
theorem PImpR.refl : ∀ l : List (List PV), PImpR l l
 | [] => trivial
 | x :: l => ⟨.refl x, PImpR.refl l⟩
theorem PImpL.len : ∀ {l m : List PV}, PImpL l m → l.length = m.length
 | [], [], _ => rfl
 | x :: l, y :: m, h => by simp [PImpL.len h.2]
 | [], _ :: _, h => h.elim
 | _ :: _, [], h => h.elim
theorem PImpR.len : ∀ {l m : List (List PV)}, PImpR l m → l.length = m.length
 | [], [], _ => rfl
 | x :: l, y :: m, h => by simp [PImpR.len h.2]
 | [], _ :: _, h => h.elim
 | _ :: _, [], h => h.elim
theorem PImpL.get : ∀ {l m : List PV} {j : Nat} {y : PV}, PImpL l m → m[j]? = some y → ∃ x, l[j]? = some x ∧ PImp x y
 | x :: l, z :: m, 0, y, h, hy => by simp at hy; subst hy; exact ⟨x, by simp, h.1⟩
 | x :: l, z :: m, j + 1, y, h, hy => by
   obtain ⟨u, h1, h2⟩ := PImpL.get (j := j) h.2 (by simpa using hy);exact ⟨u, by simpa using h1, h2⟩
 | [], [], j, y, _, hy => by simp at hy
 | [], _ :: _, _, _, h, _ => h.elim
 | _ :: _, [], _, _, h, _ => h.elim
theorem PImpR.get : ∀ {l m : List (List PV)} {j : Nat} {y : List PV}, PImpR l m → m[j]? = some y → ∃ x, l[j]? = some x ∧ PImpL x y
 | x :: l, z :: m, 0, y, h, hy => by simp at hy; subst hy; exact ⟨x, by simp, h.1⟩
 | x :: l, z :: m, j + 1, y, h, hy => by
   obtain ⟨u, h1, h2⟩ := PImpR.get (j := j) h.2 (by simpa using hy);exact ⟨u, by simpa using h1, h2⟩
 | [], [], j, y, _, hy => by simp at hy
 | [], _ :: _, _, _, h, _ => h.elim
 | _ :: _, [], _, _, h, _ => h.elim
theorem PImpL.app : ∀ {a b c d : List PV}, PImpL a b → PImpL c d → PImpL (a ++ c) (b ++ d)
 | [], [], c, d, _, k => k
 | x :: a, y :: b, c, d, h, k => ⟨h.1, PImpL.app h.2 k⟩
 | [], _ :: _, _, _, h, _ => h.elim
 | _ :: _, [], _, _, h, _ => h.elim
theorem PImpR.app : ∀ {a b c d : List (List PV)}, PImpR a b → PImpR c d → PImpR (a ++ c) (b ++ d)
 | [], [], c, d, _, k => k
 | x :: a, y :: b, c, d, h, k => ⟨h.1, PImpR.app h.2 k⟩
 | [], _ :: _, _, _, h, _ => h.elim
 | _ :: _, [], _, _, h, _ => h.elim
theorem Kh {f f' : Bool} {z z' : Nat} {es es' : List (List PV)} (hf : f' = true → f = true) (hz : es = [] ∨ z = z') (h : PImpR es es') : PImp (.sl f z es) (.sl f' z' es') := by
 intro V v hv;cases hv with
 | sl full sz es a cap cs bl off arr hcap hfull hsz ha hcs hel =>
   have hl := h.len;have hne : es' ≠ [] → es ≠ [] := fun e1 e2 => by subst e2; exact e1 (List.eq_nil_of_length_eq_zero hl.symm)
   rw [hl];refine .sl f' z' es' a cap cs bl off arr (by omega) (fun e => by rw [hfull (hf e)]; exact hl) (fun c hc => ?_) (fun e => ha (hne e)) (fun i j hi hj => ?_) fun i j c x hi hx => ?_
   · obtain ⟨j, hj⟩ := List.mem_iff_getElem?.1 hc;obtain ⟨u, h1, h2⟩ := h.get hj;rw [← h2.len, hsz u (List.mem_of_getElem? h1)];exact hz.resolve_left (hne (List.ne_nil_of_mem hc))
   · have e : z = z' := hz.resolve_left (hne fun e => by subst e; simp at hi);subst e;exact hcs i j (by omega) hj
   · obtain ⟨u, h1, h2⟩ := h.get hi;obtain ⟨y, h3, h4⟩ := h2.get hx;exact h4 V _ (hel i j u y h1 h3)
theorem Gw {x y : PV} (h : PImp x y) : Imp (.pv x) (.pv y) := fun V ρ v hv => by simp only [Conc] at hv ⊢; exact h V v hv
theorem An1 {n : Nat} {cs ds : List PV} (h : PImpL cs ds) : Imp (.vec n cs) (.vec n ds) := fun V ρ v hv => by
 simp only [Conc] at hv ⊢;obtain ⟨vs, h1, h2, h3⟩ := hv;refine ⟨vs, h1, h2, h.len.symm.trans h3.1, fun j x hx => ?_⟩;obtain ⟨u, h4, h5⟩ := h.get hx;obtain ⟨v', h6, h7⟩ := h3.2 j u h4;exact ⟨v', h6, h5 V v' h7⟩
def ImpS : List SV → List SV → Prop
 | [], [] => True
 | x :: l, y :: m => (Imp x y ∧ x.width = y.width) ∧ ImpS l m
 | _, _ => False
theorem ImpS.cells : ∀ {l m : List SV} {vs : List Value}, ImpS l m → Cells V ρ l vs → Cells V ρ m vs
 | [], [], vs, _, h => h
 | x :: l, y :: m, vs, h, k => by
   simp only [Cells] at k ⊢;obtain ⟨u, us, rfl, k1, k2, k3, k4⟩ := k;exact ⟨u, us, rfl, h.1.1 V ρ u k1, by rw [← h.1.2]; exact k2, k3, h.2.cells k4⟩
 | [], _ :: _, _, h, _ => h.elim
 | _ :: _, [], _, h, _ => h.elim
theorem Rp {l m : List SV} (h : ImpS l m) : Imp (.agg l) (.agg m) := fun V ρ v hv => by
 simp only [Conc] at hv ⊢;obtain ⟨vs, h1, h2⟩ := hv;exact ⟨vs, h1, h.cells h2⟩
theorem Azo {l m : List SV} (h : ImpL l m) : Imp (.tup l) (.tup m) := fun V ρ v hv => by
 simp only [Conc] at hv ⊢;obtain ⟨vs, h1, h2⟩ := hv;exact ⟨vs, h1, h.conc h2⟩
theorem Aab (hm : P.follows .mixedOrders = true) {f N' : Nat} {rs : List Rv} {c : C} (hf : Be P f = some (N', rs, c)) {args : List SV} {h : Nat → Option Blk} {d : Nat} {x : SV} (hlen : args.length ≤ N')
 (hargs : SV.closedL args = true) (hx : x.closed = true) (hrun : ∀ F, sx (Sb P F N') c (Ada rs fun y _ => Imp y x) (mk (C2 0 args) [])) : FunOk P f args h d x [] := by
 obtain ⟨h1, h2, h3⟩ := Bk hargs;refine ⟨B9 hf, fun F N ρ s a w hR hh vs hc => ?_⟩;refine Calls.mono (Cs hm hf (h := h) hlen h2 Sw (by rw [h3]; exact hrun) hR hh hc) fun e w' he => ?_;obtain ⟨v, rfl, hg, N'', ρ', s', a', y, hR', hy, hyx⟩ := he;rw [h1, Cu] at hR' hy;exact ⟨v, ρ, rfl, hR.grew hg, Bl (Ct hR') hx (hyx _ _ _ hy)⟩
theorem Aea {N' : Nat} {a' : Act} {s' : FS} (hR' : RelR ⟨w, fun _ => False, F.out ρ s.h, fun _ => undef, []⟩ N' ρ' s' a' w') {n sz : Nat} {es : List (List PV)} (hn : s'.h n = some (.row sz es)) : PConc (vw F w' ρ s) (.sl false sz es) (ρ' n) :=
 (Ky hR' hn).mono (Ba fun b c ho hc => ⟨fun hb => ho (.inr hb), hc⟩)
theorem Rt (hm : P.follows .mixedOrders = true) {f N' : Nat} {rs : List Rv} {c : C} (hf : Be P f = some (N', rs, c)) {args : List SV} {h : Nat → Option Blk} {d : Nat} {sz : Nat} {es : List (List PV)} (hlen : args.length ≤ N')
 (hargs : SV.closedL args = true) (hrun : ∀ F, sx (Sb P F N') c (My rs fun y g => (∃ n, y = .os n ∧ g n = some (.row sz es)) ∨ ∃ z, y = .pv (.sl true z []) ∧ es = [] ∧ 0 < sz) (mk (C2 0 args) [])) :
 FunOk P f args h d (.pv (.sl false sz es)) [] := by
 obtain ⟨h1, h2, h3⟩ := Bk hargs;refine ⟨B9 hf, fun F N ρ s a w hR hh vs hc => ?_⟩;refine Calls.mono (Cs hm hf (h := h) hlen h2 Hv (by rw [h3]; exact hrun) hR hh hc) fun e w' he => ?_;obtain ⟨v, rfl, hg, N'', ρ', s', a', y, hR', hy, hyy⟩ := he;rw [h1, Cu] at hR' hy;refine ⟨v, ρ, rfl, hR.grew hg, ?_⟩;rcases hyy with ⟨n, rfl, hn⟩ | ⟨z, rfl, rfl, hsz⟩
 · simp only [Conc] at hy ⊢;rw [hy.1];exact Aea hR' hn
 · simp only [Conc] at hy ⊢;exact (Kh (by simp) (.inl rfl) (.refl [])) _ _ (hy.mono (Ct hR'))
theorem Aaa (hm : P.follows .mixedOrders = true) {f N' : Nat} {rs : List Rv} {c : C} (hf : Be P f = some (N', rs, c)) {args : List SV} {h : Nat → Option Blk} {d : Nat} {sz : Nat} {es : List (List PV)} (hlen : args.length ≤ N')
 (hargs : Bf args = true) (hx : ∀ c ∈ es, c.all PV.flat = true) (hrun : ∀ F, sx (Sb P F N') c (My rs fun y g => (∃ n, y = .os n ∧ g n = some (.row sz es)) ∨ ∃ z, y = .pv (.sl true z []) ∧ es = [] ∧ 0 < sz) (mk (C2 0 (Cl h args)) [])) :
 FunOk P f args h d (.pv (.sl false sz es)) [] := by
 refine ⟨B9 hf, fun F N ρ s a w hR hh vs hc => ?_⟩;refine Calls.mono (Cs hm hf (h := h) hlen hargs Hv hrun hR hh hc) fun e w' he => ?_;obtain ⟨v, rfl, hg, N'', ρ', s', a', y, hR', hy, hyy⟩ := he;refine ⟨v, ρ, rfl, hR.grew hg, ?_⟩;rcases hyy with ⟨n, rfl, hn⟩ | ⟨z, rfl, rfl, hsz⟩
 · simp only [Conc] at hy ⊢;rw [hy.1];have hp := Ky hR' hn;have hnew : ∀ b, Cf (ρ' n) = some b → w.heap.size ≤ b := fun b hb => (hR'.may b ⟨n, _, hn, hb⟩).resolve_right id;generalize ρ' n = u at hp hnew;cases hp with
   | sl full sz es a cap cs bl off arr hcap hfull hsz ha hcs hel =>
     refine .sl false sz es a cap cs bl off arr hcap hfull hsz (fun hne => ?_) hcs fun i j c x hi hj => O7 (List.all_eq_true.1 (hx c (List.mem_of_getElem? hi)) x (List.mem_of_getElem? hj)) (hel i j c x hi hj);obtain ⟨rfl, hV⟩ := ha hne;refine ⟨rfl, ?_⟩;have hcp : cap ≠ 0 := fun e => by subst e; exact hne (List.eq_nil_of_length_eq_zero (by omega))
     have hb := hnew bl (by simp [Cf, hcp]);have hc' : Dg w' bl = some arr := by
      unfold vw Am at hV;split at hV
      · cases hV
      · exact hV
     show Am w' (F.out ρ s.h) bl = some arr;unfold Am;rw [if_neg]
     · exact hc'
     · rintro (ho | ho)
       · have := hR.lt ho; omega
       · have := (hR.fr.hid bl ho).1; have := hR.fr.size; omega
 · simp only [Conc] at hy ⊢;have hy' : PConc (vw F w' ρ s) (.sl true z []) v := O7 rfl hy;exact (Kh (by simp) (.inl rfl) (.refl [])) _ _ hy'
theorem FunOk.deep {f : Nat} {args : List SV} {h : Nat → Option Blk} {d d' : Nat} {x : SV} {u : List HU} (hf : FunOk P f args h d x u) : DeepOk P f args h d' x u :=
 ⟨hf.1, fun F N ρ s a w hR hh vs hv => hf.2 F N ρ s a w hR (fun k _ => by rw [hh]) vs hv⟩
end Go.Proofs.YthiamojjhdcegaaGreat.Fw
namespace Go.Proofs.YthiamojjhdcegaaGreat.Fw
variable [Th]
open Go.RowKit Go.Proofs
structure Obj where
 id : Bo
 dir : Bool
 last : Bo
 name : List UInt8
 seen : Vc
 vers : List Ver
def E0 (f : Bool) (z : Nat) (o : Obj) : List PV := [.i .i64 o.id.1, .i .u32 o.id.2, .b o.dir, .i .i64 o.last.1, .i .u32 o.last.2, .s o.name] ++ vE o.seen ++ [.sl f z (o.vers.map A6)]
def A4 (o : Obj) : List PV := E0 false 11 o
theorem Ed (f z) (o : Obj) : (E0 f z o).length = 15 := by simp [E0, Bh]
theorem Ep (o : Obj) : (A4 o).length = 15 := Ed _ _ o
theorem Ayp {f : Bool} {z : Nat} (o : Obj) (h : o.vers = [] ∨ z = 11) : PImpL (E0 f z o) (A4 o) := by
 refine PImpL.app (PImpL.refl _) ⟨Kh (by simp) (h.imp (fun e => by rw [e]; rfl) id) (.refl _), trivial⟩
theorem Anq (f : Bool) (z : Nat) (o : Obj) (K : KK) : LoadK (some (E0 f z o)) 0 2 true K = K (.vec 2 ([.i .i64 o.id.1, .i .u32 o.id.2])) [] := by
 simp only [LoadK, Hm, eq_iff_iff];have e : ((E0 f z o).drop 0).take 2 = [.i .i64 o.id.1, .i .u32 o.id.2] := by
  obtain ⟨i, b, l, n, s, v⟩ := o;simp only [E0, vE, Cj]; rfl
 rw [e];exact ⟨fun h => h.2.2, fun h => ⟨by simp [Ed], .inl trivial, h⟩⟩
theorem Aff (f : Bool) (z : Nat) (o : Obj) (K : KK) : LoadK (some (E0 f z o)) 3 2 true K = K (.vec 2 ([.i .i64 o.last.1, .i .u32 o.last.2])) [] := by
 simp only [LoadK, Hm, eq_iff_iff];have e : ((E0 f z o).drop 3).take 2 = [.i .i64 o.last.1, .i .u32 o.last.2] := by
  obtain ⟨i, b, l, n, s, v⟩ := o;simp only [E0, vE, Cj]; rfl
 rw [e];exact ⟨fun h => h.2.2, fun h => ⟨by simp [Ed], .inl trivial, h⟩⟩
theorem Afd (f : Bool) (z : Nat) (o : Obj) (K : KK) : LoadK (some (E0 f z o)) 6 8 true K = K (.vec 8 (vE o.seen)) [] := by
 simp only [LoadK, Hm, eq_iff_iff];have e : ((E0 f z o).drop 6).take 8 = vE o.seen := by
  obtain ⟨i, b, l, n, s, v⟩ := o;simp only [E0, vE, Cj]; rfl
 rw [e];exact ⟨fun h => h.2.2, fun h => ⟨by simp [Ed], .inl trivial, h⟩⟩
theorem Ah2 (f : Bool) (z : Nat) (o : Obj) (K : KK) : LoadK (some (E0 f z o)) 2 1 false K = K (.pv (.b o.dir)) [] := by
 simp only [LoadK, Hm, eq_iff_iff];have e : (E0 f z o).getD 2 (.b false) = .b o.dir := by
  obtain ⟨i, b, l, n, s, v⟩ := o;simp only [E0, vE, Cj]; rfl
 rw [e];exact ⟨fun h => h.2.2, fun h => ⟨by simp [Ed], .inr trivial, h⟩⟩
theorem Afe (f : Bool) (z : Nat) (o : Obj) (K : KK) : LoadK (some (E0 f z o)) 5 1 false K = K (.pv (.s o.name)) [] := by
 simp only [LoadK, Hm, eq_iff_iff];have e : (E0 f z o).getD 5 (.b false) = .s o.name := by
  obtain ⟨i, b, l, n, s, v⟩ := o;simp only [E0, vE, Cj]; rfl
 rw [e];exact ⟨fun h => h.2.2, fun h => ⟨by simp [Ed], .inr trivial, h⟩⟩
theorem Afc (f : Bool) (z : Nat) (o : Obj) (K : KK) : LoadK (some (E0 f z o)) 14 1 false K = K (.pv (.sl f z (o.vers.map A6))) [] := by
 simp only [LoadK, Hm, eq_iff_iff];have e : (E0 f z o).getD 14 (.b false) = .sl f z (o.vers.map A6) := by
  obtain ⟨i, b, l, n, s, v⟩ := o;simp only [E0, vE, Cj]; rfl
 rw [e];exact ⟨fun h => h.2.2, fun h => ⟨by simp [Ed], .inr trivial, h⟩⟩
theorem Azd (f : Bool) (z : Nat) (o : Obj) (K : KK) : LoadK (some (E0 f z o)) 0 15 true K = K (.vec 15 (E0 f z o)) [] := by
 simp only [LoadK, Hm, eq_iff_iff];have e : ((E0 f z o).drop 0).take 15 = E0 f z o := List.take_of_length_le (by simp [Ed]);rw [e];exact ⟨fun h => h.2.2, fun h => ⟨by simp [Ed], .inl trivial, h⟩⟩
theorem Jx (o : Obj) (K : KK) : LoadK (some (A4 o)) 0 2 true K = K (.vec 2 [.i .i64 o.id.1, .i .u32 o.id.2]) [] := Anq _ _ o K
theorem Jw (o : Obj) (K : KK) : LoadK (some (A4 o)) 3 2 true K = K (.vec 2 [.i .i64 o.last.1, .i .u32 o.last.2]) [] := Aff _ _ o K
theorem Qa (o : Obj) (K : KK) : LoadK (some (A4 o)) 6 8 true K = K (.vec 8 (vE o.seen)) [] := Afd _ _ o K
theorem Ln (o : Obj) (K : KK) : LoadK (some (A4 o)) 2 1 false K = K (.pv (.b o.dir)) [] := Ah2 _ _ o K
theorem Ah3 (o : Obj) (K : KK) : LoadK (some (A4 o)) 5 1 false K = K (.pv (.s o.name)) [] := Afe _ _ o K
theorem Mi (o : Obj) (K : KK) : LoadK (some (A4 o)) 14 1 false K = K (.pv (.sl false 11 (o.vers.map A6))) [] := Afc _ _ o K
theorem Fc (o : Obj) (K : KK) : LoadK (some (A4 o)) 0 15 true K = K (.vec 15 (A4 o)) [] := Azd _ _ o K
theorem Adv (o : Obj) (i : Bo) : splice (A4 o) 3 ([.i .i64 i.1, .i .u32 i.2]) = A4 { o with last := i } := by
 obtain ⟨i, b, l, n, s, v⟩ := o;simp only [splice, A4, E0, vE, Cj]; rfl
theorem Adu (o : Obj) (s : List UInt8) : splice (A4 o) 5 ([.s s]) = A4 { o with name := s } := by
 obtain ⟨i, b, l, n, s, v⟩ := o;simp only [splice, A4, E0, vE, Cj]; rfl
theorem Adt (o : Obj) (v : Vc) : splice (A4 o) 6 (vE v) = A4 { o with seen := v } := by
 obtain ⟨i, b, l, n, s, v⟩ := o;simp only [splice, A4, E0, vE, Cj]; rfl
theorem Aqr (o : Obj) (f : Bool) (z : Nat) (l : List Ver) : splice (A4 o) 14 ([.sl f z (l.map A6)]) = E0 f z { o with vers := l } := by
 obtain ⟨i, b, l, n, s, v⟩ := o;simp only [splice, A4, E0, vE, Cj]; rfl
def obN (o : Obj) : Ent := ⟨o.id, (0, 0), [], (0, 0), fun _ => 0⟩
def El (l : List Obj) : Prop := Dk (l.map obN)
def B0 (l : List Obj) (i : Bo) : Nat := F6 (l.map obN) i
def isO (l : List Obj) (i : Bo) : Bool := Rl (l.map obN) i
structure St where
 known : Vc
 objs : List Obj
 ents : List Ent
 wards : Nat → Int
 ret : Nat → Bool
def A2 (s : St) (x y : SV) : List SV := [.vec 8 (vE s.known), x, y, .vec 8 (iE s.wards), .vec 8 (wE s.ret)]
def Bi (s : St) : List SV := A2 s (.pv (.sl false 15 (s.objs.map A4))) (.pv (.sl false 15 (s.ents.map Bj)))
def st0 : St := ⟨fun _ => 0, [], [], fun _ => 0, fun _ => false⟩
theorem Aj8 {s : St} {f g : Bool} {y z : Nat} {es fs : List (List PV)} (hy : es = [] ∨ y = 15) (hz : fs = [] ∨ z = 15) (he : PImpR es (s.objs.map A4)) (hf : PImpR fs (s.ents.map Bj)) : Imp (.agg (A2 s (.pv (.sl f y es)) (.pv (.sl g z fs)))) (.agg (Bi s)) :=
 Rp ⟨⟨Imp.refl _, rfl⟩, ⟨Gw (Kh (by simp) hy he), rfl⟩, ⟨Gw (Kh (by simp) hz hf), rfl⟩, ⟨Imp.refl _, rfl⟩, ⟨Imp.refl _, rfl⟩, trivial⟩
end Go.Proofs.YthiamojjhdcegaaGreat.Fw
