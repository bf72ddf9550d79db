/- What the functions compute that the laws of this seat reach. -/
import Derived.Test.YthmjebkldgdeiaaGreatIr
import Derived.OpenShut
import Derived.ShutString
import Derived.ChangeOld
import Derived.SizedLaws
import Derived.ChangeOld
import Derived.Lib.Bytealg
import Derived.Lib.Overlaps
import Derived.OpenShut
import Derived.ShutString
import Derived.SizedLaws
set_option linter.unusedVariables false
set_option linter.unusedSimpArgs false
set_option linter.unusedSectionVars false
set_option maxRecDepth 100000
namespace Go.Proofs.YthmjebkldgdeiaaGreat.Fw
open Go.RowKit Go.Proofs
def Cn (a b : Vc) : Vc := fun i => max (a i) (b i)
def Rj (a b : Vc) : Prop := ∀ i, i < 8 → a i ≤ b i
instance (a b : Vc) : Decidable (Rj a b) := inferInstanceAs (Decidable (∀ i, i < 8 → a i ≤ b i))
def Auo (a b : Vc) : Int := if vEq a b then 0 else if Rj a b then -1 else if Rj b a then 1 else 2
theorem Ahx (a b : Vc) : Auo a b ≤ 0 ↔ Rj a b := by
 unfold Auo;by_cases h : vEq a b
 · have : Rj a b := fun i hi => by rw [h i hi]; exact Nat.le_refl _
   simp [h, this]
 · by_cases h2 : Rj a b
   · simp [h, h2]
   · by_cases h3 : Rj b a <;> simp [h, h2, h3]
def Aff (a b : Vc) (k : Nat) : FS := mk [(8, .pv (.i .i64 k)), (7, .vec 8 (vE b)), (4, .p 4 0), (2, .p 2 0)] [(2, some (.var (.vec 8 (vE fun i => if i < k then Cn a b i else a i)))), (4, some (.var (.vec 8 (vE fun _ => 0))))]
theorem Af1 (a b : Vc) {h d} : FunOk Tryz.prog 107 [.vec 8 (vE a), .vec 8 (vE b)] h d (.vec 8 (vE (Cn a b))) [] := by
 refine Ao Af fn107 (by simp) rfl rfl fun F => ?_;simp (disch := omega) only [ir107, go_sem];refine A1 Af (Aff a b) (fun k => k ≤ 8) (fun k => 8 - k) 0 (by simp) (Aj ?_ ?_) fun k hk => ?_
 · simp (disch := omega) only [go_sem]
 · simp (disch := omega) only [Zu, go_sem]
 by_cases hlt : k < 8
 · simp (disch := omega) only [Aff, go_sem];refine Ad (k + 1) _ _ rfl (by omega) (by omega) ?_ ?_
   · simp (disch := omega) only [go_sem]
   · simp (disch := omega) only [go_sem];exact N3 (Ae5 _ _ _ (by simp [Cn]))
 · simp (disch := omega) only [Aff, Ae6, go_sem]
def Jh (a b : Vc) (k : Nat) : Prop := ¬ ∀ i, i < k → ¬ a i < b i
instance (a b : Vc) (k : Nat) : Decidable (Jh a b k) := inferInstanceAs (Decidable (¬ ∀ i, i < k → ¬ a i < b i))
theorem Vw (a b : Vc) (k : Nat) : Jh a b k ↔ ∃ i, i < k ∧ a i < b i := by unfold Jh; simp
def Z2 (a b : Vc) (k : Nat) : FS := mk [(7, .pv (.i .i64 k)), (5, .pv (.b (decide (Jh a b k)))), (6, .pv (.b (decide (Jh b a k)))), (2, .p 2 0), (3, .p 3 0)] [(2, some (.var (.vec 8 (vE a)))), (3, some (.var (.vec 8 (vE b))))]
theorem Ack (a b : Vc) (k : Nat) : Jh a b (k + 1) ↔ Jh a b k ∨ a k < b k := by
 simp only [Vw];constructor
 · rintro ⟨i, h1, h2⟩;by_cases e : i = k
   · subst e; exact .inr h2
   · exact .inl ⟨i, by omega, h2⟩
 · rintro (⟨i, h1, h2⟩ | h)
   · exact ⟨i, by omega, h2⟩
   · exact ⟨k, by omega, h⟩
theorem Aol (a b : Vc) : Jh a b 8 ↔ ¬ Rj b a := by
 rw [Vw];constructor
 · rintro ⟨i, h1, h2⟩ h; have := h i h1; omega
 · intro h;refine Decidable.byContradiction fun hn => h fun i hi => ?_;refine Nat.le_of_not_lt fun hl => hn ⟨i, hi, hl⟩
theorem Aup (a b : Vc) : vEq a b ↔ Rj a b ∧ Rj b a :=
 ⟨fun h => ⟨fun i hi => by rw [h i hi]; exact Nat.le_refl _, fun i hi => by rw [h i hi]; exact Nat.le_refl _⟩, fun h i hi => Nat.le_antisymm (h.1 i hi) (h.2 i hi)⟩
theorem Ad0 {a b : Bool} (h : a = b) : Imp (.pv (.b a)) (.pv (.b b)) := h ▸ Imp.refl _
set_option maxHeartbeats 1000000 in
theorem App (a b : Vc) {h d} : FunOk Tryz.prog 76 [.vec 8 (vE a), .vec 8 (vE b)] h d (.pv (.i .i64 (Auo a b))) [] := by
 refine Ao Af fn76 (by simp) rfl rfl fun F => ?_;simp (disch := omega) only [ir76, go_sem];refine A1 Af (Z2 a b) (fun k => k ≤ 8) (fun k => 8 - k) 0 (by simp) (Aj ?_ ?_) fun k hk => ?_
 · simp (disch := omega) only [go_sem];have e : ∀ x y : Vc, ¬ Jh x y 0 := fun x y => by rw [Vw]; rintro ⟨i, h, _⟩; omega
   refine ⟨Ad0 ?_, Ad0 ?_⟩ <;> simp [e]
 · simp (disch := omega) only [go_sem]
 by_cases hlt : k < 8
 · by_cases h1 : Jh a b k <;> by_cases h2 : Jh b a k
   all_goals simp (disch := omega) only [Z2, h1, h2, go_sem]
   all_goals refine Ad (k + 1) _ _ rfl (by omega) (by omega) ?_ ?_
   all_goals simp (disch := omega) only [go_sem]
   all_goals try refine ⟨Ad0 ?_, Ad0 ?_⟩
   all_goals try refine Ad0 ?_
   all_goals simp [Ack, h1, h2]
 · obtain rfl : k = 8 := by omega
   by_cases h1 : Rj a b <;> by_cases h2 : Rj b a
   all_goals simp (disch := omega) only [Z2, Aol, h1, h2, go_sem]
   all_goals simp [Auo, Aup, h1, h2]
theorem Apr (a b : Vc) {h d} : FunOk Tryz.prog 44 [.vec 8 (vE a), .vec 8 (vE b)] h d (.pv (.b (decide (Rj a b)))) [] := by
 refine Ao Af fn44 (by simp) rfl rfl fun F => ?_;simp (disch := omega) only [ir44, go_sem];refine Aa (App a b) ?_;simp (disch := omega) only [go_sem];by_cases h1 : Rj a b
 · simp [Ahx, h1]
 · simp [Ahx, h1]
end Go.Proofs.YthmjebkldgdeiaaGreat.Fw
namespace Go.Proofs.YthmjebkldgdeiaaGreat.Fw
open Go.RowKit
noncomputable abbrev Mi (w : World) : View := Ay w fun _ => False
theorem Ze {w : World} {a : Addr} {v : Value} (h : w.cell? a = some v) : a.spot = none ∧ ∃ arr, Mi w a.block = some arr ∧ arr[a.off]? = some v := by
 unfold World.cell? at h;split at h
 · rename_i c ty fr hb;split at h
   · cases h
   · rename_i hs;refine ⟨by cases hx : a.spot <;> simp_all, c, ?_, h⟩;unfold Mi Ay Ek;simp [hb]
 · cases h
inductive Sh where
 | int (k : IntKind) | bool | str | arr (n : Nat) (s : Sh) | st (l : List Sh) | sl (s : Sh)
mutual
def Sh.w : Sh → Nat
 | .arr n s => n * s.w
 | .st l => Sh.wL l
 | _ => 1
def Sh.wL : List Sh → Nat
 | [] => 0
 | s :: l => s.w + Sh.wL l
end
mutual
def shB (P : Program) : Sh → TypeId → Bool
 | .int k, t => match P.underlying t with | some (.int k') => decide (k = k') | _ => false
 | .bool, t => match P.underlying t with | some .bool => true | _ => false
 | .str, t => match P.underlying t with | some .string => true | _ => false
 | .arr n s, t => match P.underlying t with | some (.array n' e) => decide (n = n') && decide (P.cellsOf e = s.w) && decide (P.cellsOf t = n * s.w) && shB P s e | _ => false
 | .st l, t => match P.underlying t with | some (.struct fs) => decide (P.cellsOf t = Sh.wL l) && Aov P l fs.toList 0 | _ => false
 | .sl s, t => match P.underlying t with | some (.slice e) => decide (P.cellsOf e = s.w) && decide (0 < s.w) && shB P s e | _ => false
def Aov (P : Program) : List Sh → List Field → Nat → Bool
 | [], [], _ => true
 | s :: l, f :: fs, off => decide (f.offset = off) && decide (P.cellsOf f.type = s.w) && shB P s f.type && Aov P l fs (off + s.w)
 | _, _, _ => false
end
mutual
def GC : Sh → List PV → Prop
 | .int k, cs => ∃ n, cs = [.i k n] ∧ (Lit.int k n).wf = true
 | .bool, cs => ∃ b, cs = [.b b]
 | .str, cs => ∃ l, cs = [.s l] ∧ l.length ≤ maxLen
 | .arr n s, cs => ∃ cc : List (List PV), cs = cc.flatten ∧ cc.length = n ∧ ∀ c ∈ cc, GC s c
 | .st l, cs => GCL l cs
 | .sl s, cs => ∃ es, cs = [.sl false s.w es] ∧ es.length ≤ maxLen ∧ ∀ c ∈ es, GC s c
def GCL : List Sh → List PV → Prop
 | [], cs => cs = []
 | s :: l, cs => ∃ c cs', cs = c ++ cs' ∧ GC s c ∧ GCL l cs'
end
theorem Aea {w : Nat} : ∀ {cc : List (List PV)}, (∀ c ∈ cc, c.length = w) → cc.flatten.length = cc.length * w
 | [], _ => by simp
 | c :: cc, h => by
   rw [List.flatten_cons, List.length_append, Aea fun c hc => h c (by simp [hc]), h c (by simp), List.length_cons, Nat.add_mul]; omega
mutual
theorem GC.len : ∀ {s : Sh} {cs : List PV}, GC s cs → cs.length = s.w
 | .int k, cs, h => by obtain ⟨n, rfl, _⟩ := h; rfl
 | .bool, cs, h => by obtain ⟨n, rfl⟩ := h; rfl
 | .str, cs, h => by obtain ⟨n, rfl, _⟩ := h; rfl
 | .arr n s, cs, h => by
   simp only [GC] at h;obtain ⟨cc, rfl, rfl, h⟩ := h;rw [Aea fun c hc => GC.len (h c hc)]; rfl
 | .st l, cs, h => by simp only [GC] at h; simp only [Sh.w]; exact GCL.len h
 | .sl s, cs, h => by obtain ⟨n, rfl, _⟩ := h; rfl
theorem GCL.len : ∀ {l : List Sh} {cs : List PV}, GCL l cs → cs.length = Sh.wL l
 | [], cs, h => by simp only [GCL] at h; subst h; rfl
 | s :: l, cs, h => by
   simp only [GCL] at h;obtain ⟨c, cs', rfl, h1, h2⟩ := h;rw [List.length_append, GC.len h1, GCL.len h2]; rfl
end
theorem Atn {V : View} {s : Sh} : ∀ (n : Nat) (vs : List Value), vs.length = n * s.w → (∀ i, i < n → ∃ c, GC s c ∧ PCells V c ((vs.drop (i * s.w)).take s.w)) → ∃ cc : List (List PV), cc.length = n ∧ (∀ c ∈ cc, GC s c) ∧ PCells V cc.flatten vs
 | 0, vs, hl, h => by
   have : vs = [] := List.eq_nil_of_length_eq_zero (by omega);subst this;exact ⟨[], rfl, by simp, PCells.nil⟩
 | n + 1, vs, hl, h => by
   rw [Nat.add_mul] at hl;obtain ⟨c, g, p⟩ := h 0 (by omega);rw [Nat.zero_mul, List.drop_zero] at p;obtain ⟨cc, e1, e2, e3⟩ := Atn (V := V) (s := s) n (vs.drop s.w) (by rw [List.length_drop]; omega) fun i hi => by
    obtain ⟨c', g', p'⟩ := h (i + 1) (by omega);refine ⟨c', g', ?_⟩;rw [List.drop_drop, show s.w + i * s.w = (i + 1) * s.w from by rw [Nat.add_mul]; omega];exact p'
   refine ⟨c :: cc, by simp [e1], fun x hx => ?_, ?_⟩
   · rcases List.mem_cons.1 hx with rfl | hx
     · exact g
     · exact e2 x hx
   · rw [List.flatten_cons];have := PCells.append p e3
     rwa [List.take_append_drop] at this
theorem Ay5 {a : Addr} (h : a.spot = none) (i j : Nat) : (a.add i).add j = ⟨a.block, a.off + (i + j), none⟩ := by
 obtain ⟨b, o, sp⟩ := a;simp only at h; subst h;unfold Addr.add;by_cases hi : i = 0
 · subst hi;by_cases hj : j = 0
   · subst hj; simp
   · simp [hj]
 · by_cases hj : j = 0
   · subst hj; simp [hi]
   · simp [hi, hj]; omega
theorem Aoo {w : World} {s : Sh} {a : Addr} {len cap : Nat} (hcap : len ≤ cap) (hw : 0 < s.w)
 (h : ∀ i, i < len → ∃ c vs, GC s c ∧ PCells (Mi w) c vs ∧ w.cells? 0 (a.add (i * s.w)) s.w = some vs) :
 ∃ es : List (List PV), es.length = len ∧ (∀ c ∈ es, GC s c) ∧ PConc (Mi w) (.sl false s.w es) (.slice (some a) len cap) := by
 by_cases h0 : len = 0
 · subst h0;exact ⟨[], rfl, by simp, .sl false s.w [] (some a) cap (fun _ _ => undef) 0 0 #[] (by simp) (by simp) (by simp) (by simp) (by simp) (by simp)⟩
 · have h' : ∀ i, ∃ c vs, i < len → GC s c ∧ PCells (Mi w) c vs ∧ w.cells? 0 (a.add (i * s.w)) s.w = some vs := fun i => by
    by_cases hi : i < len
    · obtain ⟨c, vs, h1⟩ := h i hi; exact ⟨c, vs, fun _ => h1⟩
    · exact ⟨[], [], fun h => absurd h hi⟩
   obtain ⟨c, hc⟩ := Classical.axiomOfChoice h';obtain ⟨vs, hv⟩ := Classical.axiomOfChoice hc;obtain ⟨g0, p0, k0⟩ := hv 0 (by omega);obtain ⟨_, l0, c0⟩ := World.cells?_some k0;have c00 := c0 0 hw;have hlen0 : 0 < (vs 0).length := by omega
   rw [List.getElem?_eq_getElem hlen0, Nat.zero_mul] at c00;have e0 : (a.add 0).add 0 = a := by simp [Addr.add]
   rw [e0] at c00;obtain ⟨hs, arr, harr, _⟩ := Ze c00;have hget : ∀ i j, i < len → j < s.w → arr[a.off + (i * s.w + j)]? = (vs i)[j]? := fun i j hi hj => by
    obtain ⟨_, _, k⟩ := hv i hi;obtain ⟨_, ll, cc⟩ := World.cells?_some k;have h1 := cc j hj;have hlt : j < (vs i).length := by omega
    rw [List.getElem?_eq_getElem hlt, Ay5 hs] at h1;obtain ⟨_, arr', ha', h2⟩ := Ze h1;simp only at ha' h2;rw [harr] at ha'; cases ha';rw [h2, List.getElem?_eq_getElem hlt]
   have hel : ∀ i, i < len → ((List.range len).map c)[i]? = some (c i) := fun i hi => by simp [hi]
   refine ⟨(List.range len).map c, by simp, fun x hx => ?_, ?_⟩
   · obtain ⟨i, hi, rfl⟩ := List.mem_map.1 hx;exact (hv i (by simpa using hi)).1
   · have e := PConc.sl (V := Mi w) false s.w ((List.range len).map c) (some a) cap (fun i j => (vs i).getD j undef) a.block a.off arr (by simpa using hcap) (by simp) (fun x hx => by
      obtain ⟨i, hi, rfl⟩ := List.mem_map.1 hx;exact (hv i (by simpa using hi)).1.len) (fun _ => by
      obtain ⟨b, o, sp⟩ := a;simp only at hs; subst hs;exact ⟨rfl, harr⟩) (fun i j hi hj => by
      have hi' : i < len := by simpa using hi
      rw [hget i j hi' hj];have : j < (vs i).length := by
       obtain ⟨_, ll, _⟩ := World.cells?_some (hv i hi').2.2; omega
      simp [List.getD_eq_getElem?_getD, this]) (fun i j x y hx hy => by
      have hi' : i < len := by
       have := (List.getElem?_eq_some_iff.1 hx).1; simpa using this
      rw [hel i hi'] at hx; cases hx;obtain ⟨v, hv1, hv2⟩ := (hv i hi').2.1.2 j y hy;simp only [List.getD_eq_getElem?_getD, hv1, Option.getD_some]; exact hv2)
     simpa using e
section
variable {H : Type} {enc : TypeId × Value → H} {P : Program} {w : World} {spare : Nat → Bool} {held : Bool}
mutual
theorem Ud : ∀ (s : Sh) {t : TypeId} {fuel : Nat} {vs : List Value} {x}, shB P s t = true → DataW.trod enc P w 0 spare held fuel t vs = some x → ∃ cs, GC s cs ∧ PCells (Mi w) cs vs
 | .int k, t, fuel, vs, x, hs, h => by
   simp only [shB] at hs;split at hs
   · rename_i k' hu;obtain rfl := of_decide_eq_true hs;obtain ⟨n, rfl, _, hw⟩ := DataW.trod_int hu h;exact ⟨[.i k n], ⟨n, rfl, hw⟩, PCells.cons (.i _ _) PCells.nil⟩
   · cases hs
 | .bool, t, fuel, vs, x, hs, h => by
   simp only [shB] at hs;split at hs
   · rename_i hu;obtain ⟨n, rfl, _⟩ := DataW.trod_bool hu h;exact ⟨[.b n], ⟨n, rfl⟩, PCells.cons (.b _) PCells.nil⟩
   · cases hs
 | .str, t, fuel, vs, x, hs, h => by
   simp only [shB] at hs;split at hs
   · rename_i hu;obtain ⟨b, rfl, _, hl⟩ := DataW.trod_string hu h;refine ⟨[.s b.data.toList], ⟨b.data.toList, rfl, by simpa using hl⟩, PCells.cons ?_ PCells.nil⟩;have := PConc.s (V := Mi w) b.data.toList;simpa using this
   · cases hs
 | .arr n s, t, fuel, vs, x, hs, h => by
   simp only [shB] at hs;split at hs
   · rename_i n' e hu;simp only [Bool.and_eq_true, decide_eq_true_eq] at hs;obtain ⟨⟨⟨rfl, h1⟩, h2⟩, h3⟩ := hs;obtain ⟨xs, m, rfl, _, hl, hx, hg⟩ := DataW.trod_array hu h;rw [h1] at hg;obtain ⟨cc, e1, e2, e3⟩ := Atn (V := Mi w) (s := s) n vs (by rw [hl, h2]) fun i hi => by
      have := hg i hi;rw [List.getElem?_eq_getElem (by omega)] at this;exact Ud s h3 this
     exact ⟨cc.flatten, by simp only [GC]; exact ⟨cc, rfl, e1, e2⟩, e3⟩
   · cases hs
 | .st l, t, fuel, vs, x, hs, h => by
   simp only [shB] at hs;split at hs
   · rename_i fs hu;simp only [Bool.and_eq_true, decide_eq_true_eq] at hs;obtain ⟨h2, h3⟩ := hs;obtain ⟨xs, m, rfl, _, hl, hx, hg⟩ := DataW.trod_struct hu h;obtain ⟨cs, e1, e2⟩ := Ab7 l (off := 0) (vs := vs) h3 fun f hf => by
      obtain ⟨i, hi⟩ := List.mem_iff_getElem?.1 hf;have hi2 : fs[i]? = some f := by simpa using hi
      have := hg i f hi2;have hlt := (Array.getElem?_eq_some_iff.1 hi2).1;rw [List.getElem?_eq_getElem (by omega)] at this;exact ⟨_, _, this⟩
     rw [List.drop_zero, ← h2, ← hl, List.take_length] at e2;exact ⟨cs, by simp only [GC]; exact e1, e2⟩
   · cases hs
 | .sl s, t, fuel, vs, x, hs, h => by
   simp only [shB] at hs;split at hs
   · rename_i e hu;simp only [Bool.and_eq_true, decide_eq_true_eq] at hs;obtain ⟨⟨h1, h2⟩, h3⟩ := hs;rcases DataW.trod_slice hu h with ⟨rfl, _⟩ | ⟨a, len, cap, Dj, rest, n, rfl, rfl, _, _, hl, hm, hle, hg, _⟩
     · exact ⟨[.sl false s.w []], by simp only [GC]; exact ⟨[], rfl, by simp, by simp⟩, PCells.cons (.sl false s.w [] none 0 (fun _ _ => undef) 0 0 #[] (by simp) (by simp) (by simp) (by simp) (by simp) (by simp)) PCells.nil⟩
     · rw [h1] at hg;obtain ⟨es, e1, e2, e3⟩ := Aoo (w := w) (s := s) (a := a) hl h2 fun i hi => by
        have h4 := hg i hi;rw [List.getElem?_eq_getElem (by omega)] at h4;obtain ⟨vs, h5, h6⟩ := Option.bind_eq_some_iff.1 h4;obtain ⟨c, g, p⟩ := Ud s h3 h6;exact ⟨c, vs, g, p, h5⟩
       exact ⟨[.sl false s.w es], by simp only [GC]; exact ⟨es, rfl, by omega, e2⟩, PCells.cons e3 PCells.nil⟩
   · cases hs
theorem Ab7 : ∀ (l : List Sh) {fs : List Field} {off : Nat} {vs : List Value}, Aov P l fs off = true →
 (∀ f ∈ fs, ∃ n x, DataW.trod enc P w 0 spare held n f.type ((vs.drop f.offset).take (P.cellsOf f.type)) = some x) → ∃ cs, GCL l cs ∧ PCells (Mi w) cs ((vs.drop off).take (Sh.wL l))
 | [], fs, off, vs, hs, h => ⟨[], by simp only [GCL], by simp only [Sh.wL, List.take_zero]; exact PCells.nil⟩
 | s :: l, [], off, vs, hs, h => by simp [Aov] at hs
 | s :: l, f :: fs, off, vs, hs, h => by
   simp only [Aov, Bool.and_eq_true, decide_eq_true_eq] at hs;obtain ⟨⟨⟨h1, h2⟩, h3⟩, h4⟩ := hs;obtain ⟨n, x, hx⟩ := h f (by simp);obtain ⟨c, g, p⟩ := Ud s h3 hx;obtain ⟨cs, gl, pl⟩ := Ab7 l (vs := vs) h4 fun f hf => h f (by simp [hf]);refine ⟨c ++ cs, by simp only [GCL]; exact ⟨c, cs, rfl, g, gl⟩, ?_⟩;rw [h1, h2] at p;have := PCells.append p pl;have e : (vs.drop off).take (Sh.wL (s :: l)) = (vs.drop off).take s.w ++ (vs.drop (off + s.w)).take (Sh.wL l) := by
    simp only [Sh.wL];rw [List.take_add, List.drop_drop]
   rw [e]; exact this
end
end
mutual
def I2 : Sh → List PV → SV
 | .arr n s, cs => .vec (n * s.w) cs
 | .st l, cs => .agg (O3 l cs)
 | _, cs => .pv (cs.headD (.b false))
def O3 : List Sh → List PV → List SV
 | [], _ => []
 | s :: l, cs => (I2 s (cs.take s.w)).segs ++ O3 l (cs.drop s.w)
end
def Sh.isAg : Sh → Bool
 | .arr _ _ => true
 | .st _ => true
 | _ => false
theorem Q7 {V : View} {ρ : Nat → Value} : ∀ {l m : List SV} {a b : List Value}, Cells V ρ l a → Cells V ρ m b → Cells V ρ (l ++ m) (a ++ b)
 | [], m, a, b, h1, h2 => by simp only [Cells] at h1; subst h1; exact h2
 | x :: l, m, a, b, h1, h2 => by
   simp only [Cells, List.cons_append] at h1 ⊢;obtain ⟨u, us, rfl, c, d, e, f⟩ := h1;exact ⟨u, us ++ b, by simp, c, d, e, Q7 f h2⟩
mutual
theorem Zd {V : View} {ρ : Nat → Value} : ∀ (s : Sh) {cs : List PV} {v : Value}, GC s cs → PCells V cs (Aw v) → (s.isAg = true → ∃ vs, v = .agg ⟨vs⟩) → (s.isAg = false → ∀ vs, v ≠ .agg vs) → Conc V ρ (I2 s cs) v
 | .int k, cs, v, g, p, _, h => by
   obtain ⟨n, rfl, _⟩ := g;have e : Aw v = [v] := by cases v <;> first | rfl | exact absurd rfl (h rfl _)
   rw [e] at p;obtain ⟨v', h1, h2⟩ := p.2 0 _ rfl;simp at h1; subst h1;simp only [I2, Conc, List.headD_cons]; exact h2
 | .bool, cs, v, g, p, _, h => by
   obtain ⟨n, rfl⟩ := g;have e : Aw v = [v] := by cases v <;> first | rfl | exact absurd rfl (h rfl _)
   rw [e] at p;obtain ⟨v', h1, h2⟩ := p.2 0 _ rfl;simp at h1; subst h1;simp only [I2, Conc, List.headD_cons]; exact h2
 | .str, cs, v, g, p, _, h => by
   obtain ⟨n, rfl, _⟩ := g;have e : Aw v = [v] := by cases v <;> first | rfl | exact absurd rfl (h rfl _)
   rw [e] at p;obtain ⟨v', h1, h2⟩ := p.2 0 _ rfl;simp at h1; subst h1;simp only [I2, Conc, List.headD_cons]; exact h2
 | .sl s, cs, v, g, p, _, h => by
   simp only [GC] at g;obtain ⟨n, rfl, _⟩ := g;have e : Aw v = [v] := by cases v <;> first | rfl | exact absurd rfl (h rfl _)
   rw [e] at p;obtain ⟨v', h1, h2⟩ := p.2 0 _ rfl;simp at h1; subst h1;simp only [I2, Conc, List.headD_cons]; exact h2
 | .arr n s, cs, v, g, p, h, _ => by
   obtain ⟨vs, rfl⟩ := h rfl;have hl := g.len;simp only [I2, Conc];refine ⟨vs, rfl, ?_, p⟩;have e1 : vs.length = cs.length := p.1.symm;rw [e1, hl]; rfl
 | .st l, cs, v, g, p, h, _ => by
   obtain ⟨vs, rfl⟩ := h rfl;simp only [GC] at g;simp only [I2, Conc];exact ⟨vs, rfl, Na l g p⟩
theorem Na {V : View} {ρ : Nat → Value} : ∀ (l : List Sh) {cs : List PV} {vs : List Value}, GCL l cs → PCells V cs vs → Cells V ρ (O3 l cs) vs
 | [], cs, vs, g, p => by
   simp only [GCL] at g; subst g;have : vs = [] := List.eq_nil_of_length_eq_zero (by rw [← p.1]; rfl);subst this;simp only [O3, Cells]
 | s :: l, cs, vs, g, p => by
   simp only [GCL] at g;obtain ⟨c, cs', rfl, g1, g2⟩ := g;have hl := g1.len;have p1 : PCells V c (vs.take c.length) := by
    have := p.split c.length |>.1;simpa using this
   have p2 : PCells V cs' (vs.drop c.length) := by
    have := p.split c.length |>.2;simpa using this
   have hvs : vs = vs.take c.length ++ vs.drop c.length := (List.take_append_drop _ _).symm;have hlen : (vs.take c.length).length = s.w := by rw [← p1.1, hl]
   simp only [O3];rw [List.take_left' hl, List.drop_left' hl];rw [hvs];refine Q7 ?_ (Na l g2 p2);cases s with
   | st m =>
     simp only [GC] at g1;simp only [I2, SV.segs];exact Na m g1 p1
   | arr n s' =>
     have := Zd (V := V) (ρ := ρ) (.arr n s') (v := .agg ⟨vs.take c.length⟩) g1 (by simpa [Aw] using p1) (fun _ => ⟨_, rfl⟩) (by simp [Sh.isAg]);simp only [I2] at this ⊢;simp only [SV.segs, Cells];exact ⟨_, [], by simp [Aw], this, by simpa [Aw, SV.width, Sh.w] using hlen, fun v hv => p1.one v (by simpa [Aw] using hv), rfl⟩
   | int k =>
     obtain ⟨n, rfl, _⟩ := g1;obtain ⟨v, h1, h2⟩ := p1.2 0 _ rfl;have e : vs.take [PV.i k n].length = [v] := by
      match hx : vs.take [PV.i k n].length, h1, hlen with
      | [u], h1, _ => simp at h1; rw [h1]
     have ho := h2.one;have fv : Aw v = [v] := by cases v <;> first | rfl | exact absurd ho (by simp [Ba])
     rw [e];simp only [I2, SV.segs, Cells, Conc, List.headD_cons];exact ⟨v, [], by rw [fv]; rfl, h2, by rw [fv]; rfl, by rw [fv]; simpa using ho, rfl⟩
   | bool =>
     obtain ⟨n, rfl⟩ := g1;obtain ⟨v, h1, h2⟩ := p1.2 0 _ rfl;have e : vs.take [PV.b n].length = [v] := by
      match hx : vs.take [PV.b n].length, h1, hlen with
      | [u], h1, _ => simp at h1; rw [h1]
     have ho := h2.one;have fv : Aw v = [v] := by cases v <;> first | rfl | exact absurd ho (by simp [Ba])
     rw [e];simp only [I2, SV.segs, Cells, Conc, List.headD_cons];exact ⟨v, [], by rw [fv]; rfl, h2, by rw [fv]; rfl, by rw [fv]; simpa using ho, rfl⟩
   | str =>
     obtain ⟨n, rfl, _⟩ := g1;obtain ⟨v, h1, h2⟩ := p1.2 0 _ rfl;have e : vs.take [PV.s n].length = [v] := by
      match hx : vs.take [PV.s n].length, h1, hlen with
      | [u], h1, _ => simp at h1; rw [h1]
     have ho := h2.one;have fv : Aw v = [v] := by cases v <;> first | rfl | exact absurd ho (by simp [Ba])
     rw [e];simp only [I2, SV.segs, Cells, Conc, List.headD_cons];exact ⟨v, [], by rw [fv]; rfl, h2, by rw [fv]; rfl, by rw [fv]; simpa using ho, rfl⟩
   | sl s' =>
     simp only [GC] at g1;obtain ⟨n, rfl, _⟩ := g1;obtain ⟨v, h1, h2⟩ := p1.2 0 _ rfl;have e : vs.take [PV.sl false s'.w n].length = [v] := by
      match hx : vs.take [PV.sl false s'.w n].length, h1, hlen with
      | [u], h1, _ => simp at h1; rw [h1]
     have ho := h2.one;have fv : Aw v = [v] := by cases v <;> first | rfl | exact absurd ho (by simp [Ba])
     rw [e];simp only [I2, SV.segs, Cells, Conc, List.headD_cons];exact ⟨v, [], by rw [fv]; rfl, h2, by rw [fv]; rfl, by rw [fv]; simpa using ho, rfl⟩
end
mutual
theorem Ab8 : ∀ (s : Sh) (cs : List PV), (I2 s cs).closed = true
 | .int k, cs => rfl
 | .bool, cs => rfl
 | .str, cs => rfl
 | .sl s, cs => rfl
 | .arr n s, cs => rfl
 | .st l, cs => by simp only [I2, SV.closed]; exact Kh l cs
theorem Kh : ∀ (l : List Sh) (cs : List PV), SV.closedL (O3 l cs) = true
 | [], cs => rfl
 | s :: l, cs => by
   simp only [O3];have h2 := Kh l (cs.drop s.w);have app : ∀ (a b : List SV), SV.closedL a = true → SV.closedL b = true → SV.closedL (a ++ b) = true := fun a b ha hb => by
    induction a with
    | nil => exact hb
    | cons x a ih => simp only [SV.closedL, Bool.and_eq_true, List.cons_append] at ha ⊢; exact ⟨ha.1, ih ha.2⟩
   refine app _ _ ?_ h2;cases s with
   | st m => simp only [I2, SV.segs]; exact Kh m _
   | int k => rfl
   | bool => rfl
   | str => rfl
   | sl s => rfl
   | arr n s => rfl
end
theorem Aks {P : Program} {w : World} {base : Nat} {t : TypeId} {v : Value} : ∀ {s : Sh}, shB P s t = true → Value.okWide P w .any base t v → (s.isAg = true → ∃ vs, v = .agg ⟨vs⟩) ∧ (s.isAg = false → ∀ vs, v ≠ .agg vs)
 | .int k, hs, h => by
   simp only [shB] at hs;split at hs
   · rename_i k' hu;obtain ⟨n, rfl⟩ := WideShapes.okWide_int hu h;exact ⟨fun h => (by cases h), fun _ vs e => by cases e⟩
   · cases hs
 | .bool, hs, h => by
   simp only [shB] at hs;split at hs
   · rename_i hu;obtain ⟨n, rfl⟩ := WideShapes.okWide_bool hu h;exact ⟨fun h => (by cases h), fun _ vs e => by cases e⟩
   · cases hs
 | .str, hs, h => by
   simp only [shB] at hs;split at hs
   · rename_i hu;obtain ⟨n, rfl⟩ := WideShapes.okWide_string hu h;exact ⟨fun h => (by cases h), fun _ vs e => by cases e⟩
   · cases hs
 | .sl s, hs, h => by
   simp only [shB] at hs;split at hs
   · rename_i e hu;obtain ⟨a, b, c, rfl⟩ := WideShapes.okWide_slice hu h;exact ⟨fun h => (by cases h), fun _ vs e => by cases e⟩
   · cases hs
 | .arr n s, hs, h => by
   simp only [shB] at hs;split at hs
   · rename_i n' e hu;simp only [Value.okWide, hu] at h;obtain ⟨⟨xs⟩, rfl, _⟩ := h;exact ⟨fun _ => ⟨_, rfl⟩, fun h => (by cases h)⟩
   · cases hs
 | .st l, hs, h => by
   simp only [shB] at hs;split at hs
   · rename_i fs hu;simp only [Value.okWide, hu] at h;obtain ⟨⟨xs⟩, rfl, _⟩ := h;exact ⟨fun _ => ⟨_, rfl⟩, fun h => (by cases h)⟩
   · cases hs
theorem Xj {H : Type} {enc : TypeId × Value → H} {P : Program} {w : World} {spare : Nat → Bool} {held : Bool} {base : Nat} {t : TypeId} {v : Value} {d : DataW H} {ps : List MemPlace} {s : Sh} (hs : shB P s t = true)
 (hv : Value.okWide P w .any base t v) (h : DataW.Trod enc P w 0 spare held t v d ps) : ∃ cs, GC s cs ∧ Conc (Mi w) (fun _ => undef) (I2 s cs) v := by
 obtain ⟨fuel, hf⟩ := h;obtain ⟨cs, g, p⟩ := Ud s hs hf;rw [Fs] at p;obtain ⟨h1, h2⟩ := Aks hs hv;exact ⟨cs, g, Zd s g p h1 h2⟩
end Go.Proofs.YthmjebkldgdeiaaGreat.Fw
namespace Go.Proofs.YthmjebkldgdeiaaGreat.Fw
open Go.RowKit
theorem Aeb {m : Nat} : ∀ {cc : List (List PV)} {i j : Nat}, (∀ c ∈ cc, c.length = m) → j < m → cc.flatten[i * m + j]? = (cc[i]?).bind (·[j]?)
 | [], i, j, _, _ => by simp
 | c :: cc, 0, j, h, hj => by
   have hc := h c (by simp);rw [List.flatten_cons, Nat.zero_mul, Nat.zero_add, List.getElem?_append_left (by omega)]; rfl
 | c :: cc, i + 1, j, h, hj => by
   have hc := h c (by simp);rw [List.flatten_cons, List.getElem?_append_right (by rw [Nat.add_mul]; omega)];rw [show (i + 1) * m + j - c.length = i * m + j from by rw [Nat.add_mul]; omega];rw [Aeb (fun c hc => h c (by simp [hc])) hj]; rfl
theorem Atm {n : Nat} {s : Sh} {cs : List PV} (h : GC (.arr n s) cs) : cs.length = n * s.w ∧ ∀ i, i < n → ∃ c, GC s c ∧ ∀ j, j < s.w → cs[i * s.w + j]? = c[j]? := by
 refine ⟨h.len, fun i hi => ?_⟩;simp only [GC] at h;obtain ⟨cc, rfl, rfl, g⟩ := h;refine ⟨cc[i], g _ (List.getElem_mem _), fun j hj => ?_⟩;rw [Aeb (fun c hc => (g c hc).len) hj, List.getElem?_eq_getElem hi]; rfl
theorem An1 {n : Int} (h : (Lit.int .u32 n).wf = true) : 0 ≤ n ∧ n < 4294967296 := by
 simp [Lit.wf, IntKind.min, IntKind.max, IntKind.signed, IntKind.bits] at h; omega
theorem Aru {n : Int} (h : (Lit.int .i64 n).wf = true) : -9223372036854775808 ≤ n ∧ n < 9223372036854775808 := by
 simp [Lit.wf, IntKind.min, IntKind.max, IntKind.signed, IntKind.bits] at h; omega
theorem Ajo {n : Nat} {cs : List PV} {f : Nat → PV} (hl : cs.length = n) (h : ∀ i, i < n → cs[i]? = some (f i)) : cs = Cm n f := by
 apply List.ext_getElem?;intro i;by_cases hi : i < n
 · rw [h i hi, Hc hi]
 · rw [List.getElem?_eq_none (by omega), List.getElem?_eq_none (by rw [Dk]; omega)]
theorem Aue {cs : List PV} (h : GC (.arr 8 (.int .u32)) cs) : ∃ a : Vc, cs = vE a ∧ ∀ i, i < 8 → a i < 4294967296 := by
 obtain ⟨hl, g⟩ := Atm h;have key : ∀ i, ∃ n : Nat, i < 8 → cs[i]? = some (.i .u32 n) ∧ n < 4294967296 := fun i => by
  by_cases hi : i < 8
  · obtain ⟨c, ⟨n, rfl, hw⟩, k⟩ := g i hi;have := k 0 (by simp [Sh.w]);simp only [Sh.w, Nat.mul_one, Nat.add_zero] at this;have hr := An1 hw;refine ⟨n.toNat, fun _ => ⟨?_, by omega⟩⟩;rw [this, show ((n.toNat : Nat) : Int) = n from by omega]; rfl
  · exact ⟨0, fun h => absurd h hi⟩
 obtain ⟨a, ha⟩ := Classical.axiomOfChoice key;exact ⟨a, Ajo hl fun i hi => (ha i hi).1, fun i hi => (ha i hi).2⟩
theorem Azt {cs : List PV} (h : GC (.arr 8 (.arr 8 (.int .u32))) cs) : ∃ t : Nat → Vc, cs = tE t ∧ ∀ i, i < 8 → ∀ j, j < 8 → t i j < 4294967296 := by
 obtain ⟨hl, g⟩ := Atm h;have key : ∀ i, ∃ a : Vc, i < 8 → (∀ j, j < 8 → cs[i * 8 + j]? = some (.i .u32 (a j))) ∧ ∀ j, j < 8 → a j < 4294967296 := fun i => by
  by_cases hi : i < 8
  · obtain ⟨c, hc, k⟩ := g i hi;obtain ⟨a, rfl, hb⟩ := Aue hc;refine ⟨a, fun _ => ⟨fun j hj => ?_, hb⟩⟩;have := k j hj;simp only [Sh.w] at this;rw [this]; exact Hc hj _
  · exact ⟨fun _ => 0, fun h => absurd h hi⟩
 obtain ⟨t, ht⟩ := Classical.axiomOfChoice key;refine ⟨t, Ajo hl fun i hi => ?_, fun i hi => (ht i hi).2⟩;have := (ht (i / 8) (by omega)).1 (i % 8) (by omega);rw [show i / 8 * 8 + i % 8 = i from by omega] at this;exact this
theorem Auf {s : Sh} {cs : List PV} (h : GC (.sl s) cs) : ∃ es, cs = [.sl false s.w es] ∧ es.length ≤ maxLen ∧ ∀ c ∈ es, GC s c := by
 simp only [GC] at h; exact h
end Go.Proofs.YthmjebkldgdeiaaGreat.Fw
namespace Go.Proofs.YthmjebkldgdeiaaGreat.Fw
open Go.RowKit Go.Proofs
def Ck (r : Int) (q : Nat) (r' : Int) (q' : Nat) : Bool := decide (q < q' ∨ q = q' ∧ r < r')
theorem Mt (r : Int) (q : Nat) (r' : Int) (q' : Nat) {h d} : FunOk Tryz.prog 144 [.vec 2 [.i .i64 r, .i .u32 q], .vec 2 [.i .i64 r', .i .u32 q']] h d (.pv (.b (Ck r q r' q'))) [] := by
 refine Ao Af fn144 (by simp) rfl rfl fun F => ?_;by_cases h : q = q'
 · subst h;have e : Ck r q r' q = decide (r < r') := by simp [Ck]
   simp (disch := omega) only [ir144, e, go_sem]
 · have hz : ¬ (q : Int) = (q' : Int) := by omega
   have e : Ck r q r' q' = decide ((q : Int) < (q' : Int)) := by simp [Ck, h]
   simp (disch := omega) only [ir144, e, go_sem]
theorem Fy (r : Int) (q : Nat) (r' : Int) (q' : Nat) {h d} : FunOk Tryz.prog 61 [.vec 2 [.i .i64 r, .i .u32 q], .vec 2 [.i .i64 r', .i .u32 q']] h d (.pv (.b (Ck r q r' q'))) [] := by
 refine Ao Af fn61 (by simp) rfl rfl fun F => ?_;by_cases h : q = q'
 · subst h;have e : Ck r q r' q = decide (r < r') := by simp [Ck]
   have hl : ¬ (q : Int) < (q : Int) := by omega
   simp (disch := omega) only [ir61, e, hl, go_sem]
 · have hz : ¬ (q : Int) = (q' : Int) := by omega
   have e : Ck r q r' q' = decide ((q : Int) < (q' : Int)) := by simp [Ck, h]
   by_cases hl : (q : Int) < (q' : Int)
   · simp (disch := omega) only [ir61, e, hl, go_sem]
   · simp (disch := omega) only [ir61, e, hl, go_sem]
theorem J3 {r r' : Int} {q q' : Nat} (h : r = r' ∧ q = q') : peq [.i .i64 r, .i .u32 q] [.i .i64 r', .i .u32 q'] = true := by
 obtain ⟨rfl, rfl⟩ := h; simp [peq]
theorem Hy {r r' : Int} {q q' : Nat} (h : ¬ (r = r' ∧ q = q')) : peq [.i .i64 r, .i .u32 q] [.i .i64 r', .i .u32 q'] = false := by
 simp only [peq, decide_eq_false_iff_not];intro e;simp only [List.cons.injEq, PV.i.injEq, true_and, and_true] at e;exact h ⟨e.1, by omega⟩
abbrev Bn := Int × Nat
def Ed (b : Bn) : List PV := [.i .i64 b.1, .i .u32 b.2]
def Hi (a : Vc) (r : Int) : Nat := if 1 ≤ r ∧ r ≤ 8 then a (r - 1).toNat else 0
def Bl (a : Vc) (r : Int) (q : Nat) : Bool := decide (1 ≤ q ∧ q ≤ Hi a r)
theorem A5v (a : Vc) (r : Int) {h d} : FunOk Tryz.prog 96 [.vec 8 (vE a), .pv (.i .i64 r)] h d (.pv (.i .u32 (Hi a r))) [] := by
 refine Ao Af fn96 (by simp) rfl rfl fun F => ?_;by_cases h1 : r < 1
 · have e : Hi a r = 0 := by simp [Hi]; omega
   simp (disch := omega) only [ir96, h1, e, go_sem]
 by_cases h2 : 8 < r
 · have e : Hi a r = 0 := by simp [Hi]; omega
   simp (disch := omega) only [ir96, h1, h2, e, go_sem]
 have e : Hi a r = a (r - 1).toNat := by simp [Hi]; omega
 obtain ⟨k, rfl⟩ : ∃ k : Nat, r = k + 1 := ⟨(r - 1).toNat, by omega⟩
 have ek : ((k : Int) + 1 - 1) = k := by omega
 simp (disch := omega) only [ir96, h1, h2, e, ek, go_sem]
def Z8 (a : Vc) (r : Int) (k : Nat) : FS := mk [(5, .pv (.i .i64 k)), (1, .pv (.i .i64 r)), (2, .p 2 0)] [(2, some (.var (.vec 8 (vE a))))]
theorem Pa (a : Vc) (r : Int) {h d} : FunOk Tryz.prog 51 [.vec 8 (vE a), .pv (.i .i64 r)] h d (.pv (.i .u32 (Hi a r))) [] := by
 refine Ao Af fn51 (by simp) rfl rfl fun F => ?_;simp (disch := omega) only [ir51, go_sem];refine A1 Af (Z8 a r) (fun k => k ≤ 8 ∧ ∀ i : Nat, i < k → (i : Int) + 1 ≠ r) (fun k => 8 - k) 0 (by simp) (Aj ?_ ?_) fun k hk => ?_
 · simp (disch := omega) only [go_sem]
 · simp (disch := omega) only [go_sem]
 obtain ⟨hk1, hk2⟩ := hk;by_cases hlt : k < 8
 · by_cases he : (k : Int) + 1 = r
   · subst he;have e : Hi a ((k : Int) + 1) = a k := by
      have e1 : ((k : Int) + 1 - 1).toNat = k := by omega
      simp [Hi, e1]; omega
     simp (disch := omega) only [Z8, e, go_sem]
   · simp (disch := omega) only [Z8, he, go_sem];refine Ad (k + 1) _ _ rfl ⟨by omega, fun i hi => ?_⟩ (by omega) ?_ ?_
     · by_cases e : i = k
       · subst e; exact he
       · exact hk2 i (by omega)
     · simp (disch := omega) only [go_sem]
     · simp (disch := omega) only [go_sem]
 · obtain rfl : k = 8 := by omega
   have e : Hi a r = 0 := by
    unfold Hi;rw [if_neg];intro h;exact hk2 (r - 1).toNat (by omega) (by omega)
   simp (disch := omega) only [Z8, e, go_sem]
theorem Gq (a : Vc) (r : Int) (q : Nat) {h d} : FunOk Tryz.prog 54 [.vec 8 (vE a), .vec 2 [.i .i64 r, .i .u32 q]] h d (.pv (.b (Bl a r q))) [] := by
 refine Ao Af fn54 (by simp) rfl rfl fun F => ?_;by_cases h1 : (1 : Int) ≤ q
 · simp (disch := omega) only [ir54, h1, go_sem];refine Aa (A5v a r) ?_;have e : Bl a r q = decide ((q : Int) ≤ (Hi a r : Int)) := decide_eq_decide.2 (by omega);simp (disch := omega) only [e, go_sem]
 · have e : Bl a r q = false := decide_eq_false (by omega);simp (disch := omega) only [ir54, h1, e, go_sem]
theorem Mv (a : Vc) (r : Int) (q : Nat) {h d} : FunOk Tryz.prog 12 [.vec 8 (vE a), .vec 2 [.i .i64 r, .i .u32 q]] h d (.pv (.b (Bl a r q))) [] := by
 refine Ao Af fn12 (by simp) rfl rfl fun F => ?_;by_cases h1 : (0 : Int) < q
 · simp (disch := omega) only [ir12, h1, go_sem];refine Aa (Pa a r) ?_;have e : Bl a r q = decide ((q : Int) ≤ (Hi a r : Int)) := decide_eq_decide.2 (by omega);simp (disch := omega) only [e, go_sem]
 · have e : Bl a r q = false := decide_eq_false (by omega);simp (disch := omega) only [ir12, h1, e, go_sem]
theorem Gl {l : List SV} {cs : List PV} {n : Nat} (hc : SV.cellsL? l = some cs) (hn : cs.length = n) : Imp (.agg l) (.vec n cs) := by
 intro V ρ v h;have hp := Conc.cells h (x := .agg l) (cs := cs) hc;simp only [Conc] at h ⊢;obtain ⟨vs, rfl, _⟩ := h;exact ⟨vs, rfl, by rw [← hn]; exact hp.1.symm, hp⟩
def ImpL : List SV → List SV → Prop
 | [], [] => True
 | x :: l, y :: m => Imp x y ∧ ImpL l m
 | _, _ => False
theorem ImpL.conc {V : View} {ρ : Nat → Value} : ∀ {l m : List SV} {vs : List Value}, ImpL l m → ConcL V ρ l vs → ConcL V ρ m vs
 | [], [], vs, _, h => h
 | x :: l, y :: m, vs, h, k => by
   simp only [ConcL] at k ⊢;obtain ⟨v, us, rfl, k1, k2⟩ := k;exact ⟨v, us, rfl, h.1 _ _ _ k1, ImpL.conc h.2 k2⟩
 | [], _ :: _, _, h, _ => h.elim
 | _ :: _, [], _, h, _ => h.elim
theorem FunOk.imp {P : Program} {f : Nat} {args args' : List SV} {h d x u} (hf : FunOk P f args' h d x u) (hi : ImpL args args') (ht : ∀ n ∈ A4 args', n ∈ A4 args) : FunOk P f args h d x u :=
 ⟨hf.1, fun F N ρ s a w hR hh vs hc => hf.2 F N ρ s a w hR (fun n hn => hh n (ht n hn)) vs (hi.conc hc)⟩
abbrev Acl : Sh := .st [.int .i64, .int .u32]
theorem Ae1 {cs : List PV} (h : GC Acl cs) : ∃ b : Bn, cs = Ed b ∧ (-9223372036854775808 ≤ b.1 ∧ b.1 < 9223372036854775808) ∧ b.2 < 4294967296 := by
 simp only [GC, GCL] at h;obtain ⟨c, cs', rfl, ⟨n, rfl, hw⟩, c', cs'', rfl, ⟨m, rfl, hw'⟩, rfl⟩ := h;have hr := An1 hw';exact ⟨(n, m.toNat), by simp [Ed]; omega, Aru hw, by show m.toNat < _; omega⟩
theorem Abn {α : Type} {f : α → List PV} {p : α → Prop} {s : Sh} (key : ∀ {cs}, GC s cs → ∃ x, cs = f x ∧ p x) : ∀ {es : List (List PV)}, (∀ c ∈ es, GC s c) → ∃ l : List α, es = l.map f ∧ ∀ x ∈ l, p x
 | [], _ => ⟨[], rfl, by simp⟩
 | c :: es, h => by
   obtain ⟨l, e, hp⟩ := Abn (es := es) key fun c hc => h c (List.mem_cons_of_mem _ hc);obtain ⟨x, e2, hx⟩ := key (h c List.mem_cons_self);exact ⟨x :: l, by rw [e, e2]; rfl, fun y hy => by
    rcases List.mem_cons.1 hy with hy | hy
    · rw [hy]; exact hx
    · exact hp y hy⟩
structure Ent where
 id : Bn
 dir : Bn
 name : List UInt8
 obj : Bn
 gone : Vc
def Asp (x : Ent) : List PV := [.i .i64 x.id.1, .i .u32 x.id.2, .i .i64 x.dir.1, .i .u32 x.dir.2, .s x.name, .i .i64 x.obj.1, .i .u32 x.obj.2]
def Bp (x : Ent) : List PV := Asp x ++ vE x.gone
theorem Ahy (a : Vc) : (vE a).all PV.flat = true := by simp [vE, Cm, PV.flat]
theorem Dp (x : Ent) : (Bp x).length = 15 := by simp [Bp, Asp, Bi]
theorem Agx (x : Ent) : (Bp x).all PV.flat = true := by
 unfold Bp Asp; rw [List.all_append, Ahy]; rfl
theorem Jd (l : List Ent) : ∀ c ∈ l.map Bp, c.all PV.flat = true := by
 intro c hc;obtain ⟨v, _, rfl⟩ := List.mem_map.1 hc;exact Agx v
theorem Fp (x : Ent) (K : KK) : LoadK (some (Bp x)) 0 15 true K = K (.vec 15 (Bp x)) [] := by
 have e : ((Bp x).drop 0).take 15 = Bp x := List.take_of_length_le (by rw [List.drop_zero, Dp]; omega);simp only [LoadK, Hg, eq_iff_iff, e, Dp];exact ⟨fun h => h.2.2, fun h => ⟨by omega, .inl trivial, h⟩⟩
theorem Di (x : Ent) (K : KK) : LoadK (some (Bp x)) 0 2 true K = K (.vec 2 [.i .i64 x.id.1, .i .u32 x.id.2]) [] := by
 simp only [LoadK, Hg, eq_iff_iff, Dp];exact ⟨fun h => h.2.2, fun h => ⟨by omega, .inl trivial, h⟩⟩
theorem C4 (x : Ent) (K : KK) : LoadK (some (Bp x)) 5 2 true K = K (.vec 2 [.i .i64 x.obj.1, .i .u32 x.obj.2]) [] := by
 simp only [LoadK, Hg, eq_iff_iff, Dp];exact ⟨fun h => h.2.2, fun h => ⟨by omega, .inl trivial, h⟩⟩
theorem Ia (x : Ent) (K : KK) : LoadK (some (Bp x)) 7 8 true K = K (.vec 8 (vE x.gone)) [] := by
 have e : ((Bp x).drop 7).take 8 = vE x.gone := by
  unfold Bp;rw [List.drop_left' (by rfl)];exact List.take_of_length_le (by rw [Bi]; omega)
 simp only [LoadK, Hg, eq_iff_iff, Dp, e];exact ⟨fun h => h.2.2, fun h => ⟨by omega, .inl trivial, h⟩⟩
theorem Gw (x : Ent) (v : Vc) : splice (Bp x) 7 (vE v) = Bp { x with gone := v } := by
 unfold splice Bp;rw [List.take_left' (by rfl), Bi];have : (Asp x ++ vE x.gone).drop (7 + 8) = [] := List.drop_of_length_le (by simp [Asp, Bi]);rw [this, List.append_nil]; rfl
theorem Jk {P : Program} {F : Fr} {N : Nat} {ρ : Nat → Value} {s : FS} {a : Act} {w : World} {tS tR e : TypeId} {sz m n lo hi : Nat} {es fs : List (List PV)} (ht : P.underlying tS = some (.slice e)) (hz : Ai P e = some sz) (h1 : sz ≠ 1)
 (hR : RelR F N ρ s a w) (hm : s.h m = some (.row sz fs)) (hn : s.h n = some (.row sz es)) (hne : m ≠ n) (hfs : fs ≠ []) (hes : es ≠ []) (hlt : lo < hi) {v u : Value}
 (hv : Conc (vw F w ρ s) ρ (.os m) v) (hu : Conc (vw F w ρ s) ρ (.ov n sz lo hi) u) :
 (Extern.SlicesOverlaps.overlaps #[tS, tS] #[tR] #[v, u]).run P w = .ok (.bool false) w := by
 obtain ⟨bm, lm, cm, vm, tym, frm, a1, a2, a3, a4, a5, a6, a7, a8, a9, rfl, a11⟩ := Hn (hR.own m _ hm) (List.length_pos_iff.2 hfs);obtain ⟨bn, ln, cn, vn, tyn, frn, b1, b2, b3, b4, b5, b6, b7, b8, b9, rfl, b11⟩ := Hn (hR.own n _ hn) (List.length_pos_iff.2 hes);simp only [Conc] at hv hu;obtain ⟨base, len, cap, base', c1, c2, c3, rfl, c4⟩ := hu;rw [hv.1, a1];rw [b1] at c1; cases c1;have := c4 (.inl hlt);simp only [Option.map_some, Dd, Nat.zero_add] at this;subst this;have hbb : bm ≠ bn := fun e => hne (hR.inj m n _ _ bm hm hn (by rw [a1]; simp [Cr, a7]) (by rw [b1]; simp [Cr, b7, e]));have hfr : frm.1 = frm.2 := by rcases a3 with h | h; exact h; exact absurd h.1 h1
 have fz : ∀ o, w.frozen? ⟨bm, o, none⟩ = false := fun o => by
  unfold World.frozen?;simp only [a2];obtain ⟨x, y⟩ := frm;simp only at hfr;simp; omega
 exact Lib.run_overlaps_apart w tS tR e ht sz (fun w => Ci hz w) ⟨bm, 0, none⟩ ⟨bn, lo * sz, none⟩ _ _ _ _ hbb tym tyn vm.length vn.length (by unfold World.shape?; rw [a2]; rfl) (by unfold World.shape?; rw [b2]; rfl)
  (by rw [b5]; exact Nat.mul_ne_zero b7 (by omega)) (fz _) (fz _)
theorem A1o {m n lo hi : Nat} {es fs : List (List PV)} {h} (hm : h m = some (.row 15 fs)) (hn : h n = some (.row 15 es)) (hne : m ≠ n) (hfs : fs ≠ []) (hes : es ≠ []) (hlt : lo < hi) : Zp Tryz.prog 170 [.os m, .ov n 15 lo hi] h (.pv (.b false)) := by
 intro F N ρ s a w hR hh vs hc;simp only [ConcL] at hc;obtain ⟨v, us, rfl, hv, u, us', rfl, hu, rfl⟩ := hc;have hsm := (hh m (by simp [A4, tn])).trans hm;have hsn := (hh n (by simp [A4, tn])).trans hn;refine ⟨.bool false, ?_, Ez⟩;rw [run_callFunc_extern (fn := (Tryz.prog.funcs[170]?).getD default) (by kernel_rfl) (by kernel_rfl) (by kernel_rfl) (by kernel_rfl) (e := Extern.SlicesOverlaps.overlaps #[44, 44] #[4]) (by kernel_rfl)];rw [Jk (tS := 44) (e := 152) (by kernel_rfl) (by kernel_rfl) (by decide) hR hsm hsn hne hfs hes hlt hv hu];rfl
set_option maxHeartbeats 4000000 in
theorem Wc (es : List (List PV)) (cs : List PV) (i : Nat) (hi : i ≤ es.length) (hb : es.length ≤ 1000) (hes : ∀ c ∈ es, c.length = 15) (hcs : cs.length = 15) {h d} (h1 : h 900 = some (.row 15 es)) (h2 : h 901 = some (.row 15 [cs])) : FunOk Tryz.prog 156 [.os 900, .pv (.i .i64 i), .os 901] h d (.os d) [.del 900, .del 901, .new d (.row 15 (es.take i ++ cs :: es.drop i))] := by
 refine Abf Af fn156 (by simp) rfl fun F => ?_;simp only [Cy];by_cases he : i = es.length
 · subst he;have e1 : es.take es.length ++ cs :: es.drop es.length = es ++ [cs] := by simp
   rw [e1];simp (disch := omega) only [ir156, h1, h2, go_sem]
 · have hne : es ≠ [] := by intro e; subst e; simp at hi; exact he (by simpa using hi)
   simp (disch := omega) only [ir156, h1, h2, go_sem];intro c hc;by_cases hcap : c < es.length + 1
   · have hp : ((c : Int) < (es.length : Int) + ((1 : Nat) : Int)) = True := eq_true (by omega);have ek : ((es.length : Int) + ((1 : Nat) : Int) - (i : Int)).toNat = es.length + 1 - i := by omega
     (try simp only [Ch, Cg, Cf, Ce, Cd, Cc, Cb, Ca]); simp (disch := omega) only [hp, ek, go_sem]
     generalize hT : List.take i es ++ List.replicate (es.length + 1 - i) _ = T;have hTl : T.length = es.length + 1 := by rw [← hT]; simp; omega
     have t1 : T.take i = es.take i := by
      rw [← hT, List.take_append_of_le_length (by simp; omega), List.take_take, Nat.min_self]
     have hi' : (es.take i).length = i := by simp; omega
     have m1 : min 1 (es.length + 1 - i) = 1 := by omega
     have m2 : [cs].take (es.length + 1 - i) = [cs] := List.take_of_length_le (by simp; omega);have hU : (es.take i ++ [cs] ++ T.drop (i + 1)).length = es.length + 1 := by simp [hTl]; omega
     have e1 : ((i : Int) + ((1 : Nat) : Int)).toNat = i + 1 := by omega
     have u1 : (es.take i ++ [cs] ++ T.drop (i + 1)).take (i + 1) = es.take i ++ [cs] := by
      rw [List.take_append_of_le_length (by simp; omega)];exact List.take_of_length_le (by simp; omega)
     have u2 : (es.take es.length).drop i = es.drop i := by rw [List.take_length]
     have u3 : min (es.drop i).length (es.length + 1 - (i + 1)) = es.length - i := by simp
     have u4 : (es.drop i).take (es.length + 1 - (i + 1)) = es.drop i := List.take_of_length_le (by simp);have u5 : (es.take i ++ [cs] ++ T.drop (i + 1)).drop (i + 1 + (es.length - i)) = [] := List.drop_of_length_le (by rw [hU]; omega);have u6 : es.take i ++ cs :: es.drop i = es.take i ++ [cs] ++ es.drop i := by simp
     simp only [hTl, t1, m1, m2, e1, List.length_singleton];simp only [hU, u1, u2, u3, u4, u5, u6, List.append_nil];exact ⟨by omega, by omega, trivial⟩
   · have hp : ((c : Int) < (es.length : Int) + ((1 : Nat) : Int)) = False := eq_false (by omega)
     (try simp only [Ch, Cg, Cf, Ce, Cd, Cc, Cb, Ca]); simp (disch := omega) only [hp, go_sem]
     intro g hg hgs;have hg1 : g.length = 1 := by omega
     have e1 : ((i : Int) + ((1 : Nat) : Int)).toNat = i + 1 := by omega
     have hE : (es ++ g).length = es.length + 1 := by simp [hg1]
     refine ⟨by omega, ?_⟩;rw [e1];refine Q8 (A1o (es := es ++ g) (fs := [cs]) rfl rfl (by decide) (by simp) (by simp [hne]) (by omega)) ?_;have v1 : ((es ++ g).take (es ++ g).length).drop i = (es ++ g).drop i := by rw [List.take_length]
     have v2 : min ((es ++ g).drop i).length ((es ++ g).length - (i + 1)) = es.length - i := by simp [hg1]; omega
     have v3 : ((es ++ g).drop i).take ((es ++ g).length - (i + 1)) = es.drop i := by
      rw [hE, List.drop_append_of_le_length hi, show es.length + 1 - (i + 1) = (es.drop i).length from by simp];exact List.take_left
     have v4 : (es ++ g).drop (i + 1 + (es.length - i)) = [] := List.drop_of_length_le (by omega);have v5 : ((es ++ g).take (i + 1) ++ es.drop i).length = es.length + 1 := by simp [hg1]; omega
     have v6 : ((es ++ g).take (i + 1) ++ es.drop i).take i = es.take i := by
      rw [List.take_append_of_le_length (by simp; omega), List.take_take, Nat.min_eq_left (by omega), List.take_append_of_le_length hi]
     have v7 : ((es ++ g).take (i + 1) ++ es.drop i).drop (i + 1) = es.drop i := by
      rw [List.drop_append_of_le_length (by simp; omega), List.drop_of_length_le (by simp; omega), List.nil_append]
     have m1 : min 1 (es.length + 1 - i) = 1 := by omega
     have m2 : [cs].take (es.length + 1 - i) = [cs] := List.take_of_length_le (by simp; omega);have u6 : es.take i ++ cs :: es.drop i = es.take i ++ [cs] ++ es.drop i := by simp
     simp (disch := omega) only [e1, v1, v2, v3, v4, v5, v6, v7, m1, m2, u6, go_sem]
theorem A1q {m n : Nat} (es : List (List PV)) (cs : List PV) (i : Nat) (hi : i ≤ es.length) (hb : es.length ≤ 1000) (hes : ∀ c ∈ es, c.length = 15) (hcs : cs.length = 15) (hmn : m ≠ n) (hm : m < 900) (hn : n < 900) {h d} (hd : d ≠ m ∧ d ≠ n ∧ d < 900) (h1 : h m = some (.row 15 es)) (h2 : h n = some (.row 15 [cs])) : FunOk Tryz.prog 156 [.os m, .pv (.i .i64 i), .os n] h d (.os d) [.del m, .del n, .new d (.row 15 (es.take i ++ cs :: es.drop i))] := by
 have hπ := Ah1 (a := 900) (m := m) (b := 901) (n := n) (by omega) (by omega) (by omega) hmn;have e1 : Zy 900 m 901 n 900 = m := by unfold Zy; simp
 have e2 : Zy 900 m 901 n 901 = n := by unfold Zy; repeat' split <;> (try omega)
 have e3 : Zy 900 m 901 n d = d := by unfold Zy; repeat' split <;> (try omega)
 have := (Wc es cs i hi hb hes hcs (h := fun k => (h (Zy 900 m 901 n k))) (d := d) (by rw [← h1, e1]) (by rw [← h2, e2])).rn (π := Zy 900 m 901 n) hπ (d' := d);simp only [SV.rnL, SV.rn, HU.rn, Blk.rn, List.map_cons, List.map_nil, e1, e2, e3] at this;refine this.at fun k hk => ?_;simp only [A4, tn, List.append_nil, List.nil_append, List.mem_append, List.mem_singleton] at hk;simp only [hπ];rcases hk with rfl | rfl
 · rw [h1]; rfl
 · rw [h2]; rfl
theorem We {x : SV} {f : Bool} {z : Nat} {es : List (List PV)} {h d} (hx : C2 h [x] = [.pv (.sl f z es)]) (hl : Bf [x] = true) (hz : es = [] ∨ z = 15) (hb : es.length ≤ 1000) (hs : ∀ c ∈ es, c.all PV.flat = true) :
 FunOk Tryz.prog 94 [x] h d (.os d) [.new d (.row 15 es)] := by
 refine Ad8 Af fn94 (by simp) hl (.inr hs) fun F => ?_;rw [hx];simp (disch := omega) only [ir94, go_sem];intro b hb';cases b
 · simp (disch := omega) only [go_sem]
 · have he : es = [] := by
    cases es with
    | nil => rfl
    | cons c l => exact absurd (hb' (by simp)) (by simp)
   subst he
   (try simp only [Ch, Cg, Cf, Ce, Cd, Cc, Cb, Ca]); simp (disch := omega) only [go_sem]
   decide
abbrev Hz (a b : Bn) : Bool := Ck a.1 a.2 b.1 b.2
theorem Uv {a b : Bn} : Hz a b = true ↔ a.2 < b.2 ∨ a.2 = b.2 ∧ a.1 < b.1 := by simp [Hz, Ck]
theorem Gz {a b c : Bn} (h : Hz a b = true) (k : Hz b c = true) : Hz a c = true := by rw [Uv] at *; omega
theorem F4 {a : Bn} : ¬ Hz a a = true := by rw [Uv]; omega
theorem M4 {a b : Bn} (h : Hz a b = true) : ¬ Hz b a = true := by rw [Uv] at *; omega
theorem J6 {a b : Bn} (h : ¬ Hz a b = true) (k : a ≠ b) : Hz b a = true := by
 rw [Uv] at *;by_cases e : a.2 = b.2
 · have : a.1 ≠ b.1 := fun e1 => k (Prod.ext e1 e);omega
 · omega
def Dq (l : List Ent) : Prop := l.Pairwise fun a b => Hz a.id b.id = true
def Hf : List Ent → Bn → Option Ent
 | [], _ => none
 | x :: l, i => if x.id = i then some x else Hf l i
theorem Ald {l : List Ent} {i : Bn} {x : Ent} (h : Hf l i = some x) : x ∈ l ∧ x.id = i := by
 induction l with
 | nil => simp [Hf] at h
 | cons y l ih =>
   simp only [Hf] at h;split at h
   · cases h; exact ⟨List.mem_cons_self, by assumption⟩
   · exact ⟨List.mem_cons_of_mem _ (ih h).1, (ih h).2⟩
theorem Fz {l : List Ent} {i : Bn} : Hf l i = none ↔ ∀ x ∈ l, x.id ≠ i := by
 induction l with
 | nil => simp [Hf]
 | cons y l ih =>
   simp only [Hf];by_cases h : y.id = i
   · rw [if_pos h];exact ⟨fun e => (nomatch e), fun e => absurd h (e y List.mem_cons_self)⟩
   · rw [if_neg h, ih];simp only [List.mem_cons, forall_eq_or_imp];exact ⟨fun e => ⟨h, e⟩, fun e => e.2⟩
theorem Adn {l : List Ent} (hs : Dq l) {x : Ent} (h : x ∈ l) : Hf l x.id = some x := by
 induction l with
 | nil => cases h
 | cons y l ih =>
   obtain ⟨h1, h2⟩ := List.pairwise_cons.1 hs;simp only [Hf];rcases List.mem_cons.1 h with rfl | h
   · rw [if_pos rfl]
   · rw [if_neg fun e => F4 (by have := h1 x h; rwa [e] at this)];exact ih h2 h
def Fx (l : List Ent) (i : Bn) : Nat := l.findIdx fun x => !Hz x.id i
theorem Aam (l : List Ent) (i : Bn) : Fx l i ≤ l.length := List.findIdx_le_length
theorem R8 (x : Ent) (l : List Ent) (i : Bn) : Fx (x :: l) i = if Hz x.id i = true then Fx l i + 1 else 0 := by
 unfold Fx;rw [List.findIdx_cons];cases Hz x.id i <;> simp
theorem Ape {l : List Ent} {i : Bn} {k : Nat} (hk : k < Fx l i) : ∃ x, l[k]? = some x ∧ Hz x.id i = true := by
 have hl : k < l.length := Nat.lt_of_lt_of_le hk (Aam l i);refine ⟨l[k], by simp [hl], ?_⟩;have := List.not_of_lt_findIdx hk;simpa using this
theorem A1f {l : List Ent} (hs : Dq l) {i : Bn} {k : Nat} (hk : Fx l i ≤ k) {x : Ent} (hx : l[k]? = some x) : ¬ Hz x.id i = true := by
 obtain ⟨hl, rfl⟩ := List.getElem?_eq_some_iff.1 hx;have hp : Fx l i < l.length := by omega
 have h0 : ¬ Hz l[Fx l i].id i = true := by
  have : (!Hz (l[Fx l i]'hp).id i) = true := List.findIdx_getElem (p := fun x : Ent => !Hz x.id i) (w := hp);simpa using this
 by_cases e : Fx l i = k
 · subst e; exact h0
 · have := List.pairwise_iff_getElem.1 hs (Fx l i) k hp hl (by omega);exact fun h => h0 (Gz this h)
theorem Aid {l : List Ent} {i : Bn} {k : Nat} (hk : k ≤ l.length) (h1 : ∀ j x, j < k → l[j]? = some x → Hz x.id i = true) (h2 : ∀ x, l[k]? = some x → ¬ Hz x.id i = true) : Fx l i = k := by
 rcases Nat.lt_trichotomy (Fx l i) k with h | h | h
 · have hl : Fx l i < l.length := by omega
   have h0 : (!Hz (l[Fx l i]'hl).id i) = true := List.findIdx_getElem (p := fun x : Ent => !Hz x.id i) (w := hl);have := h1 _ _ h (List.getElem?_eq_getElem hl);rw [this] at h0; simp at h0
 · exact h
 · obtain ⟨x, e1, e2⟩ := Ape h;exact absurd e2 (h2 x e1)
def Qp (l : List Ent) (i : Bn) : Bool := (Hf l i).isSome
theorem Qh {l : List Ent} (hs : Dq l) (i : Bn) : Hf l i = match l[Fx l i]? with | some x => if x.id = i then some x else none | none => none := by
 induction l with
 | nil => simp [Hf]
 | cons y l ih =>
   obtain ⟨h1, h2⟩ := List.pairwise_cons.1 hs;rw [R8];simp only [Hf];by_cases e : y.id = i
   · have : ¬ Hz y.id i = true := by rw [e]; exact F4
     rw [if_neg this, if_pos e];simp [e]
   · rw [if_neg e];by_cases hl : Hz y.id i = true
     · rw [if_pos hl, List.getElem?_cons_succ]; exact ih h2
     · rw [if_neg hl, List.getElem?_cons_zero];simp only [e, if_false];exact Fz.2 fun z hz ez => F4 (by have := Gz (J6 hl e) (h1 z hz); rwa [ez] at this)
theorem Vu {l : List Ent} (hs : Dq l) {j m : Nat} {x v : Ent} (hj : l[j]? = some x) (hm : l[m]? = some v) (h : j < m) : Hz x.id v.id = true := by
 obtain ⟨h1, rfl⟩ := List.getElem?_eq_some_iff.1 hj;obtain ⟨h2, rfl⟩ := List.getElem?_eq_some_iff.1 hm;exact List.pairwise_iff_getElem.1 hs j m h1 h2 h
def Oe (l : List Ent) (x : Ent) : List Ent := l.take (Fx l x.id) ++ x :: l.drop (Fx l x.id)
theorem Sr (y : Ent) (l : List Ent) (x : Ent) : Oe (y :: l) x = if Hz y.id x.id = true then y :: Oe l x else x :: y :: l := by
 unfold Oe;rw [R8];split <;> simp
theorem Aa0 {l : List Ent} {x z : Ent} : z ∈ Oe l x ↔ z = x ∨ z ∈ l := by
 unfold Oe;have := List.take_append_drop (Fx l x.id) l;constructor
 · intro h;rcases List.mem_append.1 h with h | h
   · exact .inr (List.mem_of_mem_take h)
   · rcases List.mem_cons.1 h with h | h
     · exact .inl h
     · exact .inr (List.mem_of_mem_drop h)
 · intro h;rcases h with rfl | h
   · simp
   · rw [← this] at h;rcases List.mem_append.1 h with h | h
     · exact List.mem_append_left _ h
     · exact List.mem_append_right _ (List.mem_cons_of_mem _ h)
theorem Vt {l : List Ent} (hs : Dq l) {x : Ent} (hn : Hf l x.id = none) : Dq (Oe l x) := by
 induction l with
 | nil => simp [Oe, Fx, Dq]
 | cons y l ih =>
   obtain ⟨h1, h2⟩ := List.pairwise_cons.1 hs;have hy : y.id ≠ x.id := Fz.1 hn y List.mem_cons_self;have hn' : Hf l x.id = none := Fz.2 fun z hz => Fz.1 hn z (List.mem_cons_of_mem _ hz);rw [Sr];split
   · rename_i hl;refine List.Pairwise.cons (fun z hz => ?_) (ih h2 hn');rcases Aa0.1 hz with rfl | hz
     · exact hl
     · exact h1 z hz
   · rename_i hl;have hxy : Hz x.id y.id = true := J6 hl hy;refine List.Pairwise.cons (fun z hz => ?_) hs;rcases List.mem_cons.1 hz with rfl | hz
     · exact hxy
     · exact Gz hxy (h1 z hz)
theorem Aok {l : List Ent} {f : Ent → Ent} (hf : ∀ x, (f x).id = x.id) (hs : Dq l) : Dq (l.map f) := by
 unfold Dq;rw [List.pairwise_map];exact hs.imp fun h => by simpa only [hf] using h
def T7 (l : List Ent) (i : Bn) (f : Ent → Ent) : List Ent := l.map fun x => if x.id = i then f x else x
theorem Awj {i : Bn} {f : Ent → Ent} (hf : ∀ x, (f x).id = x.id) (x : Ent) : (if x.id = i then f x else x).id = x.id := by split <;> simp [hf]
theorem Aoj {l : List Ent} {f : Ent → Ent} (hf : ∀ x, (f x).id = x.id) (hs : Dq l) (i : Bn) : Dq (T7 l i f) := Aok (Awj hf) hs
theorem Avm {l : List Ent} (hs : Dq l) {i : Bn} {f : Ent → Ent} {x : Ent} (h : Hf l i = some x) : l.set (Fx l i) (f x) = T7 l i f := by
 induction l with
 | nil => simp [Hf] at h
 | cons y l ih =>
   obtain ⟨h1, h2⟩ := List.pairwise_cons.1 hs;rw [R8];simp only [Hf] at h;by_cases e : y.id = i
   · rw [if_pos e] at h;cases h;rw [if_neg (by rw [e]; exact F4)];simp only [List.set_cons_zero, T7, List.map_cons, if_pos e];congr 1;have e1 : ∀ z ∈ l, (if z.id = i then f z else z) = id z := fun z hz => by
      rw [if_neg fun ez => F4 (by have := h1 z hz; rwa [e, ez] at this)]; rfl
     rw [List.map_congr_left e1, List.map_id]
   · rw [if_neg e] at h;have hx := Ald h;have : Hz y.id i = true := by rw [← hx.2]; exact h1 x hx.1
     rw [if_pos this, List.set_cons_succ, ih h2 h];simp [T7, e]
def Rc (l : List Ent) (x : Ent) : List Ent := if Qp l x.id = true then l else Oe l x
def Iy (a b : Bn) : Int := if Hz a b = true then -1 else if Hz b a = true then 1 else 0
theorem A1t (a b : Bn) {h d} : FunOk Tryz.prog 169 [.vec 2 [.i .i64 a.1, .i .u32 a.2], .vec 2 [.i .i64 b.1, .i .u32 b.2]] h d (.pv (.i .i64 (Iy a b))) [] := by
 refine Ao Af fn169 (by simp) rfl rfl fun F => ?_;simp (disch := omega) only [ir169, go_sem];refine Aa (Mt _ _ _ _) ?_;by_cases h1 : Ck a.1 a.2 b.1 b.2 = true
 · have e : Iy a b = -1 := if_pos h1;simp (disch := omega) only [h1, e, go_sem]
 · have h1' : Ck a.1 a.2 b.1 b.2 = false := by simpa using h1
   simp (disch := omega) only [h1', go_sem];refine Aa (Mt _ _ _ _) ?_;by_cases h2 : Ck b.1 b.2 a.1 a.2 = true
   · have e : Iy a b = 1 := by unfold Iy; rw [if_neg h1, if_pos h2]
     simp (disch := omega) only [h2, e, go_sem]
   · have h2' : Ck b.1 b.2 a.1 a.2 = false := by simpa using h2
     have e : Iy a b = 0 := by unfold Iy; rw [if_neg h1, if_neg h2]
     simp (disch := omega) only [h2', e, go_sem]
theorem Azj (x : Ent) (b : Bn) {h d} : FunOk Tryz.prog 168 [.vec 15 (Bp x), .vec 2 [.i .i64 b.1, .i .u32 b.2]] h d (.pv (.i .i64 (Iy x.id b))) [] := by
 refine Ao Af fn168 (by simp) rfl rfl fun F => ?_;simp (disch := omega) only [ir168, Di, go_sem];refine Aa (A1t _ _) ?_;simp (disch := omega) only [go_sem]
theorem U2 {a b : Bn} : (Iy a b < 0) = (Hz a b = true) := by
 unfold Iy;by_cases h : Hz a b = true
 · rw [if_pos h]; simp [h]
 · rw [if_neg h]; split <;> simp [h]
theorem U3 {a b : Bn} : (Iy a b = 0) = (a = b) := by
 unfold Iy;by_cases h : Hz a b = true
 · rw [if_pos h];refine propext ⟨fun e => by omega, fun e => ?_⟩;subst e; exact absurd h F4
 · rw [if_neg h];by_cases k : Hz b a = true
   · rw [if_pos k];refine propext ⟨fun e => by omega, fun e => ?_⟩;subst e; exact absurd k F4
   · rw [if_neg k];refine propext ⟨fun _ => ?_, fun _ => rfl⟩;exact Classical.byContradiction fun e => k (J6 h e)
def Ah7 (f : Bool) (l : List Ent) (i : Bn) (p : Nat × Nat) : FS := mk [(9, .pv (.i .i64 p.1)), (10, .pv (.i .i64 p.2)), (8, .pv (.i .i64 l.length)), (0, .pv (.sl f 15 (l.map Bp))), (2, .fn (.func 168) []), (4, .p 4 0)] [(4, some (.var (.vec 2 [.i .i64 i.1, .i .u32 i.2])))]
set_option maxHeartbeats 1000000 in
theorem A5y {x : SV} {f : Bool} {l : List Ent} (i : Bn) {h d} (hx : C2 h [x, .vec 2 [.i .i64 i.1, .i .u32 i.2], .fn (.func 168) []] = [.pv (.sl f 15 (l.map Bp)), .vec 2 [.i .i64 i.1, .i .u32 i.2], .fn (.func 168) []]) (hl : Bf [x, .vec 2 [.i .i64 i.1, .i .u32 i.2], .fn (.func 168) []] = true) (hs : Dq l) (hn : l.length ≤ 1000) :
 FunOk Tryz.prog 167 [x, .vec 2 [.i .i64 i.1, .i .u32 i.2], .fn (.func 168) []] h d (.tup [.pv (.i .i64 (Fx l i)), .pv (.b (Qp l i))]) [] := by
 refine Db Af fn167 (by simp) hl rfl fun F => ?_;rw [hx];simp (disch := omega) only [ir167, List.length_map, go_sem];refine A1 Af (Ah7 f l i) (fun p => p.1 ≤ p.2 ∧ p.2 ≤ l.length ∧ (∀ j x, j < p.1 → l[j]? = some x → Hz x.id i = true) ∧ ∀ j x, p.2 ≤ j → l[j]? = some x → ¬ Hz x.id i = true) (fun p => p.2 - p.1) (0, l.length) ⟨by simp, by simp, by simp, fun j x hj hx => by simp only at hj; rw [List.getElem?_eq_none hj] at hx; cases hx⟩ (Aj ?_ ?_) fun p hp => ?_
 · (try simp only [Ch, Cg, Cf, Ce, Cd, Cc, Cb, Ca]); simp (disch := omega) only [go_sem]
 · simp (disch := omega) only [go_sem]
 obtain ⟨a, b⟩ := p;obtain ⟨p1, p2, p3, p4⟩ := hp;simp only at p1 p2 p3 p4;by_cases hlt : a < b
 · have hm : (a + b) / 2 < l.length := by omega
   have hx : l[(a + b) / 2]? = some l[(a + b) / 2] := List.getElem?_eq_getElem hm;have he : (l.map Bp)[(a + b) / 2]? = some (Bp l[(a + b) / 2]) := by rw [List.getElem?_map, hx]; rfl
   have e1 : ((a : Int) + (b : Int)).fdiv (2 ^ min (Int.toNat 1) 64) = (((a + b) / 2 : Nat) : Int) := by
    rw [show (2 : Int) ^ min (Int.toNat 1) 64 = 2 from rfl, Int.fdiv_eq_ediv_of_nonneg _ (by omega)]; omega
   have hm1 : a ≤ (a + b) / 2 := by omega
   have hm2 : (a + b) / 2 < b := by omega
   generalize l[(a + b) / 2] = v at *;generalize (a + b) / 2 = m at *;simp (disch := omega) only [Ah7, List.length_map, e1, he, Fp, go_sem];refine Aa (Azj v i) ?_;by_cases hc : Hz v.id i = true
   · have e2 : (Iy v.id i < 0) = True := by rw [U2]; exact eq_true hc
     simp (disch := omega) only [e2, go_sem];refine Ad (x := (a, b)) (m + 1, b) _ _ rfl ⟨by show m + 1 ≤ b; omega, p2, fun j x hj hx' => ?_, p4⟩ (by show b - (m + 1) < b - a; omega) ?_ ?_
     · by_cases e : j = m
       · subst e; rw [hx] at hx'; cases hx'; exact hc
       · exact Gz (Vu hs hx' hx (by simp only at hj; omega)) hc
     · (try simp only [Ch, Cg, Cf, Ce, Cd, Cc, Cb, Ca]); simp (disch := omega) only [go_sem]
     · simp (disch := omega) only [go_sem]
   · have e2 : (Iy v.id i < 0) = False := by rw [U2]; exact eq_false hc
     simp (disch := omega) only [e2, go_sem];refine Ad (x := (a, b)) (a, m) _ _ rfl ⟨by show a ≤ m; omega, by show m ≤ _; omega, p3, fun j x hj hx' => ?_⟩ (by show m - a < b - a; omega) ?_ ?_
     · by_cases e : j = m
       · subst e; rw [hx] at hx'; cases hx'; exact hc
       · exact fun q => hc (Gz (Vu hs hx hx' (by simp only at hj; omega)) q)
     · (try simp only [Ch, Cg, Cf, Ce, Cd, Cc, Cb, Ca]); simp (disch := omega) only [go_sem]
     · simp (disch := omega) only [go_sem]
 · obtain rfl : a = b := by omega
   have hpos : Fx l i = a := Aid p2 p3 fun x hx' => p4 a x (Nat.le_refl a) hx';by_cases hal : a < l.length
   · have hx' : l[a]? = some l[a] := List.getElem?_eq_getElem hal;have he : (l.map Bp)[a]? = some (Bp l[a]) := by rw [List.getElem?_map, hx']; rfl
     have hk := Qh hs i;rw [hpos, hx'] at hk;generalize l[a] = v at *;simp (disch := omega) only [Ah7, hal, he, Fp, List.length_map, go_sem];refine Aa (Azj v i) ?_;by_cases hv : v.id = i
     · have e2 : (Iy v.id i = 0) = True := by rw [U3]; exact eq_true hv
       have e3 : Qp l i = true := by unfold Qp; rw [hk]; simp [hv]
       simp (disch := omega) only [e2, e3, hpos, go_sem]
     · have e2 : (Iy v.id i = 0) = False := by rw [U3]; exact eq_false hv
       have e3 : Qp l i = false := by unfold Qp; rw [hk]; simp [hv]
       simp (disch := omega) only [e2, e3, hpos, go_sem]
   · have hk := Qh hs i;rw [hpos, List.getElem?_eq_none (by omega)] at hk;have e3 : Qp l i = false := by unfold Qp; rw [hk]; rfl
     simp (disch := omega) only [Ah7, hal, hpos, e3, go_sem]
theorem Azk {x : SV} {f : Bool} {l : List Ent} (i : Bn) {h d} (hx : C2 h [x, .vec 2 [.i .i64 i.1, .i .u32 i.2]] = [.pv (.sl f 15 (l.map Bp)), .vec 2 [.i .i64 i.1, .i .u32 i.2]]) (hl : Bf [x, .vec 2 [.i .i64 i.1, .i .u32 i.2]] = true) (hs : Dq l) (hn : l.length ≤ 1000) :
 FunOk Tryz.prog 155 [x, .vec 2 [.i .i64 i.1, .i .u32 i.2]] h d (.tup [.pv (.i .i64 (Fx l i)), .pv (.b (Qp l i))]) [] := by
 refine Db Af fn155 (by simp) hl rfl fun F => ?_;rw [hx];simp (disch := omega) only [ir155, go_sem];refine Aa (A5y (l := l) i rfl rfl hs hn) ?_;simp (disch := omega) only [go_sem]
theorem A1z {a : SV} {f : Bool} {l : List Ent} (x : Ent) {h d} (hx : C2 h [a, .vec 15 (Bp x)] = [.pv (.sl f 15 (l.map Bp)), .vec 15 (Bp x)]) (hl : Bf [a, .vec 15 (Bp x)] = true) (hs : Dq l) (hn : l.length ≤ 1000) :
 FunOk Tryz.prog 138 [a, .vec 15 (Bp x)] h d (.os d) [.new d (.row 15 ((Rc l x).map Bp))] := by
 refine Abe Af fn138 (by simp) hl (.inr (Jd _)) fun F => ?_;rw [hx];simp (disch := omega) only [ir138, Di, go_sem];refine Aa (Azk (l := l) x.id rfl rfl hs hn) ?_;have hfl := Jd l;by_cases hi : Qp l x.id = true
 · have e : Rc l x = l := by unfold Rc; rw [if_pos hi]
   simp (disch := omega) only [hi, e, go_sem];refine Aa (We (es := l.map Bp) rfl rfl (.inr rfl) (by simp; omega) hfl) ?_;simp (disch := omega) only [go_sem]
 · have hi' : Qp l x.id = false := by simpa using hi
   have e : Rc l x = Oe l x := by unfold Rc; rw [if_neg hi]
   have hc := Dp x;simp (disch := omega) only [hi', e, go_sem];refine Aa (We (es := l.map Bp) rfl rfl (.inr rfl) (by simp; omega) hfl) ?_;simp (disch := omega) only [hc, Fp, go_sem];have hp := Aam l x.id;refine Aa (A1q (l.map Bp) (Bp x) (Fx l x.id) (by simp; omega) (by simp; omega) (fun c hc => by obtain ⟨y, _, rfl⟩ := List.mem_map.1 hc; exact Dp y) hc (by decide) (by decide) (by decide) (by decide) rfl rfl) ?_;simp (disch := omega) only [go_sem];simp [Oe, List.map_take, List.map_drop]
def A9 (v : Vc) (r : Int) (q : Nat) : Vc := if 1 ≤ r ∧ r ≤ 8 then Ea v (r - 1).toNat (max (v (r - 1).toNat) q) else v
set_option maxHeartbeats 1000000 in
theorem Aaq (v : Vc) (r : Int) (q : Nat) {h d} : FunOk Tryz.prog 105 [.vec 8 (vE v), .vec 2 [.i .i64 r, .i .u32 q]] h d (.vec 8 (vE (A9 v r q))) [] := by
 refine Ao Af fn105 (by simp) rfl rfl fun F => ?_;by_cases h1 : 1 ≤ r
 · by_cases h2 : r ≤ 8
   · have e : A9 v r q = Ea v (r - 1).toNat (max (v (r - 1).toNat) q) := by unfold A9; rw [if_pos ⟨h1, h2⟩]
     obtain ⟨k, rfl⟩ : ∃ k : Nat, r = (k : Int) + 1 := ⟨(r - 1).toNat, by omega⟩
     have ek : ((k : Int) + 1 - 1) = (k : Int) := by omega
     rw [ek, Int.toNat_natCast] at e;rw [e];simp (disch := omega) only [ir105, ek, go_sem]
   · have e : A9 v r q = v := by unfold A9; rw [if_neg (by omega)]
     rw [e];simp (disch := omega) only [ir105, go_sem]
 · have e : A9 v r q = v := by unfold A9; rw [if_neg (by omega)]
   rw [e];simp (disch := omega) only [ir105, go_sem]
def Ug (a b : Vc) (k : Nat) : FS := mk [(6, .pv (.i .i64 k)), (5, .p 5 0), (4, .p 4 0), (3, .p 3 0), (2, .p 2 0)] [(2, some (.var (.vec 8 (vE a)))), (3, some (.var (.vec 8 (vE b)))), (5, some (.var (.vec 8 (vE fun i => if i < k then Cn a b i else 0)))), (4, some (.var (.vec 8 (vE fun _ => 0))))]
theorem Ul (a b : Vc) {h d} : FunOk Tryz.prog 102 [.vec 8 (vE a), .vec 8 (vE b)] h d (.vec 8 (vE (Cn a b))) [] := by
 refine Ao Af fn102 (by simp) rfl rfl fun F => ?_;simp (disch := omega) only [ir102, go_sem];refine A1 Af (Ug a b) (fun k => k ≤ 8) (fun k => 8 - k) 0 (by simp) (Aj ?_ ?_) fun k hk => ?_
 · simp (disch := omega) only [go_sem]
 · simp (disch := omega) only [Zu, go_sem]
 by_cases hlt : k < 8
 · by_cases hc : a k < b k
   · simp (disch := omega) only [Ug, go_sem];refine Ad (k + 1) _ _ rfl (by omega) (by omega) ?_ ?_
     · simp (disch := omega) only [go_sem]
     · simp (disch := omega) only [go_sem];exact N3 (K9 fun i hi => by simp only [Ea, Cn]; grind)
   · simp (disch := omega) only [Ug, go_sem];refine Ad (k + 1) _ _ rfl (by omega) (by omega) ?_ ?_
     · simp (disch := omega) only [go_sem]
     · simp (disch := omega) only [go_sem];exact N3 (K9 fun i hi => by simp only [Ea, Cn]; grind)
 · simp (disch := omega) only [Ug, Ae6, go_sem]
def Qd (r : Int) (q : Nat) : Vc := fun i => if (i : Int) + 1 = r then q else 0
def Z3 (r : Int) (q k : Nat) : FS := mk [(4, .pv (.i .i64 k)), (3, .p 3 0), (2, .p 2 0), (1, .p 1 0)] [(1, some (.var (.vec 2 [.i .i64 r, .i .u32 q]))), (3, some (.var (.vec 8 (vE fun i => if i < k then Qd r q i else 0)))), (2, some (.var (.vec 8 (vE fun _ => 0))))]
theorem A1p (r : Int) (q : Nat) {h d} : FunOk Tryz.prog 103 [.vec 2 [.i .i64 r, .i .u32 q]] h d (.vec 8 (vE (Qd r q))) [] := by
 refine Ao Af fn103 (by simp) rfl rfl fun F => ?_;simp (disch := omega) only [ir103, go_sem];refine A1 Af (Z3 r q) (fun k => k ≤ 8) (fun k => 8 - k) 0 (by simp) (Aj ?_ ?_) fun k hk => ?_
 · simp (disch := omega) only [go_sem]
 · simp (disch := omega) only [Zu, go_sem]
 by_cases hlt : k < 8
 · by_cases hc : (k : Int) + 1 = r
   · simp (disch := omega) only [Z3, hc, go_sem];refine Ad (k + 1) _ _ rfl (by omega) (by omega) ?_ ?_
     · simp (disch := omega) only [go_sem]
     · simp (disch := omega) only [go_sem];exact N3 (K9 fun i hi => by simp only [Ea, Qd]; grind)
   · simp (disch := omega) only [Z3, hc, go_sem];refine Ad (k + 1) _ _ rfl (by omega) (by omega) ?_ ?_
     · simp (disch := omega) only [go_sem]
     · simp (disch := omega) only [go_sem];exact N3 (K9 fun i hi => by simp only [Ea, Qd]; grind)
 · simp (disch := omega) only [Z3, Ae6, go_sem]
theorem Uk (v : Vc) (r : Int) (q : Nat) {h d} : FunOk Tryz.prog 62 [.vec 8 (vE v), .vec 2 [.i .i64 r, .i .u32 q]] h d (.vec 8 (vE (Cn v (Qd r q)))) [] := by
 refine Ao Af fn62 (by simp) rfl rfl fun F => ?_;simp (disch := omega) only [ir62, go_sem];refine Aa (A1p _ _) ?_;simp (disch := omega) only [go_sem];refine Aa (Ul _ _) ?_;simp (disch := omega) only [go_sem]
theorem Ab3 (v : Vc) (r : Int) (q : Nat) : ∀ i, i < 8 → A9 v r q i = Cn v (Qd r q) i := by
 intro i hi;unfold A9;split
 · simp only [Ea, Cn, Qd]; grind
 · simp only [Cn, Qd]; grind
theorem Ab6 (a b c : Vc) : Cn (Cn a b) c = Cn a (Cn b c) := funext fun i => Nat.max_assoc _ _ _
theorem Ae4 (a : Vc) : Cn a a = a := funext fun i => Nat.max_self _
def A1l (b : Bn) : Vc := fun i => if 1 ≤ b.1 ∧ b.1 ≤ 8 ∧ (i : Int) + 1 = b.1 then b.2 else 0
theorem Ab4 (v : Vc) (b : Bn) : A9 v b.1 b.2 = Cn v (A1l b) := by
 funext i;unfold A9 Cn A1l;by_cases h : 1 ≤ b.1 ∧ b.1 ≤ 8
 · rw [if_pos h];unfold Ea;by_cases e : i = (b.1 - 1).toNat
   · rw [if_pos e, if_pos (by omega), e]
   · rw [if_neg e, if_neg (by omega)]; simp
 · rw [if_neg h, if_neg (by omega)]; simp
def Af9 (x y : Ent) : Ent := { x with gone := Cn x.gone y.gone }
theorem Yq {l : List Ent} {i : Bn} {f : Ent → Ent} (h : ∀ y ∈ l, y.id ≠ i) : T7 l i f = l := by
 unfold T7;have e1 : ∀ z ∈ l, (if z.id = i then f z else z) = id z := fun z hz => by rw [if_neg (h z hz)]; rfl
 rw [List.map_congr_left e1, List.map_id]
def Afu (l : List Ent) (x : Ent) : List Ent := if Qp l x.id = true then T7 l x.id (fun y => Af9 y x) else Oe l x
def Fa : List Ent → Ent → Bool → List Ent
 | [], x, put => if put = true then [] else [x]
 | y :: l, x, put => if y.id = x.id then Af9 y x :: Fa l x true else if put = false ∧ Hz x.id y.id = true then x :: y :: Fa l x true else y :: Fa l x put
theorem O6 : ∀ {l : List Ent} {x : Ent}, (∀ y ∈ l, y.id ≠ x.id) → Fa l x true = l
 | [], x, _ => by simp [Fa]
 | y :: l, x, h => by
   simp only [Fa];rw [if_neg (h y List.mem_cons_self), if_neg (by simp), O6 fun z hz => h z (List.mem_cons_of_mem _ hz)]
theorem Arg (y : Ent) (l : List Ent) (i : Bn) (h : y.id ≠ i) : Qp (y :: l) i = Qp l i := by unfold Qp; simp only [Hf]; rw [if_neg h]
theorem Ai7 {l : List Ent} {i : Bn} : Qp l i = false ↔ Hf l i = none := by unfold Qp; cases Hf l i <;> simp
theorem A7h {l : List Ent} {i : Bn} : Qp l i = true ↔ ∃ x, Hf l i = some x := by unfold Qp; cases Hf l i <;> simp
theorem Ye : ∀ {l : List Ent} {x : Ent}, Dq l → Fa l x false = Afu l x
 | [], x, _ => by simp [Fa, Afu, Qp, Hf, Oe, Fx]
 | y :: l, x, hs => by
   obtain ⟨h1, h2⟩ := List.pairwise_cons.1 hs;simp only [Fa];by_cases e : y.id = x.id
   · have hne : ∀ z ∈ l, z.id ≠ x.id := fun z hz ez => F4 (by have := h1 z hz; rwa [e, ez] at this);rw [if_pos e, O6 hne];have : Qp (y :: l) x.id = true := by unfold Qp; simp [Hf, e]
     unfold Afu;rw [if_pos this];show _ = List.map _ (y :: l);rw [List.map_cons, if_pos e];congr 1;exact (Yq hne).symm
   · rw [if_neg e];by_cases hl : Hz x.id y.id = true
     · have hne : ∀ z ∈ l, z.id ≠ x.id := fun z hz ez => F4 (by have := Gz hl (h1 z hz); rwa [ez] at this);rw [if_pos (by simp [hl]), O6 hne];have : Qp (y :: l) x.id = false := Ai7.2 (Fz.2 fun z hz => by
        rcases List.mem_cons.1 hz with rfl | hz
        · exact e
        · exact hne z hz)
       unfold Afu;rw [if_neg (by rw [this]; simp), Sr, if_neg (M4 hl)]
     · rw [if_neg fun h => hl h.2, Ye h2];unfold Afu;rw [Arg y l _ e];split
       · simp [T7, e]
       · rw [Sr, if_pos (J6 hl fun q => e q.symm)]
def M2 (b : Bn) (y : Ent) : Ent := { y with gone := Cn y.gone (A1l b) }
theorem Arb (b : Bn) (y : Ent) : (M2 b y).id = y.id := rfl
def killL (l : List Ent) (i b : Bn) : List Ent := T7 l i (M2 b)
theorem Akd {l : List Ent} (hs : Dq l) (i b : Bn) : Dq (killL l i b) := Aoj (Arb b) hs i
theorem Awt (l : List Ent) (i : Bn) (f : Ent → Ent) : (T7 l i f).length = l.length := by simp [T7]
theorem A7g {l : List Ent} (hs : Dq l) {i : Bn} (h : Qp l i = true) : ∃ y, l[Fx l i]? = some y ∧ Hf l i = some y := by
 obtain ⟨x, hx⟩ := A7h.1 h;refine ⟨x, ?_, hx⟩;have := Qh hs i;rw [hx] at this;cases h1 : l[Fx l i]? with
 | none => rw [h1] at this; cases this
 | some y =>
   rw [h1] at this;simp only at this;split at this
   · cases this; rfl
   · cases this
set_option maxHeartbeats 1000000 in
theorem Ain {a : SV} {f : Bool} {l : List Ent} (i b : Bn) {h d} (hx : C2 h [a, .vec 2 [.i .i64 i.1, .i .u32 i.2], .vec 2 [.i .i64 b.1, .i .u32 b.2]] = [.pv (.sl f 15 (l.map Bp)), .vec 2 [.i .i64 i.1, .i .u32 i.2], .vec 2 [.i .i64 b.1, .i .u32 b.2]]) (hl : Bf [a, .vec 2 [.i .i64 i.1, .i .u32 i.2], .vec 2 [.i .i64 b.1, .i .u32 b.2]] = true) (hs : Dq l) (hn : l.length ≤ 1000) :
 FunOk Tryz.prog 158 [a, .vec 2 [.i .i64 i.1, .i .u32 i.2], .vec 2 [.i .i64 b.1, .i .u32 b.2]] h d (.os d) [.new d (.row 15 ((killL l i b).map Bp))] := by
 refine Abe Af fn158 (by simp) hl (.inr (Jd _)) fun F => ?_;rw [hx];have hfl := Jd l;simp (disch := omega) only [ir158, go_sem];refine Aa (We (es := l.map Bp) rfl rfl (.inr rfl) (by simp; omega) hfl) ?_;simp (disch := omega) only [go_sem];refine Aa (Azk (l := l) i rfl rfl hs hn) ?_;by_cases hi : Qp l i = true
 · obtain ⟨y, h1, h2⟩ := A7g hs hi;have hp : Fx l i < l.length := (List.getElem?_eq_some_iff.1 h1).1;have he : (l.map Bp)[Fx l i]? = some (Bp y) := by rw [List.getElem?_map, h1]; rfl
   have hg : (l.map Bp).getD (Fx l i) [] = Bp y := by rw [List.getD_eq_getElem?_getD, he]; rfl
   have hw := Gw y (A9 y.gone b.1 b.2);have e : (l.map Bp).set (Fx l i) (Bp { y with gone := A9 y.gone b.1 b.2 }) = (killL l i b).map Bp := by
    rw [Ab4, ← List.map_set];congr 1;exact Avm hs (f := M2 b) h2
   have hv := Bi (A9 y.gone b.1 b.2);simp (disch := omega) only [hi, List.length_map, he, Ia, go_sem];refine Aa (Aaq _ _ _) ?_;simp (disch := omega) only [hg, hw, e, List.length_map, go_sem]
 · have hi' : Qp l i = false := by simpa using hi
   have e : killL l i b = l := Yq (Fz.1 (Ai7.1 hi'));simp (disch := omega) only [hi', e, go_sem]
theorem Bm (a : Bn) : Ei [K1.int .i64, K1.int .u32] [.i .i64 a.1, .i .u32 a.2] = True := eq_true rfl
theorem Fh {a b : Bn} (h : a = b) : peq [.i .i64 a.1, .i .u32 a.2] [.i .i64 b.1, .i .u32 b.2] = true := by subst h; simp [peq]
theorem E7 {a b : Bn} (h : a ≠ b) : peq [.i .i64 a.1, .i .u32 a.2] [.i .i64 b.1, .i .u32 b.2] = false := Hy fun e => h (Prod.ext e.1 e.2)
def R1 (f : Bool) (l : List Ent) (x : Ent) (p : Nat × List Ent × Bool) : FS := mk [(7, .pv (.i .i64 p.1)), (6, .pv (.b p.2.2)), (5, .os 40), (3, .p 3 0), (0, .pv (.sl f 15 (l.map Bp)))] [(40, some (.row 15 (p.2.1.map Bp))), (3, some (.var (.vec 15 (Bp x))))]
set_option maxHeartbeats 2000000 in
theorem Aar {a : SV} {f : Bool} {l : List Ent} (x : Ent) {h d} (hx : C2 h [a, .vec 15 (Bp x)] = [.pv (.sl f 15 (l.map Bp)), .vec 15 (Bp x)]) (hl : Bf [a, .vec 15 (Bp x)] = true) (hn : l.length ≤ 1000) :
 FunOk Tryz.prog 100 [a, .vec 15 (Bp x)] h d (.os d) [.new d (.row 15 ((Fa l x false).map Bp))] := by
 refine Abe Af fn100 (by simp) hl (.inr (Jd _)) fun F => ?_;rw [hx];have hcx := Dp x;simp (disch := omega) only [ir100, List.length_map, go_sem];refine A1 Af (R1 f l x) (fun p => p.1 ≤ l.length ∧ p.2.1.length ≤ 2 * p.1 ∧ Fa l x false = p.2.1 ++ Fa (l.drop p.1) x p.2.2) (fun p => l.length - p.1) (0, [], false) ⟨Nat.zero_le _, Nat.le_refl _, rfl⟩ (Rp 5 40 15 rfl (by omega) (Aj ?_ ?_)) fun p hp => ?_
 · (try simp only [Ch, Cg, Cf, Ce, Cd, Cc, Cb, Ca]); simp (disch := omega) only [go_sem]
 · (try simp only [Ch, Cg, Cf, Ce, Cd, Cc, Cb, Ca]); simp (disch := omega) only [go_sem]
   rfl
 obtain ⟨k, out, put⟩ := p;obtain ⟨p1, p2, p3⟩ := hp;simp only at p1 p2 p3;by_cases hlt : k < l.length
 · have hd : l.drop k = l[k] :: l.drop (k + 1) := List.drop_eq_getElem_cons hlt;have he : (l.map Bp)[k]? = some (Bp l[k]) := by simp [hlt]
   rw [hd] at p3;generalize l[k] = y at *;have hcy := Dp y;simp only [Fa] at p3;by_cases hid : y.id = x.id
   · rw [if_pos hid] at p3;have hp := Fh hid;have hw := Gw y (Cn y.gone x.gone);have hv := Bi (Cn y.gone x.gone);have hm : ({ y with gone := Cn y.gone x.gone } : Ent) = Af9 y x := rfl;have hcm := Dp (Af9 y x);simp (disch := omega) only [R1, List.length_map, he, Di, Bm, hp, Fp, Ia, hcy, go_sem];refine Aa (Ul _ _) ?_;simp (disch := omega) only [hw, hm, Fp, hcy, hcm, hv, List.length_map, go_sem];refine ⟨(k + 1, out ++ [Af9 y x], true), ⟨by show k + 1 ≤ _; omega, by show List.length (out ++ [Af9 y x]) ≤ 2 * (k + 1); simp; omega, by rw [p3]; show _ = (out ++ [Af9 y x]) ++ _; simp⟩, by show l.length - (k + 1) < l.length - k; omega, D6 36 40 (by decide) rfl (Aj ?_ ?_)⟩
     · (try simp only [Ch, Cg, Cf, Ce, Cd, Cc, Cb, Ca]); simp (disch := omega) only [go_sem]
     · (try simp only [Ch, Cg, Cf, Ce, Cd, Cc, Cb, Ca]); simp (disch := omega) only [go_sem]
       simp
   · rw [if_neg hid] at p3;have hp := E7 hid;by_cases hput : put = true
     · subst hput;rw [if_neg (by simp)] at p3;simp (disch := omega) only [R1, List.length_map, he, Di, Bm, hp, Fp, hcy, go_sem];refine ⟨(k + 1, out ++ [y], true), ⟨by show k + 1 ≤ _; omega, by show List.length (out ++ [y]) ≤ 2 * (k + 1); simp; omega, by rw [p3]; show _ = (out ++ [y]) ++ _; simp⟩, by show l.length - (k + 1) < l.length - k; omega, D6 59 40 (by decide) rfl (Aj ?_ ?_)⟩
       · (try simp only [Ch, Cg, Cf, Ce, Cd, Cc, Cb, Ca]); simp (disch := omega) only [go_sem]
       · (try simp only [Ch, Cg, Cf, Ce, Cd, Cc, Cb, Ca]); simp (disch := omega) only [go_sem]
         simp
     · obtain rfl : put = false := by simpa using hput
       simp (disch := omega) only [R1, List.length_map, he, Di, Bm, hp, Fp, hcy, go_sem];refine Aa (Fy _ _ _ _) ?_;by_cases hl : Hz x.id y.id = true
       · rw [if_pos ⟨rfl, hl⟩] at p3;have hl' : Ck x.id.1 x.id.2 y.id.1 y.id.2 = true := hl;simp (disch := omega) only [hl', List.length_map, he, Fp, hcy, hcx, go_sem];refine ⟨by simp; omega, (k + 1, out ++ [x, y], true), ⟨by show k + 1 ≤ _; omega, by show List.length (out ++ [x, y]) ≤ 2 * (k + 1); simp; omega, by rw [p3]; show _ = (out ++ [x, y]) ++ _; simp⟩, by show l.length - (k + 1) < l.length - k; omega, D6 59 40 (by decide) rfl (Aj ?_ ?_)⟩
         · (try simp only [Ch, Cg, Cf, Ce, Cd, Cc, Cb, Ca]); simp (disch := omega) only [go_sem]
         · (try simp only [Ch, Cg, Cf, Ce, Cd, Cc, Cb, Ca]); simp (disch := omega) only [go_sem]
           simp
       · rw [if_neg fun q => hl q.2] at p3;have hl' : Ck x.id.1 x.id.2 y.id.1 y.id.2 = false := by simpa using hl
         simp (disch := omega) only [hl', List.length_map, he, Fp, hcy, go_sem];refine ⟨(k + 1, out ++ [y], false), ⟨by show k + 1 ≤ _; omega, by show List.length (out ++ [y]) ≤ 2 * (k + 1); simp; omega, by rw [p3]; show _ = (out ++ [y]) ++ _; simp⟩, by show l.length - (k + 1) < l.length - k; omega, D6 59 40 (by decide) rfl (Aj ?_ ?_)⟩
         · (try simp only [Ch, Cg, Cf, Ce, Cd, Cc, Cb, Ca]); simp (disch := omega) only [go_sem]
         · (try simp only [Ch, Cg, Cf, Ce, Cd, Cc, Cb, Ca]); simp (disch := omega) only [go_sem]
           simp
 · obtain rfl : k = l.length := by omega
   rw [List.drop_length] at p3;simp only [Fa] at p3;by_cases hput : put = true
   · subst hput;simp only [if_true, List.append_nil] at p3;simp (disch := omega) only [R1, List.length_map, p3, go_sem]
   · obtain rfl : put = false := by simpa using hput
     simp only [Bool.false_eq_true, if_false] at p3;simp (disch := omega) only [R1, List.length_map, Fp, hcx, go_sem];rw [p3]; simp
structure SlI where
 f : Bool
 z : Nat
 l : List Bn
def SlI.pv (g : SlI) : PV := .sl g.f g.z (g.l.map Ed)
def SlI.ok (g : SlI) : Prop := g.l = [] ∨ g.z = 2
def SlI.nil : SlI := ⟨true, 0, []⟩
structure Evt where
 rep : Int
 seq : Nat
 dep : Vc
 kind : Int
 orep : Int
 oseq : Nat
 drep : Int
 dseq : Nat
 name : List UInt8
 gone : SlI
 base : SlI
 off : Int
 data : List UInt8
 ward : Int
def Be (e : Evt) : List PV := [.i .i64 e.rep, .i .u32 e.seq] ++ vE e.dep ++ [.i .i64 e.kind, .i .i64 e.orep, .i .u32 e.oseq, .i .i64 e.drep, .i .u32 e.dseq, .s e.name, e.gone.pv, e.base.pv, .i .i64 e.off, .s e.data, .i .i64 e.ward]
theorem Ac (e : Evt) : (Be e).length = 21 := by simp [Be, vE, Cm]
theorem Da (e : Evt) (K : KK) : LoadK (some (Be e)) 0 1 false K = K (.pv (.i .i64 e.rep)) [] := by
 simp only [LoadK, Hg, eq_iff_iff];exact ⟨fun h => h.2.2, fun h => ⟨by simp [Be, vE, Cm], .inr trivial, h⟩⟩
theorem Fo (e : Evt) (K : KK) : LoadK (some (Be e)) 1 1 false K = K (.pv (.i .u32 e.seq)) [] := by
 simp only [LoadK, Hg, eq_iff_iff];exact ⟨fun h => h.2.2, fun h => ⟨by simp [Be, vE, Cm], .inr trivial, h⟩⟩
theorem Ae (e : Evt) (K : KK) : LoadK (some (Be e)) 10 1 false K = K (.pv (.i .i64 e.kind)) [] := by
 simp only [LoadK, Hg, eq_iff_iff];exact ⟨fun h => h.2.2, fun h => ⟨by simp [Be, vE, Cm], .inr trivial, h⟩⟩
theorem Dr (e : Evt) (K : KK) : LoadK (some (Be e)) 15 1 false K = K (.pv (.s e.name)) [] := by
 simp only [LoadK, Hg, eq_iff_iff];exact ⟨fun h => h.2.2, fun h => ⟨by simp [Be, vE, Cm], .inr trivial, h⟩⟩
theorem F3 (e : Evt) (K : KK) : LoadK (some (Be e)) 16 1 false K = K (.pv (e.gone.pv)) [] := by
 simp only [LoadK, Hg, eq_iff_iff];exact ⟨fun h => h.2.2, fun h => ⟨by simp [Be, vE, Cm], .inr trivial, h⟩⟩
theorem Fb (e : Evt) (K : KK) : LoadK (some (Be e)) 17 1 false K = K (.pv (e.base.pv)) [] := by
 simp only [LoadK, Hg, eq_iff_iff];exact ⟨fun h => h.2.2, fun h => ⟨by simp [Be, vE, Cm], .inr trivial, h⟩⟩
theorem I6 (e : Evt) (K : KK) : LoadK (some (Be e)) 18 1 false K = K (.pv (.i .i64 e.off)) [] := by
 simp only [LoadK, Hg, eq_iff_iff];exact ⟨fun h => h.2.2, fun h => ⟨by simp [Be, vE, Cm], .inr trivial, h⟩⟩
theorem G5 (e : Evt) (K : KK) : LoadK (some (Be e)) 19 1 false K = K (.pv (.s e.data)) [] := by
 simp only [LoadK, Hg, eq_iff_iff];exact ⟨fun h => h.2.2, fun h => ⟨by simp [Be, vE, Cm], .inr trivial, h⟩⟩
theorem Up (e : Evt) (K : KK) : LoadK (some (Be e)) 20 1 false K = K (.pv (.i .i64 e.ward)) [] := by
 simp only [LoadK, Hg, eq_iff_iff];exact ⟨fun h => h.2.2, fun h => ⟨by simp [Be, vE, Cm], .inr trivial, h⟩⟩
theorem A5 (e : Evt) (K : KK) : LoadK (some (Be e)) 0 2 true K = K (.vec 2 ([.i .i64 e.rep, .i .u32 e.seq])) [] := by
 simp only [LoadK, Hg, eq_iff_iff];exact ⟨fun h => h.2.2, fun h => ⟨by simp [Be, vE, Cm], .inl trivial, h⟩⟩
theorem E4 (e : Evt) (K : KK) : LoadK (some (Be e)) 2 8 true K = K (.vec 8 (vE e.dep)) [] := by
 simp only [LoadK, Hg, eq_iff_iff];exact ⟨fun h => h.2.2, fun h => ⟨by simp [Be, vE, Cm], .inl trivial, h⟩⟩
theorem A7 (e : Evt) (K : KK) : LoadK (some (Be e)) 11 2 true K = K (.vec 2 ([.i .i64 e.orep, .i .u32 e.oseq])) [] := by
 simp only [LoadK, Hg, eq_iff_iff];exact ⟨fun h => h.2.2, fun h => ⟨by simp [Be, vE, Cm], .inl trivial, h⟩⟩
theorem Dh (e : Evt) (K : KK) : LoadK (some (Be e)) 13 2 true K = K (.vec 2 ([.i .i64 e.drep, .i .u32 e.dseq])) [] := by
 simp only [LoadK, Hg, eq_iff_iff];exact ⟨fun h => h.2.2, fun h => ⟨by simp [Be, vE, Cm], .inl trivial, h⟩⟩
theorem Bh (e : Evt) (K : KK) : LoadK (some (Be e)) 0 21 true K = K (.vec 21 (Be e)) [] := Wm (Ac e) K
theorem Ho (e : Evt) {j : Nat} (h : j < 8) (K : KK) : LoadK (some (Be e)) (2 + j) 1 false K = K (.pv (.i .u32 (e.dep j))) [] := by
 have : j = 0 ∨ j = 1 ∨ j = 2 ∨ j = 3 ∨ j = 4 ∨ j = 5 ∨ j = 6 ∨ j = 7 := by omega
 simp only [LoadK, Hg, eq_iff_iff];rcases this with rfl | rfl | rfl | rfl | rfl | rfl | rfl | rfl <;> exact ⟨fun h => h.2.2, fun h => ⟨by simp [Be, vE, Cm], .inr trivial, h⟩⟩
theorem A0i (e : Evt) (r : Int) (q : Nat) : splice (Be e) 11 [.i .i64 r, .i .u32 q] = Be { e with orep := r, oseq := q } := rfl
theorem A0j (e : Evt) (r : Int) (q : Nat) : splice (Be e) 13 [.i .i64 r, .i .u32 q] = Be { e with drep := r, dseq := q } := rfl
theorem Jx (e : Evt) (s : List UInt8) : splice (Be e) 15 [.s s] = Be { e with name := s } := rfl
theorem Avd (e : Evt) (f : Bool) (z : Nat) (l : List Bn) : splice (Be e) 16 [.sl f z (l.map Ed)] = Be { e with gone := ⟨f, z, l⟩ } := rfl
theorem Ave (e : Evt) (f : Bool) (z : Nat) (l : List Bn) : splice (Be e) 17 [.sl f z (l.map Ed)] = Be { e with base := ⟨f, z, l⟩ } := rfl
theorem Mm (e : Evt) (n : Int) : splice (Be e) 18 [.i .i64 n] = Be { e with off := n } := rfl
theorem Jz (e : Evt) (s : List UInt8) : splice (Be e) 19 [.s s] = Be { e with data := s } := rfl
theorem Jv (e : Evt) (n : Int) : splice (Be e) 20 [.i .i64 n] = Be { e with ward := n } := rfl
theorem Jw (e : Evt) : splice (Be e) 11 [.i .i64 0, .i .u32 0] = Be { e with orep := 0, oseq := 0 } := A0i e 0 0
theorem Jy (e : Evt) : splice (Be e) 13 [.i .i64 0, .i .u32 0] = Be { e with drep := 0, dseq := 0 } := A0j e 0 0
theorem H2 (e : Evt) : splice (Be e) 16 [.sl true 0 []] = Be { e with gone := .nil } := Avd e true 0 []
theorem H3 (e : Evt) : splice (Be e) 17 [.sl true 0 []] = Be { e with base := .nil } := Ave e true 0 []
theorem Eu (e e' : Evt) : splice (Be e) 0 (Be e') = Be e' := rfl
attribute [go_sem] Da Fo Ae Dr F3 Fb I6 G5 Up A5 E4 A7 Dh Bh Ac SlI.pv Dn List.length_map
def Cq (e : Evt) : Evt :=
 if e.kind = 1 ∨ e.kind = 2 then { e with drep := 0, dseq := 0, name := [] }
 else if e.kind = 3 then { e with orep := 0, oseq := 0, base := .nil, off := 0, data := [] }
 else if e.kind = 4 then { e with orep := 0, oseq := 0, base := .nil, off := 0 }
 else if e.kind = 5 then { e with orep := 0, oseq := 0, base := .nil, data := [] }
 else if e.kind = 6 then { e with orep := 0, oseq := 0, gone := .nil }
 else if e.kind = 7 then { e with orep := 0, oseq := 0, gone := .nil, drep := 0, dseq := 0, name := [] }
 else if e.kind = 8 then { e with ward := 0 }
 else e
set_option maxHeartbeats 4000000 in
theorem A1v (e : Evt) {h d} : FunOk Tryz.prog 112 [.vec 21 (Be e)] h d (.vec 21 (Be (Cq e))) [] := by
 refine Ao Af fn112 (by simp) rfl rfl fun F => ?_;have hl := Ac e;by_cases h1 : e.kind = 1
 · have eb : Cq e = { e with drep := 0, dseq := 0, name := [] } := by simp [Cq, h1]
   simp (disch := omega) only [ir112, Ae, h1, Jy, Jx, Jw, H3, H2, Mm, Jz, Jv, Bh, Ac, eb, go_sem]
 by_cases h2 : e.kind = 2
 · have eb : Cq e = { e with drep := 0, dseq := 0, name := [] } := by simp [Cq, h2]
   simp (disch := omega) only [ir112, Ae, h2, Jy, Jx, Jw, H3, H2, Mm, Jz, Jv, Bh, Ac, eb, go_sem]
 by_cases h3 : e.kind = 3
 · have eb : Cq e = { e with orep := 0, oseq := 0, base := .nil, off := 0, data := [] } := by simp [Cq, h3]
   simp (disch := omega) only [ir112, Ae, h3, Jy, Jx, Jw, H3, H2, Mm, Jz, Jv, Bh, Ac, eb, go_sem]
 by_cases h4 : e.kind = 4
 · have eb : Cq e = { e with orep := 0, oseq := 0, base := .nil, off := 0 } := by simp [Cq, h4]
   simp (disch := omega) only [ir112, Ae, h4, Jy, Jx, Jw, H3, H2, Mm, Jz, Jv, Bh, Ac, eb, go_sem]
 by_cases h5 : e.kind = 5
 · have eb : Cq e = { e with orep := 0, oseq := 0, base := .nil, data := [] } := by simp [Cq, h5]
   simp (disch := omega) only [ir112, Ae, h5, Jy, Jx, Jw, H3, H2, Mm, Jz, Jv, Bh, Ac, eb, go_sem]
 by_cases h6 : e.kind = 6
 · have eb : Cq e = { e with orep := 0, oseq := 0, gone := .nil } := by simp [Cq, h6]
   simp (disch := omega) only [ir112, Ae, h6, Jy, Jx, Jw, H3, H2, Mm, Jz, Jv, Bh, Ac, eb, go_sem]
 by_cases h7 : e.kind = 7
 · have eb : Cq e = { e with orep := 0, oseq := 0, gone := .nil, drep := 0, dseq := 0, name := [] } := by simp [Cq, h7]
   simp (disch := omega) only [ir112, Ae, h7, Jy, Jx, Jw, H3, H2, Mm, Jz, Jv, Bh, Ac, eb, go_sem]
 by_cases h8 : e.kind = 8
 · have eb : Cq e = { e with ward := 0 } := by simp [Cq, h8]
   simp (disch := omega) only [ir112, Ae, h8, Jy, Jx, Jw, H3, H2, Mm, Jz, Jv, Bh, Ac, eb, go_sem]
 have eb : Cq e = e := by simp [Cq, h1, h2, h3, h4, h5, h6, h7, h8]
 simp (disch := omega) only [ir112, Ae, h1, h2, h3, h4, h5, h6, h7, h8, Bh, Ac, eb, go_sem]
end Go.Proofs.YthmjebkldgdeiaaGreat.Fw
namespace Go.Proofs.YthmjebkldgdeiaaGreat.Fw
open Go.RowKit Go.Proofs
def B0 (r : Int) (q : Nat) : Bool := decide (r = 0 ∧ q = 0)
theorem Sl (r : Int) (q : Nat) (K : KK) : LoadK (some [PV.i .i64 r, PV.i .u32 q]) 0 1 false K = K (.pv (.i .i64 r)) [] := Aa2 ..
theorem Sk (r : Int) (q : Nat) (K : KK) : LoadK (some [PV.i .i64 r, PV.i .u32 q]) 1 1 false K = K (.pv (.i .u32 q)) [] := by
 rw [Aiy]; exact Aa2 ..
theorem A0 (r : Int) (q : Nat) {h d} : FunOk Tryz.prog 117 [.vec 2 [.i .i64 r, .i .u32 q]] h d (.pv (.b (B0 r q))) [] := by
 refine Ao Af fn117 (by simp) rfl rfl fun F => ?_;by_cases h1 : r = 0
 · by_cases h2 : q = 0
   · have e : B0 r q = true := decide_eq_true ⟨h1, h2⟩;simp (disch := omega) only [ir117, Sl, Sk, h1, h2, e, Int.natCast_zero, go_sem];rw [← h1, ← h2, e]
   · have e : B0 r q = false := decide_eq_false (by omega);have h3 : ¬ (q : Int) = 0 := by omega
     simp (disch := omega) only [ir117, Sl, Sk, h3, e, h1, go_sem];rw [← h1, e]
 · have e : B0 r q = false := decide_eq_false (by omega);simp (disch := omega) only [ir117, Sl, Sk, h1, e, go_sem]
theorem Ag (r : Int) (q : Nat) : Ei [K1.int .i64, K1.int .u32] [.i .i64 r, .i .u32 q] = True := eq_true rfl
theorem Ar : Ei [K1.int .i64, K1.int .u32] [.i .i64 0, .i .u32 0] = True := eq_true rfl
theorem Aq (r : Int) (q : Nat) : peq [.i .i64 r, .i .u32 q] [.i .i64 0, .i .u32 0] = B0 r q := by
 by_cases h : r = 0 ∧ q = 0
 · rw [show B0 r q = true from decide_eq_true h];exact J3 (q' := 0) h
 · rw [show B0 r q = false from decide_eq_false h];exact Hy (q' := 0) h
def C1 (e : Evt) : Bool := B0 e.drep e.dseq || Bl e.dep e.drep e.dseq
theorem Aas (e : Evt) {h d} : FunOk Tryz.prog 114 [.vec 21 (Be e)] h d (.pv (.b (C1 e))) [] := by
 refine Ao Af fn114 (by simp) rfl rfl fun F => ?_;have hl := Ac e;cases hz : B0 e.drep e.dseq with
 | true =>
   have eb : C1 e = true := by simp [C1, hz]
   simp (disch := omega) only [ir114, Dh, Ac, Ag, Ar, Aq, hz, eb, go_sem]
 | false =>
   have eb : C1 e = Bl e.dep e.drep e.dseq := by simp [C1, hz]
   simp (disch := omega) only [ir114, Dh, E4, Ac, Ag, Ar, Aq, hz, eb, go_sem];refine Aa (Gq _ _ _) ?_;simp (disch := omega) only [go_sem]
def Cv (n : Int) : Bool := decide (0 ≤ n ∧ n ≤ 200)
theorem Wa (n : Int) {h d} : FunOk Tryz.prog 113 [.pv (.i .i64 n)] h d (.pv (.b (Cv n))) [] := by
 refine Ao Af fn113 (by simp) rfl rfl fun F => ?_;by_cases h1 : 0 ≤ n
 · have e : Cv n = decide (n ≤ 200) := decide_eq_decide.2 (by omega);simp (disch := omega) only [ir113, h1, e, go_sem]
 · have e : Cv n = false := decide_eq_false (by omega);simp (disch := omega) only [ir113, h1, e, go_sem]
def Aud (a : Vc) (l : List Bn) : Prop := ∀ i, (h : i < l.length) → Bl a l[i].1 l[i].2 = true ∧ (0 < i → Ck l[i - 1].1 l[i - 1].2 l[i].1 l[i].2 = true)
open Classical in
noncomputable def Gy (a : Vc) (l : List Bn) : Bool := decide (Aud a l)
theorem Aib {a : Vc} {l : List Bn} (h : Aud a l) : Gy a l = true := by simp [Gy, h]
theorem Uj {a : Vc} {l : List Bn} (h : ¬ Aud a l) : Gy a l = false := by simp [Gy, h]
theorem Ev (x : Bn) (K : KK) : LoadK (some (Ed x)) 0 2 true K = K (.vec 2 [.i .i64 x.1, .i .u32 x.2]) [] := Wm (by rfl) K
def Py (f : Bool) (z : Nat) (l : List Bn) (a : Vc) (k : Nat) : FS := mk [(15, .pv (.i .i64 k)), (14, .pv (.i .i64 l.length)), (13, .pv (.sl f z (l.map Ed))), (0, .pv (.sl f z (l.map Ed))), (5, .p 5 0)] [(5, some (.var (.vec 8 (vE a))))]
noncomputable def Eb (l : List Bn) (most : Int) (a : Vc) : Bool := decide ((l.length : Int) ≤ most) && Gy a l
theorem Yd {a : Vc} {l : List Bn} {k : Nat} (hk : ∀ i, (h : i < l.length) → i < k → Bl a l[i].1 l[i].2 = true ∧ (0 < i → Ck l[i - 1].1 l[i - 1].2 l[i].1 l[i].2 = true)) (hlt : k < l.length)
 (h1 : Bl a l[k].1 l[k].2 = true) (h2 : 0 < k → Ck l[k - 1].1 l[k - 1].2 l[k].1 l[k].2 = true) : ∀ i, (h : i < l.length) → i < k + 1 → Bl a l[i].1 l[i].2 = true ∧ (0 < i → Ck l[i - 1].1 l[i - 1].2 l[i].1 l[i].2 = true) := fun i h hi => by
 by_cases e : i = k
 · subst e; exact ⟨h1, h2⟩
 · exact hk i h (by omega)
set_option maxHeartbeats 2000000 in
theorem Ac9 {f : Bool} {z : Nat} {l : List Bn} {most : Int} {a : Vc} {h d} (hz : l = [] ∨ z = 2) (hn : l.length ≤ 1000) :
 FunOk Tryz.prog 116 [.pv (.sl f z (l.map Ed)), .pv (.i .i64 most), .vec 8 (vE a)] h d (.pv (.b (Eb l most a))) [] := by
 refine Ao Af fn116 (by simp) rfl rfl fun F => ?_;by_cases hm : most < (l.length : Int)
 · have eb : Eb l most a = false := by
    have : ¬ (l.length : Int) ≤ most := by omega
    simp [Eb, this]
   simp (disch := omega) only [ir116, List.length_map, hm, eb, go_sem]
 have eb : Eb l most a = Gy a l := by
  have : (l.length : Int) ≤ most := by omega
  simp [Eb, this]
 rw [eb];simp (disch := omega) only [ir116, List.length_map, hm, go_sem];refine A1 Af (Py f z l a) (fun k => k ≤ l.length ∧ ∀ i, (h : i < l.length) → i < k → Bl a l[i].1 l[i].2 = true ∧ (0 < i → Ck l[i - 1].1 l[i - 1].2 l[i].1 l[i].2 = true)) (fun k => l.length - k) 0 (by simp) (Aj ?_ ?_) fun k hk => ?_
 · simp (disch := omega) only [List.length_map, go_sem]
 · simp (disch := omega) only [go_sem]
 obtain ⟨hk1, hk2⟩ := hk;by_cases hlt : k < l.length
 · have hz2 : z = 2 := hz.resolve_left fun e => by subst e; simp at hlt
   subst hz2;have he : (l.map Ed)[k]? = some (Ed l[k]) := by simp [hlt]
   have hst := Yd hk2 hlt;by_cases hh : Bl a l[k].1 l[k].2 = true
   · by_cases h0 : k = 0
     · subst h0;have e0 : (l.map Ed)[0]? = some (Ed l[0]) := he;simp (disch := omega) only [Py, List.length_map, he, e0, Ev, Dn, Int.natCast_zero, go_sem];refine Aa (Gq _ _ _) ?_;simp (disch := omega) only [hh, Int.natCast_zero, go_sem];refine Ad (x := (0 : Nat)) (1 : Nat) _ _ rfl ⟨by omega, hst hh (by omega)⟩ (by omega) ?_ ?_
       · simp (disch := omega) only [go_sem]
       · simp (disch := omega) only [go_sem]
     · have hk' : k - 1 < l.length := by omega
       have he' : (l.map Ed)[k - 1]? = some (Ed l[k - 1]) := by simp [hk']
       have ek : ((k : Int) - 1).toNat = k - 1 := by omega
       have hpos : (0 : Int) < k := by omega
       by_cases hlt2 : Ck l[k - 1].1 l[k - 1].2 l[k].1 l[k].2 = true
       · simp (disch := omega) only [Py, List.length_map, he, he', ek, hpos, Ev, Dn, go_sem];refine Aa (Gq _ _ _) ?_;simp (disch := omega) only [hh, he, he', ek, hpos, Ev, List.length_map, go_sem];refine Aa (Mt _ _ _ _) ?_;simp (disch := omega) only [hlt2, go_sem];refine Ad (k + 1) _ _ rfl ⟨by omega, hst hh fun _ => hlt2⟩ (by omega) ?_ ?_
         · simp (disch := omega) only [go_sem]
         · simp (disch := omega) only [go_sem]
       · have hlt3 : Ck l[k - 1].1 l[k - 1].2 l[k].1 l[k].2 = false := by simpa using hlt2
         have er := Uj (a := a) (l := l) fun h => hlt2 ((h k hlt).2 (by omega));simp (disch := omega) only [Py, List.length_map, he, he', ek, hpos, Ev, Dn, go_sem];refine Aa (Gq _ _ _) ?_;simp (disch := omega) only [hh, he, he', ek, hpos, Ev, List.length_map, go_sem];refine Aa (Mt _ _ _ _) ?_;simp (disch := omega) only [hlt3, er, Py, go_sem]
   · have hh' : Bl a l[k].1 l[k].2 = false := by simpa using hh
     have er := Uj (a := a) (l := l) fun h => hh (h k hlt).1;simp (disch := omega) only [Py, List.length_map, he, Ev, Dn, go_sem];refine Aa (Gq _ _ _) ?_;simp (disch := omega) only [hh', er, Py, go_sem]
 · obtain rfl : k = l.length := by omega
   have er := Aib (a := a) (l := l) fun i h => hk2 i h h;simp (disch := omega) only [Py, List.length_map, er, Py, go_sem]
def Lc (f : Bool) (z : Nat) (l : List Bn) (a : Vc) (k : Nat) : FS := mk [(5, .pv (.i .i64 k)), (0, .pv (.sl f z (l.map Ed))), (3, .p 3 0)] [(3, some (.var (.vec 8 (vE a))))]
set_option maxHeartbeats 2000000 in
theorem Apn {f : Bool} {z : Nat} {l : List Bn} {a : Vc} {h d} (hz : l = [] ∨ z = 2) (hn : l.length ≤ 1000) :
 FunOk Tryz.prog 118 [.pv (.sl f z (l.map Ed)), .vec 8 (vE a)] h d (.pv (.b (Gy a l))) [] := by
 refine Ao Af fn118 (by simp) rfl rfl fun F => ?_;simp (disch := omega) only [ir118, List.length_map, go_sem];refine A1 Af (Lc f z l a) (fun k => k ≤ l.length ∧ ∀ i, (h : i < l.length) → i < k → Bl a l[i].1 l[i].2 = true ∧ (0 < i → Ck l[i - 1].1 l[i - 1].2 l[i].1 l[i].2 = true)) (fun k => l.length - k) 0 (by simp) (Aj ?_ ?_) fun k hk => ?_
 · simp (disch := omega) only [go_sem]
 · simp (disch := omega) only [go_sem]
 obtain ⟨hk1, hk2⟩ := hk;by_cases hlt : k < l.length
 · have hz2 : z = 2 := hz.resolve_left fun e => by subst e; simp at hlt
   subst hz2;have he : (l.map Ed)[k]? = some (Ed l[k]) := by simp [hlt]
   have hst := Yd hk2 hlt;by_cases hh : Bl a l[k].1 l[k].2 = true
   · by_cases h0 : k = 0
     · subst h0;have e0 : (l.map Ed)[0]? = some (Ed l[0]) := he;simp (disch := omega) only [Lc, List.length_map, he, e0, Ev, Dn, Int.natCast_zero, go_sem];refine Aa (Mv _ _ _) ?_;simp (disch := omega) only [hh, Int.natCast_zero, go_sem];refine Ad (x := (0 : Nat)) (1 : Nat) _ _ rfl ⟨by omega, hst hh (by omega)⟩ (by omega) ?_ ?_
       · simp (disch := omega) only [go_sem]
       · simp (disch := omega) only [go_sem]
     · have hk' : k - 1 < l.length := by omega
       have he' : (l.map Ed)[k - 1]? = some (Ed l[k - 1]) := by simp [hk']
       have ek : ((k : Int) - 1).toNat = k - 1 := by omega
       have hpos : (0 : Int) < k := by omega
       by_cases hlt2 : Ck l[k - 1].1 l[k - 1].2 l[k].1 l[k].2 = true
       · simp (disch := omega) only [Lc, List.length_map, he, he', ek, hpos, Ev, Dn, go_sem];refine Aa (Mv _ _ _) ?_;simp (disch := omega) only [hh, he, he', ek, hpos, Ev, List.length_map, go_sem];refine Aa (Fy _ _ _ _) ?_;simp (disch := omega) only [hlt2, go_sem];refine Ad (k + 1) _ _ rfl ⟨by omega, hst hh fun _ => hlt2⟩ (by omega) ?_ ?_
         · simp (disch := omega) only [go_sem]
         · simp (disch := omega) only [go_sem]
       · have hlt3 : Ck l[k - 1].1 l[k - 1].2 l[k].1 l[k].2 = false := by simpa using hlt2
         have er := Uj (a := a) (l := l) fun h => hlt2 ((h k hlt).2 (by omega));simp (disch := omega) only [Lc, List.length_map, he, he', ek, hpos, Ev, Dn, go_sem];refine Aa (Mv _ _ _) ?_;simp (disch := omega) only [hh, he, he', ek, hpos, Ev, List.length_map, go_sem];refine Aa (Fy _ _ _ _) ?_;simp (disch := omega) only [hlt3, er, Lc, go_sem]
   · have hh' : Bl a l[k].1 l[k].2 = false := by simpa using hh
     have er := Uj (a := a) (l := l) fun h => hh (h k hlt).1;simp (disch := omega) only [Lc, List.length_map, he, Ev, Dn, go_sem];refine Aa (Mv _ _ _) ?_;simp (disch := omega) only [hh', er, Lc, go_sem]
 · obtain rfl : k = l.length := by omega
   have er := Aib (a := a) (l := l) fun i h => hk2 i h h;simp (disch := omega) only [Lc, List.length_map, er, Lc, go_sem]
def Al (e : Evt) (o d g b f t w : Bool) : Bool := (o || B0 e.orep e.oseq) && ((d || (B0 e.drep e.dseq && decide (e.name = []))) && ((g || decide ((e.gone.l.length : Int) = 0)) && ((b || decide ((e.base.l.length : Int) = 0)) && ((f || decide (e.off = 0)) && ((t || decide (e.data = [])) && (w || decide (e.ward = 0)))))))
set_option maxHeartbeats 4000000 in
theorem Aik (e : Evt) {h d} : FunOk Tryz.prog 120 [.vec 21 (Be e), .pv (.b false), .pv (.b true), .pv (.b false), .pv (.b false), .pv (.b false), .pv (.b false), .pv (.b false)] h d (.pv (.b (Al e false true false false false false false))) [] := by
 refine Ao Af fn120 (by simp) rfl rfl fun F => ?_;have hl := Ac e;by_cases hz1' : B0 e.orep e.oseq = false
 · have hz1 := hz1';have eb : Al e false true false false false false false = false := by simp only [Al, hz1, go_sem, Bool.true_or]
   simp (disch := omega) only [ir120, Ac, hz1, eb, go_sem];refine Aa (A0 _ _) ?_;simp (disch := omega) only [Ac, hz1, eb, go_sem]
 have hz1 : B0 e.orep e.oseq = true := by simpa using hz1'
 by_cases hgo : (e.gone.l.length : Int) = 0;rotate_left
 · have eb : Al e false true false false false false false = false := by simp only [Al, hz1, hgo, go_sem, Bool.true_or]
   simp (disch := omega) only [ir120, Ac, hz1, hgo, eb, go_sem];refine Aa (A0 _ _) ?_;simp (disch := omega) only [Ac, hz1, hgo, eb, go_sem]
 by_cases hba : (e.base.l.length : Int) = 0;rotate_left
 · have eb : Al e false true false false false false false = false := by simp only [Al, hz1, hgo, hba, go_sem, Bool.true_or]
   simp (disch := omega) only [ir120, Ac, hz1, hgo, hba, eb, go_sem];refine Aa (A0 _ _) ?_;simp (disch := omega) only [Ac, hz1, hgo, hba, eb, go_sem]
 by_cases hof : e.off = 0;rotate_left
 · have eb : Al e false true false false false false false = false := by simp only [Al, hz1, hgo, hba, hof, go_sem, Bool.true_or]
   simp (disch := omega) only [ir120, Ac, hz1, hgo, hba, hof, eb, go_sem];refine Aa (A0 _ _) ?_;simp (disch := omega) only [Ac, hz1, hgo, hba, hof, eb, go_sem]
 by_cases hda : e.data = [];rotate_left
 · have eb : Al e false true false false false false false = false := by simp only [Al, hz1, hgo, hba, hof, hda, go_sem, Bool.true_or]
   simp (disch := omega) only [ir120, Ac, hz1, hgo, hba, hof, hda, eb, go_sem];refine Aa (A0 _ _) ?_;simp (disch := omega) only [Ac, hz1, hgo, hba, hof, hda, eb, go_sem]
 by_cases hwa : e.ward = 0;rotate_left
 · have eb : Al e false true false false false false false = false := by simp only [Al, hz1, hgo, hba, hof, hda, hwa, go_sem, Bool.true_or]
   simp (disch := omega) only [ir120, Ac, hz1, hgo, hba, hof, hda, hwa, eb, go_sem];refine Aa (A0 _ _) ?_;simp (disch := omega) only [Ac, hz1, hgo, hba, hof, hda, hwa, eb, go_sem]
 have eb : Al e false true false false false false false = true := by simp only [Al, hz1, hgo, hba, hof, hda, hwa, go_sem, Bool.true_or]
 simp (disch := omega) only [ir120, Ac, hz1, hgo, hba, hof, hda, hwa, eb, go_sem];refine Aa (A0 _ _) ?_;simp (disch := omega) only [Ac, hz1, hgo, hba, hof, hda, hwa, eb, go_sem]
set_option maxHeartbeats 4000000 in
theorem Af0 (e : Evt) {h d} : FunOk Tryz.prog 120 [.vec 21 (Be e), .pv (.b true), .pv (.b false), .pv (.b false), .pv (.b true), .pv (.b true), .pv (.b true), .pv (.b false)] h d (.pv (.b (Al e true false false true true true false))) [] := by
 refine Ao Af fn120 (by simp) rfl rfl fun F => ?_;have hl := Ac e;by_cases hz2' : B0 e.drep e.dseq = false
 · have hz2 := hz2';have eb : Al e true false false true true true false = false := by simp only [Al, hz2, go_sem, Bool.true_or]
   simp (disch := omega) only [ir120, Ac, hz2, eb, go_sem];refine Aa (A0 _ _) ?_;simp (disch := omega) only [Ac, hz2, eb, go_sem]
 have hz2 : B0 e.drep e.dseq = true := by simpa using hz2'
 by_cases hnm : e.name = [];rotate_left
 · have eb : Al e true false false true true true false = false := by simp only [Al, hz2, hnm, go_sem, Bool.true_or]
   simp (disch := omega) only [ir120, Ac, hz2, hnm, eb, go_sem];refine Aa (A0 _ _) ?_;simp (disch := omega) only [Ac, hz2, hnm, eb, go_sem]
 by_cases hgo : (e.gone.l.length : Int) = 0;rotate_left
 · have eb : Al e true false false true true true false = false := by simp only [Al, hz2, hnm, hgo, go_sem, Bool.true_or]
   simp (disch := omega) only [ir120, Ac, hz2, hnm, hgo, eb, go_sem];refine Aa (A0 _ _) ?_;simp (disch := omega) only [Ac, hz2, hnm, hgo, eb, go_sem]
 by_cases hwa : e.ward = 0;rotate_left
 · have eb : Al e true false false true true true false = false := by simp only [Al, hz2, hnm, hgo, hwa, go_sem, Bool.true_or]
   simp (disch := omega) only [ir120, Ac, hz2, hnm, hgo, hwa, eb, go_sem];refine Aa (A0 _ _) ?_;simp (disch := omega) only [Ac, hz2, hnm, hgo, hwa, eb, go_sem]
 have eb : Al e true false false true true true false = true := by simp only [Al, hz2, hnm, hgo, hwa, go_sem, Bool.true_or]
 simp (disch := omega) only [ir120, Ac, hz2, hnm, hgo, hwa, eb, go_sem];refine Aa (A0 _ _) ?_;simp (disch := omega) only [Ac, hz2, hnm, hgo, hwa, eb, go_sem]
set_option maxHeartbeats 4000000 in
theorem Aku (e : Evt) {h d} : FunOk Tryz.prog 120 [.vec 21 (Be e), .pv (.b true), .pv (.b false), .pv (.b false), .pv (.b true), .pv (.b true), .pv (.b false), .pv (.b false)] h d (.pv (.b (Al e true false false true true false false))) [] := by
 refine Ao Af fn120 (by simp) rfl rfl fun F => ?_;have hl := Ac e;by_cases hz2' : B0 e.drep e.dseq = false
 · have hz2 := hz2';have eb : Al e true false false true true false false = false := by simp only [Al, hz2, go_sem, Bool.true_or]
   simp (disch := omega) only [ir120, Ac, hz2, eb, go_sem];refine Aa (A0 _ _) ?_;simp (disch := omega) only [Ac, hz2, eb, go_sem]
 have hz2 : B0 e.drep e.dseq = true := by simpa using hz2'
 by_cases hnm : e.name = [];rotate_left
 · have eb : Al e true false false true true false false = false := by simp only [Al, hz2, hnm, go_sem, Bool.true_or]
   simp (disch := omega) only [ir120, Ac, hz2, hnm, eb, go_sem];refine Aa (A0 _ _) ?_;simp (disch := omega) only [Ac, hz2, hnm, eb, go_sem]
 by_cases hgo : (e.gone.l.length : Int) = 0;rotate_left
 · have eb : Al e true false false true true false false = false := by simp only [Al, hz2, hnm, hgo, go_sem, Bool.true_or]
   simp (disch := omega) only [ir120, Ac, hz2, hnm, hgo, eb, go_sem];refine Aa (A0 _ _) ?_;simp (disch := omega) only [Ac, hz2, hnm, hgo, eb, go_sem]
 by_cases hda : e.data = [];rotate_left
 · have eb : Al e true false false true true false false = false := by simp only [Al, hz2, hnm, hgo, hda, go_sem, Bool.true_or]
   simp (disch := omega) only [ir120, Ac, hz2, hnm, hgo, hda, eb, go_sem];refine Aa (A0 _ _) ?_;simp (disch := omega) only [Ac, hz2, hnm, hgo, hda, eb, go_sem]
 by_cases hwa : e.ward = 0;rotate_left
 · have eb : Al e true false false true true false false = false := by simp only [Al, hz2, hnm, hgo, hda, hwa, go_sem, Bool.true_or]
   simp (disch := omega) only [ir120, Ac, hz2, hnm, hgo, hda, hwa, eb, go_sem];refine Aa (A0 _ _) ?_;simp (disch := omega) only [Ac, hz2, hnm, hgo, hda, hwa, eb, go_sem]
 have eb : Al e true false false true true false false = true := by simp only [Al, hz2, hnm, hgo, hda, hwa, go_sem, Bool.true_or]
 simp (disch := omega) only [ir120, Ac, hz2, hnm, hgo, hda, hwa, eb, go_sem];refine Aa (A0 _ _) ?_;simp (disch := omega) only [Ac, hz2, hnm, hgo, hda, hwa, eb, go_sem]
set_option maxHeartbeats 4000000 in
theorem Akv (e : Evt) {h d} : FunOk Tryz.prog 120 [.vec 21 (Be e), .pv (.b true), .pv (.b false), .pv (.b false), .pv (.b true), .pv (.b false), .pv (.b true), .pv (.b false)] h d (.pv (.b (Al e true false false true false true false))) [] := by
 refine Ao Af fn120 (by simp) rfl rfl fun F => ?_;have hl := Ac e;by_cases hz2' : B0 e.drep e.dseq = false
 · have hz2 := hz2';have eb : Al e true false false true false true false = false := by simp only [Al, hz2, go_sem, Bool.true_or]
   simp (disch := omega) only [ir120, Ac, hz2, eb, go_sem];refine Aa (A0 _ _) ?_;simp (disch := omega) only [Ac, hz2, eb, go_sem]
 have hz2 : B0 e.drep e.dseq = true := by simpa using hz2'
 by_cases hnm : e.name = [];rotate_left
 · have eb : Al e true false false true false true false = false := by simp only [Al, hz2, hnm, go_sem, Bool.true_or]
   simp (disch := omega) only [ir120, Ac, hz2, hnm, eb, go_sem];refine Aa (A0 _ _) ?_;simp (disch := omega) only [Ac, hz2, hnm, eb, go_sem]
 by_cases hgo : (e.gone.l.length : Int) = 0;rotate_left
 · have eb : Al e true false false true false true false = false := by simp only [Al, hz2, hnm, hgo, go_sem, Bool.true_or]
   simp (disch := omega) only [ir120, Ac, hz2, hnm, hgo, eb, go_sem];refine Aa (A0 _ _) ?_;simp (disch := omega) only [Ac, hz2, hnm, hgo, eb, go_sem]
 by_cases hof : e.off = 0;rotate_left
 · have eb : Al e true false false true false true false = false := by simp only [Al, hz2, hnm, hgo, hof, go_sem, Bool.true_or]
   simp (disch := omega) only [ir120, Ac, hz2, hnm, hgo, hof, eb, go_sem];refine Aa (A0 _ _) ?_;simp (disch := omega) only [Ac, hz2, hnm, hgo, hof, eb, go_sem]
 by_cases hwa : e.ward = 0;rotate_left
 · have eb : Al e true false false true false true false = false := by simp only [Al, hz2, hnm, hgo, hof, hwa, go_sem, Bool.true_or]
   simp (disch := omega) only [ir120, Ac, hz2, hnm, hgo, hof, hwa, eb, go_sem];refine Aa (A0 _ _) ?_;simp (disch := omega) only [Ac, hz2, hnm, hgo, hof, hwa, eb, go_sem]
 have eb : Al e true false false true false true false = true := by simp only [Al, hz2, hnm, hgo, hof, hwa, go_sem, Bool.true_or]
 simp (disch := omega) only [ir120, Ac, hz2, hnm, hgo, hof, hwa, eb, go_sem];refine Aa (A0 _ _) ?_;simp (disch := omega) only [Ac, hz2, hnm, hgo, hof, hwa, eb, go_sem]
set_option maxHeartbeats 4000000 in
theorem Apq (e : Evt) {h d} : FunOk Tryz.prog 120 [.vec 21 (Be e), .pv (.b true), .pv (.b false), .pv (.b true), .pv (.b false), .pv (.b false), .pv (.b false), .pv (.b false)] h d (.pv (.b (Al e true false true false false false false))) [] := by
 refine Ao Af fn120 (by simp) rfl rfl fun F => ?_;have hl := Ac e;by_cases hz2' : B0 e.drep e.dseq = false
 · have hz2 := hz2';have eb : Al e true false true false false false false = false := by simp only [Al, hz2, go_sem, Bool.true_or]
   simp (disch := omega) only [ir120, Ac, hz2, eb, go_sem];refine Aa (A0 _ _) ?_;simp (disch := omega) only [Ac, hz2, eb, go_sem]
 have hz2 : B0 e.drep e.dseq = true := by simpa using hz2'
 by_cases hnm : e.name = [];rotate_left
 · have eb : Al e true false true false false false false = false := by simp only [Al, hz2, hnm, go_sem, Bool.true_or]
   simp (disch := omega) only [ir120, Ac, hz2, hnm, eb, go_sem];refine Aa (A0 _ _) ?_;simp (disch := omega) only [Ac, hz2, hnm, eb, go_sem]
 by_cases hba : (e.base.l.length : Int) = 0;rotate_left
 · have eb : Al e true false true false false false false = false := by simp only [Al, hz2, hnm, hba, go_sem, Bool.true_or]
   simp (disch := omega) only [ir120, Ac, hz2, hnm, hba, eb, go_sem];refine Aa (A0 _ _) ?_;simp (disch := omega) only [Ac, hz2, hnm, hba, eb, go_sem]
 by_cases hof : e.off = 0;rotate_left
 · have eb : Al e true false true false false false false = false := by simp only [Al, hz2, hnm, hba, hof, go_sem, Bool.true_or]
   simp (disch := omega) only [ir120, Ac, hz2, hnm, hba, hof, eb, go_sem];refine Aa (A0 _ _) ?_;simp (disch := omega) only [Ac, hz2, hnm, hba, hof, eb, go_sem]
 by_cases hda : e.data = [];rotate_left
 · have eb : Al e true false true false false false false = false := by simp only [Al, hz2, hnm, hba, hof, hda, go_sem, Bool.true_or]
   simp (disch := omega) only [ir120, Ac, hz2, hnm, hba, hof, hda, eb, go_sem];refine Aa (A0 _ _) ?_;simp (disch := omega) only [Ac, hz2, hnm, hba, hof, hda, eb, go_sem]
 by_cases hwa : e.ward = 0;rotate_left
 · have eb : Al e true false true false false false false = false := by simp only [Al, hz2, hnm, hba, hof, hda, hwa, go_sem, Bool.true_or]
   simp (disch := omega) only [ir120, Ac, hz2, hnm, hba, hof, hda, hwa, eb, go_sem];refine Aa (A0 _ _) ?_;simp (disch := omega) only [Ac, hz2, hnm, hba, hof, hda, hwa, eb, go_sem]
 have eb : Al e true false true false false false false = true := by simp only [Al, hz2, hnm, hba, hof, hda, hwa, go_sem, Bool.true_or]
 simp (disch := omega) only [ir120, Ac, hz2, hnm, hba, hof, hda, hwa, eb, go_sem];refine Aa (A0 _ _) ?_;simp (disch := omega) only [Ac, hz2, hnm, hba, hof, hda, hwa, eb, go_sem]
set_option maxHeartbeats 4000000 in
theorem Akt (e : Evt) {h d} : FunOk Tryz.prog 120 [.vec 21 (Be e), .pv (.b true), .pv (.b true), .pv (.b true), .pv (.b false), .pv (.b false), .pv (.b false), .pv (.b false)] h d (.pv (.b (Al e true true true false false false false))) [] := by
 refine Ao Af fn120 (by simp) rfl rfl fun F => ?_;have hl := Ac e;by_cases hba : (e.base.l.length : Int) = 0;rotate_left
 · have eb : Al e true true true false false false false = false := by simp only [Al, hba, go_sem, Bool.true_or]
   simp (disch := omega) only [ir120, Ac, hba, eb, go_sem]
 by_cases hof : e.off = 0;rotate_left
 · have eb : Al e true true true false false false false = false := by simp only [Al, hba, hof, go_sem, Bool.true_or]
   simp (disch := omega) only [ir120, Ac, hba, hof, eb, go_sem]
 by_cases hda : e.data = [];rotate_left
 · have eb : Al e true true true false false false false = false := by simp only [Al, hba, hof, hda, go_sem, Bool.true_or]
   simp (disch := omega) only [ir120, Ac, hba, hof, hda, eb, go_sem]
 by_cases hwa : e.ward = 0;rotate_left
 · have eb : Al e true true true false false false false = false := by simp only [Al, hba, hof, hda, hwa, go_sem, Bool.true_or]
   simp (disch := omega) only [ir120, Ac, hba, hof, hda, hwa, eb, go_sem]
 have eb : Al e true true true false false false false = true := by simp only [Al, hba, hof, hda, hwa, go_sem, Bool.true_or]
 simp (disch := omega) only [ir120, Ac, hba, hof, hda, hwa, eb, go_sem]
set_option maxHeartbeats 4000000 in
theorem Av3 (e : Evt) {h d} : FunOk Tryz.prog 120 [.vec 21 (Be e), .pv (.b false), .pv (.b false), .pv (.b false), .pv (.b false), .pv (.b false), .pv (.b false), .pv (.b true)] h d (.pv (.b (Al e false false false false false false true))) [] := by
 refine Ao Af fn120 (by simp) rfl rfl fun F => ?_;have hl := Ac e;by_cases hz1' : B0 e.orep e.oseq = false
 · have hz1 := hz1';have eb : Al e false false false false false false true = false := by simp only [Al, hz1, go_sem, Bool.true_or]
   simp (disch := omega) only [ir120, Ac, hz1, eb, go_sem];refine Aa (A0 _ _) ?_;simp (disch := omega) only [Ac, hz1, eb, go_sem]
 have hz1 : B0 e.orep e.oseq = true := by simpa using hz1'
 by_cases hz2' : B0 e.drep e.dseq = false
 · have hz2 := hz2';have eb : Al e false false false false false false true = false := by simp only [Al, hz1, hz2, go_sem, Bool.true_or]
   simp (disch := omega) only [ir120, Ac, hz1, hz2, eb, go_sem];refine Aa (A0 _ _) ?_;simp (disch := omega) only [Ac, hz1, hz2, eb, go_sem];refine Aa (A0 _ _) ?_;simp (disch := omega) only [Ac, hz1, hz2, eb, go_sem]
 have hz2 : B0 e.drep e.dseq = true := by simpa using hz2'
 by_cases hnm : e.name = [];rotate_left
 · have eb : Al e false false false false false false true = false := by simp only [Al, hz1, hz2, hnm, go_sem, Bool.true_or]
   simp (disch := omega) only [ir120, Ac, hz1, hz2, hnm, eb, go_sem];refine Aa (A0 _ _) ?_;simp (disch := omega) only [Ac, hz1, hz2, hnm, eb, go_sem];refine Aa (A0 _ _) ?_;simp (disch := omega) only [Ac, hz1, hz2, hnm, eb, go_sem]
 by_cases hgo : (e.gone.l.length : Int) = 0;rotate_left
 · have eb : Al e false false false false false false true = false := by simp only [Al, hz1, hz2, hnm, hgo, go_sem, Bool.true_or]
   simp (disch := omega) only [ir120, Ac, hz1, hz2, hnm, hgo, eb, go_sem];refine Aa (A0 _ _) ?_;simp (disch := omega) only [Ac, hz1, hz2, hnm, hgo, eb, go_sem];refine Aa (A0 _ _) ?_;simp (disch := omega) only [Ac, hz1, hz2, hnm, hgo, eb, go_sem]
 by_cases hba : (e.base.l.length : Int) = 0;rotate_left
 · have eb : Al e false false false false false false true = false := by simp only [Al, hz1, hz2, hnm, hgo, hba, go_sem, Bool.true_or]
   simp (disch := omega) only [ir120, Ac, hz1, hz2, hnm, hgo, hba, eb, go_sem];refine Aa (A0 _ _) ?_;simp (disch := omega) only [Ac, hz1, hz2, hnm, hgo, hba, eb, go_sem];refine Aa (A0 _ _) ?_;simp (disch := omega) only [Ac, hz1, hz2, hnm, hgo, hba, eb, go_sem]
 by_cases hof : e.off = 0;rotate_left
 · have eb : Al e false false false false false false true = false := by simp only [Al, hz1, hz2, hnm, hgo, hba, hof, go_sem, Bool.true_or]
   simp (disch := omega) only [ir120, Ac, hz1, hz2, hnm, hgo, hba, hof, eb, go_sem];refine Aa (A0 _ _) ?_;simp (disch := omega) only [Ac, hz1, hz2, hnm, hgo, hba, hof, eb, go_sem];refine Aa (A0 _ _) ?_;simp (disch := omega) only [Ac, hz1, hz2, hnm, hgo, hba, hof, eb, go_sem]
 by_cases hda : e.data = [];rotate_left
 · have eb : Al e false false false false false false true = false := by simp only [Al, hz1, hz2, hnm, hgo, hba, hof, hda, go_sem, Bool.true_or]
   simp (disch := omega) only [ir120, Ac, hz1, hz2, hnm, hgo, hba, hof, hda, eb, go_sem];refine Aa (A0 _ _) ?_;simp (disch := omega) only [Ac, hz1, hz2, hnm, hgo, hba, hof, hda, eb, go_sem];refine Aa (A0 _ _) ?_;simp (disch := omega) only [Ac, hz1, hz2, hnm, hgo, hba, hof, hda, eb, go_sem]
 have eb : Al e false false false false false false true = true := by simp only [Al, hz1, hz2, hnm, hgo, hba, hof, hda, go_sem, Bool.true_or]
 simp (disch := omega) only [ir120, Ac, hz1, hz2, hnm, hgo, hba, hof, hda, eb, go_sem];refine Aa (A0 _ _) ?_;simp (disch := omega) only [Ac, hz1, hz2, hnm, hgo, hba, hof, hda, eb, go_sem];refine Aa (A0 _ _) ?_;simp (disch := omega) only [Ac, hz1, hz2, hnm, hgo, hba, hof, hda, eb, go_sem]
set_option maxHeartbeats 4000000 in
theorem Av4 (e : Evt) {h d} : FunOk Tryz.prog 120 [.vec 21 (Be e), .pv (.b false), .pv (.b false), .pv (.b false), .pv (.b false), .pv (.b false), .pv (.b false), .pv (.b false)] h d (.pv (.b (Al e false false false false false false false))) [] := by
 refine Ao Af fn120 (by simp) rfl rfl fun F => ?_;have hl := Ac e;by_cases hz1' : B0 e.orep e.oseq = false
 · have hz1 := hz1';have eb : Al e false false false false false false false = false := by simp only [Al, hz1, go_sem, Bool.true_or]
   simp (disch := omega) only [ir120, Ac, hz1, eb, go_sem];refine Aa (A0 _ _) ?_;simp (disch := omega) only [Ac, hz1, eb, go_sem]
 have hz1 : B0 e.orep e.oseq = true := by simpa using hz1'
 by_cases hz2' : B0 e.drep e.dseq = false
 · have hz2 := hz2';have eb : Al e false false false false false false false = false := by simp only [Al, hz1, hz2, go_sem, Bool.true_or]
   simp (disch := omega) only [ir120, Ac, hz1, hz2, eb, go_sem];refine Aa (A0 _ _) ?_;simp (disch := omega) only [Ac, hz1, hz2, eb, go_sem];refine Aa (A0 _ _) ?_;simp (disch := omega) only [Ac, hz1, hz2, eb, go_sem]
 have hz2 : B0 e.drep e.dseq = true := by simpa using hz2'
 by_cases hnm : e.name = [];rotate_left
 · have eb : Al e false false false false false false false = false := by simp only [Al, hz1, hz2, hnm, go_sem, Bool.true_or]
   simp (disch := omega) only [ir120, Ac, hz1, hz2, hnm, eb, go_sem];refine Aa (A0 _ _) ?_;simp (disch := omega) only [Ac, hz1, hz2, hnm, eb, go_sem];refine Aa (A0 _ _) ?_;simp (disch := omega) only [Ac, hz1, hz2, hnm, eb, go_sem]
 by_cases hgo : (e.gone.l.length : Int) = 0;rotate_left
 · have eb : Al e false false false false false false false = false := by simp only [Al, hz1, hz2, hnm, hgo, go_sem, Bool.true_or]
   simp (disch := omega) only [ir120, Ac, hz1, hz2, hnm, hgo, eb, go_sem];refine Aa (A0 _ _) ?_;simp (disch := omega) only [Ac, hz1, hz2, hnm, hgo, eb, go_sem];refine Aa (A0 _ _) ?_;simp (disch := omega) only [Ac, hz1, hz2, hnm, hgo, eb, go_sem]
 by_cases hba : (e.base.l.length : Int) = 0;rotate_left
 · have eb : Al e false false false false false false false = false := by simp only [Al, hz1, hz2, hnm, hgo, hba, go_sem, Bool.true_or]
   simp (disch := omega) only [ir120, Ac, hz1, hz2, hnm, hgo, hba, eb, go_sem];refine Aa (A0 _ _) ?_;simp (disch := omega) only [Ac, hz1, hz2, hnm, hgo, hba, eb, go_sem];refine Aa (A0 _ _) ?_;simp (disch := omega) only [Ac, hz1, hz2, hnm, hgo, hba, eb, go_sem]
 by_cases hof : e.off = 0;rotate_left
 · have eb : Al e false false false false false false false = false := by simp only [Al, hz1, hz2, hnm, hgo, hba, hof, go_sem, Bool.true_or]
   simp (disch := omega) only [ir120, Ac, hz1, hz2, hnm, hgo, hba, hof, eb, go_sem];refine Aa (A0 _ _) ?_;simp (disch := omega) only [Ac, hz1, hz2, hnm, hgo, hba, hof, eb, go_sem];refine Aa (A0 _ _) ?_;simp (disch := omega) only [Ac, hz1, hz2, hnm, hgo, hba, hof, eb, go_sem]
 by_cases hda : e.data = [];rotate_left
 · have eb : Al e false false false false false false false = false := by simp only [Al, hz1, hz2, hnm, hgo, hba, hof, hda, go_sem, Bool.true_or]
   simp (disch := omega) only [ir120, Ac, hz1, hz2, hnm, hgo, hba, hof, hda, eb, go_sem];refine Aa (A0 _ _) ?_;simp (disch := omega) only [Ac, hz1, hz2, hnm, hgo, hba, hof, hda, eb, go_sem];refine Aa (A0 _ _) ?_;simp (disch := omega) only [Ac, hz1, hz2, hnm, hgo, hba, hof, hda, eb, go_sem]
 by_cases hwa : e.ward = 0;rotate_left
 · have eb : Al e false false false false false false false = false := by simp only [Al, hz1, hz2, hnm, hgo, hba, hof, hda, hwa, go_sem, Bool.true_or]
   simp (disch := omega) only [ir120, Ac, hz1, hz2, hnm, hgo, hba, hof, hda, hwa, eb, go_sem];refine Aa (A0 _ _) ?_;simp (disch := omega) only [Ac, hz1, hz2, hnm, hgo, hba, hof, hda, hwa, eb, go_sem];refine Aa (A0 _ _) ?_;simp (disch := omega) only [Ac, hz1, hz2, hnm, hgo, hba, hof, hda, hwa, eb, go_sem]
 have eb : Al e false false false false false false false = true := by simp only [Al, hz1, hz2, hnm, hgo, hba, hof, hda, hwa, go_sem, Bool.true_or]
 simp (disch := omega) only [ir120, Ac, hz1, hz2, hnm, hgo, hba, hof, hda, hwa, eb, go_sem];refine Aa (A0 _ _) ?_;simp (disch := omega) only [Ac, hz1, hz2, hnm, hgo, hba, hof, hda, hwa, eb, go_sem];refine Aa (A0 _ _) ?_;simp (disch := omega) only [Ac, hz1, hz2, hnm, hgo, hba, hof, hda, hwa, eb, go_sem]
inductive RdR where
 | skip
 | err (e : Int)
 | val (x : Int) (rest : List UInt8)
theorem Ab1 (n : Nat) : IntKind.u8.wrap (n : Int) = ((UInt8.ofNat n).toNat : Int) := by
 rw [UInt8.toNat_ofNat'];simp [IntKind.wrap, IntKind.signed, IntKind.bits]
theorem Ay6 (l p l' p') : Anl (.it l p) (.it l' p') = (l = l' ∧ p = p') := (rfl)
attribute [go_sem] Ay6
def Mc (b : UInt8) : Bool := decide ((97 ≤ b.toNat ∧ b.toNat ≤ 122) ∨ (65 ≤ b.toNat ∧ b.toNat ≤ 90) ∨ (48 ≤ b.toNat ∧ b.toNat ≤ 57) ∨ b.toNat = 46 ∨ b.toNat = 95 ∨ b.toNat = 45)
def De (s : List UInt8) : Bool := decide (1 ≤ s.length ∧ s.length ≤ 12 ∧ s ≠ [46] ∧ s ≠ [46, 46]) && s.all Mc
theorem Amq {s : List UInt8} {pos : Nat} (h : pos < s.length) (ha : (s.getD pos 0).toNat < 128) : Q3 s pos = ((s.getD pos 0).toNat, 1) := by
 have hs : pos < (⟨s.toArray⟩ : ByteArray).size := by simpa [ByteArray.size] using h
 have e : (⟨s.toArray⟩ : ByteArray)[pos]'hs = s.getD pos 0 := by
  rw [List.getD_eq_getElem?_getD, List.getElem?_eq_getElem h]; rfl
 have := decode_ascii ⟨s.toArray⟩ pos hs (by rw [e]; exact ha);unfold Q3;rw [this, e]
theorem Ax6 {s : List UInt8} {pos : Nat} (h : pos < s.length) (ha : ¬ (s.getD pos 0).toNat < 128) : 128 ≤ (Q3 s pos).1 ∧ (Q3 s pos).1 < 2147483648 := by
 have hs : pos < (⟨s.toArray⟩ : ByteArray).size := by simpa [ByteArray.size] using h
 have e : (⟨s.toArray⟩ : ByteArray).get! (pos + 0) = s.getD pos 0 := by
  show (⟨s.toArray⟩ : ByteArray).get! pos = _;have : (⟨s.toArray⟩ : ByteArray)[pos]'hs = s.getD pos 0 := by
   rw [List.getD_eq_getElem?_getD, List.getElem?_eq_getElem h]; rfl
  rw [← this];show (s.toArray)[pos]! = (s.toArray)[pos];rw [getElem!_pos]
 unfold Q3 Utf8.decode;simp only [e, ha, if_false];unfold Utf8.runeError;split
 · split
   · simp only; omega
   · simp
 · split
   · split
     · rename_i hc; simp only [Bool.and_eq_true, decide_eq_true_eq] at hc ⊢; omega
     · simp
   · split
     · split
       · rename_i hc; simp only [Bool.and_eq_true, decide_eq_true_eq] at hc ⊢; omega
       · simp
     · simp
theorem Asr (n : Nat) (h : 128 ≤ n) : (W3 n).length ≤ 4 ∧ 2 ≤ (W3 n).length ∧ 128 ≤ ((W3 n).getD ((W3 n).length - 1) 0).toNat := by
 have key : ∀ c : Nat, 128 ≤ c → ∀ l : List UInt8, l = (if c < 0x80 then [UInt8.ofNat c] else if c < 0x800 then [UInt8.ofNat (0xC0 + c / 64), UInt8.ofNat (0x80 + c % 64)] else if c < 0x10000 then [UInt8.ofNat (0xE0 + c / 4096), UInt8.ofNat (0x80 + c / 64 % 64), UInt8.ofNat (0x80 + c % 64)] else [UInt8.ofNat (0xF0 + c / 262144), UInt8.ofNat (0x80 + c / 4096 % 64), UInt8.ofNat (0x80 + c / 64 % 64), UInt8.ofNat (0x80 + c % 64)]) → l.length ≤ 4 ∧ 2 ≤ l.length ∧ 128 ≤ (l.getD (l.length - 1) 0).toNat := by
  intro c hc l hl;have hb : 128 ≤ (UInt8.ofNat (0x80 + c % 64)).toNat := by rw [UInt8.toNat_ofNat']; omega
  rw [if_neg (by omega)] at hl;split at hl
  · subst hl; exact ⟨by simp, by simp, hb⟩
  · split at hl
    · subst hl; exact ⟨by simp, by simp, hb⟩
    · subst hl; exact ⟨by simp, by simp, hb⟩
 refine key (if Utf8.valid (n : Int) then n else 0xFFFD) (by split <;> omega) _ ?_;unfold W3 Utf8.encode Utf8.runeError;simp only [Int.toNat_natCast];generalize (if Utf8.valid (n : Int) = true then n else 0xFFFD) = c;split
 · rfl
 · split
   · rfl
   · split <;> rfl
theorem A5t (s : List UInt8) (c : UInt8) {h} : Zp Tryz.prog 185 [.pv (.s s), .pv (.i .u8 c.toNat)] h (.pv (.i .i64 (Lib.indexByte s c))) := by
 intro F N ρ st a w hR hh vs hc;simp only [ConcL] at hc;obtain ⟨v, us, rfl, hv, u, us', rfl, hu, rfl⟩ := hc;have hv := M3 hv;have hu := Fc hu;subst hv; subst hu;refine ⟨_, ?_, Dl⟩;rw [run_callFunc_extern (fn := (Tryz.prog.funcs[185]?).getD default) (by kernel_rfl) (by kernel_rfl) (by kernel_rfl) (by kernel_rfl) (e := Extern.BytealgIndexByte.indexByte) (by kernel_rfl)];rw [Lib.run_indexByteString];simp
theorem A5u (s : List UInt8) (c : UInt8) {h d} : FunOk Tryz.prog 182 [.pv (.s s), .pv (.i .u8 c.toNat)] h d (.pv (.i .i64 (Lib.indexByte s c))) [] := by
 refine Ao Af fn182 (by simp) rfl rfl fun F => ?_;simp (disch := omega) only [ir182, go_sem];refine Q8 (A5t s c) ?_;simp (disch := omega) only [go_sem]
theorem A1r (s : List UInt8) (c : UInt8) {h d} : FunOk Tryz.prog 175 [.pv (.s s), .pv (.i .u8 c.toNat)] h d (.pv (.i .i64 (Lib.indexByte s c))) [] := by
 refine Ao Af fn175 (by simp) rfl rfl fun F => ?_;simp (disch := omega) only [ir175, go_sem];refine Aa (A5u s c) ?_;simp (disch := omega) only [go_sem]
def Ru (n : Nat) : Bool := decide (n < 55296 ∨ 57343 < n ∧ n ≤ 1114111)
theorem Av1 (n : Nat) {h d} : FunOk Tryz.prog 176 [.pv (.i .i32 n)] h d (.pv (.b (Ru n))) [] := by
 refine Ao Af fn176 (by simp) rfl rfl fun F => ?_;have h0 : (0 : Int) ≤ n := by omega
 by_cases h1 : (n : Int) < 55296
 · have e : Ru n = true := decide_eq_true (by omega);simp (disch := omega) only [ir176, h0, h1, e, go_sem]
 by_cases h2 : (57343 : Int) < n
 · by_cases h3 : (n : Int) ≤ 1114111
   · have e : Ru n = true := decide_eq_true (by omega);simp (disch := omega) only [ir176, h0, h1, h2, h3, e, go_sem]
   · have e : Ru n = false := decide_eq_false (by omega);simp (disch := omega) only [ir176, h0, h1, h2, h3, e, go_sem]
 · have e : Ru n = false := decide_eq_false (by omega);simp (disch := omega) only [ir176, h0, h1, h2, e, go_sem]
def ixD (n : Nat) : Int := if n < 128 then Lib.indexByte [46, 95, 45] (UInt8.ofNat n) else -1
def Afh (k : Nat) : FS := mk [(175, .p 175 0), (0, .pv (.s [46, 95, 45]))] [(175, some (.it [46, 95, 45] k))]
def X5 (rs : List UInt8) (i : Int) (_ : Unit) : FS := mk [(9, .pv (.i .i64 i)), (8, .pv (.i .i64 i)), (7, .pv (.s rs)), (10, .pv (.i .i64 0)), (0, .pv (.s [46, 95, 45]))] []
theorem Amj (n : Nat) (h : 128 ≤ n) : (∃ a b, W3 n = [a, b] ∧ 128 ≤ b.toNat) ∨ (∃ a b c, W3 n = [a, b, c] ∧ 128 ≤ c.toNat) ∨ (∃ a b c d, W3 n = [a, b, c, d] ∧ 128 ≤ d.toNat) := by
 obtain ⟨h1, h2, h3⟩ := Asr n h;generalize W3 n = l at *
 match l, h1, h2, h3 with
 | [a, b], _, _, h3 => exact .inl ⟨a, b, rfl, h3⟩
 | [a, b, c], _, _, h3 => exact .inr (.inl ⟨a, b, c, rfl, h3⟩)
 | [a, b, c, d], _, _, h3 => exact .inr (.inr ⟨a, b, c, d, rfl, h3⟩)
 | [], _, h2, _ => simp at h2
 | [a], _, h2, _ => simp at h2
 | a :: b :: c :: d :: e :: r, h1, _, _ => simp at h1
theorem Ai9 {s : List UInt8} {b : UInt8} (h : s = [95, 45] ∨ s = [45] ∨ s = []) (hb : 128 ≤ b.toNat) : Lib.indexByte s b = -1 := by
 have ne : ∀ c : UInt8, c.toNat < 128 → (c == b) = false := fun c hc => by
  rw [beq_eq_false_iff_ne]; intro e; subst e; omega
 rcases h with rfl | rfl | rfl <;> simp [Lib.indexByte, ne 95 (by decide), ne 45 (by decide)]
set_option maxHeartbeats 4000000 in
theorem Ac8 (n : Nat) (hn : n < 2147483648) {h d} : FunOk Tryz.prog 164 [.pv (.s [46, 95, 45]), .pv (.i .i32 n)] h d (.pv (.i .i64 (ixD n))) [] := by
 refine Ao Af fn164 (by simp) rfl rfl fun F => ?_;have h0 : (0 : Int) ≤ n := by omega
 by_cases h1 : (n : Int) < 128
 · have e : ixD n = Lib.indexByte [46, 95, 45] (UInt8.ofNat n) := by unfold ixD; rw [if_pos (by omega)]
   have ew : IntKind.u8.wrap (n : Int) = ((UInt8.ofNat n).toNat : Int) := Ab1 _;simp (disch := omega) only [ir164, h0, h1, ew, go_sem];refine Aa (A1r _ _) ?_;simp (disch := omega) only [e, go_sem]
 have e : ixD n = -1 := by unfold ixD; rw [if_neg (by omega)]
 by_cases h2 : (n : Int) = 65533
 · simp (disch := omega) only [ir164, h0, h1, h2, go_sem];have hl3 : (([46, 95, 45] : List UInt8).length) = 3 := rfl;have d0 : Q3 [46, 95, 45] 0 = (46, 1) := by decide
   have d1 : Q3 [46, 95, 45] 1 = (95, 1) := by decide
   have d2 : Q3 [46, 95, 45] 2 = (45, 1) := by decide
   refine A1 Af Afh (fun k => k ≤ 3) (fun k => 3 - k) 0 (by omega) (Aj ?_ ?_) fun k hk => ?_
   · simp (disch := omega) only [go_sem]
   · simp (disch := omega) only [go_sem]
   by_cases hlt : k < 3
   · have : k = 0 ∨ k = 1 ∨ k = 2 := by omega
     rcases this with rfl | rfl | rfl
     all_goals simp (disch := omega) only [Afh, hl3, d0, d1, d2, go_sem]
     · refine Ad (x := (0 : Nat)) (1 : Nat) _ _ rfl (by omega) (by omega) ?_ ?_
       · simp (disch := omega) only [go_sem]
       · simp (disch := omega) only [go_sem]
     · refine Ad (x := (1 : Nat)) (2 : Nat) _ _ rfl (by omega) (by omega) ?_ ?_
       · simp (disch := omega) only [go_sem]
       · simp (disch := omega) only [go_sem]
     · refine Ad (x := (2 : Nat)) (3 : Nat) _ _ rfl (by omega) (by omega) ?_ ?_
       · simp (disch := omega) only [go_sem]
       · simp (disch := omega) only [go_sem]
   · obtain rfl : k = 3 := by omega
     simp (disch := omega) only [Afh, hl3, e, go_sem]
 · simp (disch := omega) only [ir164, h0, h1, h2, go_sem];refine Aa (Av1 n) ?_;cases hv : Ru n with
   | false => simp (disch := omega) only [hv, e, go_sem]
   | true =>
     have hl3 : (([46, 95, 45] : List UInt8).length : Int) = 3 := rfl;rcases Amj n (by omega) with ⟨a, b, he, hb⟩ | ⟨a, b, c, he, hb⟩ | ⟨a, b, c, d, he, hb⟩
     ·
      have hlen : (([a, b] : List UInt8).length : Int) = 2 := rfl;have hg : ((([46, 95, 45] : List UInt8).getD (Int.toNat 1) 0).toNat : Int) = 95 := rfl;have hg' : ([a, b] : List UInt8).getD (Int.toNat 1) 0 = b := rfl;have hne : ¬ (95 : Int) = (b.toNat : Int) := by omega
      have hdr : List.drop ((1 : Int) + 1).toNat (List.take 3 ([46, 95, 45] : List UInt8)) = [45] := rfl;have hib : Lib.indexByte [45] b = -1 := Ai9 (by simp) hb;simp (disch := omega) only [hv, he, hlen, go_sem];refine A1 Af (X5 [a, b] 1) (fun _ => True) (fun _ => 0) () trivial (Aj ?_ ?_) fun _ _ => ?_
      · simp (disch := omega) only [go_sem]
      · simp (disch := omega) only [go_sem]
      simp (disch := omega) only [X5, hl3, hlen, hg, hg', hne, hdr, go_sem];refine Aa (A1r [45] b) ?_;simp (disch := omega) only [hib, e, go_sem]
     ·
      have hlen : (([a, b, c] : List UInt8).length : Int) = 3 := rfl;have hg : ((([46, 95, 45] : List UInt8).getD (Int.toNat 2) 0).toNat : Int) = 45 := rfl;have hg' : ([a, b, c] : List UInt8).getD (Int.toNat 2) 0 = c := rfl;have hne : ¬ (45 : Int) = (c.toNat : Int) := by omega
      have hdr : List.drop ((2 : Int) + 1).toNat (List.take 3 ([46, 95, 45] : List UInt8)) = [] := rfl;have hib : Lib.indexByte [] c = -1 := Ai9 (by simp) hb;simp (disch := omega) only [hv, he, hlen, go_sem];refine A1 Af (X5 [a, b, c] 2) (fun _ => True) (fun _ => 0) () trivial (Aj ?_ ?_) fun _ _ => ?_
      · simp (disch := omega) only [go_sem]
      · simp (disch := omega) only [go_sem]
      simp (disch := omega) only [X5, hl3, hlen, hg, hg', hne, hdr, go_sem];refine Aa (A1r [] c) ?_;simp (disch := omega) only [hib, e, go_sem]
     · have hlen : (([a, b, c, d] : List UInt8).length : Int) = 4 := rfl;simp (disch := omega) only [hv, he, hlen, go_sem];refine A1 Af (X5 [a, b, c, d] 3) (fun _ => True) (fun _ => 0) () trivial (Aj ?_ ?_) fun _ _ => ?_
       · simp (disch := omega) only [go_sem]
       · simp (disch := omega) only [go_sem]
       simp (disch := omega) only [X5, hl3, hlen, e, go_sem]
def Amn (n : Nat) : Bool := decide (n = 46 ∨ n = 95 ∨ n = 45)
theorem Aw1 (n : Nat) : decide (0 ≤ ixD n) = Amn n := by
 by_cases h : n < 128
 · have : ∀ m, m < 128 → decide (0 ≤ ixD m) = Amn m := by decide
   exact this n h
 · have e : ixD n = -1 := by unfold ixD; rw [if_neg h]
   rw [e];have : ¬ (n = 46 ∨ n = 95 ∨ n = 45) := by omega
   simp [Amn]; omega
theorem Jm (n : Nat) (hn : n < 2147483648) {h d} : FunOk Tryz.prog 143 [.pv (.s [46, 95, 45]), .pv (.i .i32 n)] h d (.pv (.b (Amn n))) [] := by
 refine Ao Af fn143 (by simp) rfl rfl fun F => ?_;have e := Aw1 n;simp (disch := omega) only [ir143, go_sem];refine Aa (Ac8 n hn) ?_;simp (disch := omega) only [e, go_sem]
def Adr (n : Nat) : Bool := decide ((97 ≤ n ∧ n ≤ 122) ∨ (65 ≤ n ∧ n ≤ 90))
theorem Ac5 (n : Nat) {h d} : FunOk Tryz.prog 142 [.pv (.i .i32 n)] h d (.pv (.b (Adr n))) [] := by
 refine Ao Af fn142 (by simp) rfl rfl fun F => ?_;have : n < 65 ∨ (65 ≤ n ∧ n ≤ 90) ∨ (91 ≤ n ∧ n ≤ 96) ∨ (97 ≤ n ∧ n ≤ 122) ∨ 123 ≤ n := by omega
 rcases this with h1 | h1 | h1 | h1 | h1
 · have e : Adr n = false := decide_eq_false (by omega);simp (disch := omega) only [ir142, e, go_sem]
 · have e : Adr n = true := decide_eq_true (by omega);simp (disch := omega) only [ir142, e, go_sem]
 · have e : Adr n = false := decide_eq_false (by omega);simp (disch := omega) only [ir142, e, go_sem]
 · have e : Adr n = true := decide_eq_true (by omega);simp (disch := omega) only [ir142, e, go_sem]
 · have e : Adr n = false := decide_eq_false (by omega);simp (disch := omega) only [ir142, e, go_sem]
theorem Wi {s : List UInt8} {k : Nat} (hk : k < s.length) (h : Mc (s.getD k 0) = false) : De s = false := by
 have hm : s.getD k 0 ∈ s := by rw [List.getD_eq_getElem?_getD, List.getElem?_eq_getElem hk]; exact List.getElem_mem hk
 unfold De;rw [show s.all Mc = false from by rw [List.all_eq_false]; exact ⟨_, hm, by rw [h]; decide⟩, Bool.and_false]
theorem Yp {s : List UInt8} (h1 : 1 ≤ s.length) (h2 : s.length ≤ 12) (h3 : s ≠ [46]) (h4 : s ≠ [46, 46]) (h : ∀ k, k < s.length → Mc (s.getD k 0) = true) : De s = true := by
 unfold De;rw [decide_eq_true ⟨h1, h2, h3, h4⟩, Bool.true_and, List.all_eq_true];intro b hb;obtain ⟨k, hk, rfl⟩ := List.getElem_of_mem hb;have := h k hk
 rwa [List.getD_eq_getElem?_getD, List.getElem?_eq_getElem hk] at this
theorem My {s : List UInt8} (h : ¬ (1 ≤ s.length ∧ s.length ≤ 12 ∧ s ≠ [46] ∧ s ≠ [46, 46])) : De s = false := by
 unfold De; rw [decide_eq_false h, Bool.false_and]
def Z5 (s : List UInt8) (k : Nat) : FS := mk [(22, .p 22 0), (0, .pv (.s s))] [(22, some (.it s k))]
set_option maxHeartbeats 4000000 in
theorem Afw (s : List UInt8) {h d} : FunOk Tryz.prog 115 [.pv (.s s)] h d (.pv (.b (De s))) [] := by
 refine Ao Af fn115 (by simp) rfl rfl fun F => ?_;by_cases h1 : s = []
 · subst h1;have e : De [] = false := My (by simp);have hl0 : (([] : List UInt8).length : Int) = 0 := rfl;simp (disch := omega) only [ir115, hl0, e, go_sem]
 have h1' : 1 ≤ s.length := List.length_pos_iff.2 h1;by_cases h2 : 12 < (s.length : Int)
 · have e : De s = false := My (by omega);simp (disch := omega) only [ir115, h1, h2, e, go_sem]
 by_cases h3 : s = [46]
 · subst h3;have e : De [46] = false := My (fun h => h.2.2.1 rfl);have hl0 : (([46] : List UInt8).length : Int) = 1 := rfl;simp (disch := omega) only [ir115, h1, hl0, e, go_sem]
 by_cases h4 : s = [46, 46]
 · subst h4;have e : De [46, 46] = false := My (fun h => h.2.2.2 rfl);have hl0 : (([46, 46] : List UInt8).length : Int) = 2 := rfl;simp (disch := omega) only [ir115, h1, h3, hl0, e, go_sem]
 simp (disch := omega) only [ir115, h1, h2, h3, h4, go_sem];refine A1 Af (Z5 s) (fun k => k ≤ s.length ∧ ∀ j, j < k → Mc (s.getD j 0) = true) (fun k => s.length - k) 0 (by simp) (Aj ?_ ?_) fun k hk => ?_
 · simp (disch := omega) only [go_sem]
 · simp (disch := omega) only [go_sem]
 obtain ⟨hk1, hk2⟩ := hk;by_cases hlt : k < s.length
 · by_cases ha : (s.getD k 0).toNat < 128
   · have hd := Amq hlt ha;have hgo : Mc (s.getD k 0) = true → (k + 1 ≤ s.length ∧ ∀ j, j < k + 1 → Mc (s.getD j 0) = true) := fun h => ⟨hlt, fun j hj => by
      by_cases e : j = k
      · subst e; exact h
      · exact hk2 j (by omega)⟩
     have hbad := fun h => Wi (s := s) hlt h;generalize hb : s.getD k 0 = b at *;simp (disch := omega) only [Z5, hd, go_sem];refine Aa (Ac5 _) ?_;cases hL : Adr b.toNat with
     | true =>
       have hL' : (97 ≤ b.toNat ∧ b.toNat ≤ 122) ∨ (65 ≤ b.toNat ∧ b.toNat ≤ 90) := of_decide_eq_true hL;simp (disch := omega) only [hL, go_sem];refine Ad (k + 1) _ _ rfl (hgo (decide_eq_true (by omega))) (by omega) ?_ ?_
       · simp (disch := omega) only [go_sem]
       · simp (disch := omega) only [go_sem]
     | false =>
       have hL' : ¬ ((97 ≤ b.toNat ∧ b.toNat ≤ 122) ∨ (65 ≤ b.toNat ∧ b.toNat ≤ 90)) := of_decide_eq_false hL;by_cases hdg : 48 ≤ b.toNat ∧ b.toNat ≤ 57
       · simp (disch := omega) only [hL, go_sem];refine Ad (k + 1) _ _ rfl (hgo (decide_eq_true (by omega))) (by omega) ?_ ?_
         · simp (disch := omega) only [go_sem]
         · simp (disch := omega) only [go_sem]
       · have ht : b.toNat < 48 ∨ (48 ≤ b.toNat ∧ 57 < b.toNat) := by omega
         cases hdt : Amn b.toNat with
         | true =>
           have hdt' : b.toNat = 46 ∨ b.toNat = 95 ∨ b.toNat = 45 := of_decide_eq_true hdt;have hg := hgo (decide_eq_true (by omega));rcases ht with ht | ht
           all_goals simp (disch := omega) only [hL, go_sem]
           all_goals refine Aa (Jm b.toNat (by omega)) ?_
           all_goals simp (disch := omega) only [hdt, go_sem]
           all_goals refine Ad (k + 1) _ _ rfl hg (by omega) ?_ ?_
           all_goals simp (disch := omega) only [go_sem]
         | false =>
           have hdt' : ¬ (b.toNat = 46 ∨ b.toNat = 95 ∨ b.toNat = 45) := of_decide_eq_false hdt;have hg := hbad (decide_eq_false (by omega));rcases ht with ht | ht
           all_goals simp (disch := omega) only [hL, go_sem]
           all_goals refine Aa (Jm b.toNat (by omega)) ?_
           all_goals simp (disch := omega) only [hdt, hg, go_sem]
   · obtain ⟨hd1, hd2⟩ := Ax6 hlt ha;have hg := Wi (s := s) hlt (decide_eq_false (by omega));generalize hc : (Q3 s k).1 = c at *;have hL : Adr c = false := decide_eq_false (by omega);have hdt : Amn c = false := decide_eq_false (by omega);simp (disch := omega) only [Z5, hc, go_sem];refine Aa (Ac5 _) ?_;simp (disch := omega) only [hL, go_sem];refine Aa (Jm c hd2) ?_;simp (disch := omega) only [hdt, hg, go_sem]
 · obtain rfl : k = s.length := by omega
   have e := Yp h1' (by omega) h3 h4 hk2;simp (disch := omega) only [Z5, e, go_sem]
def Uf (s : List UInt8) (k : Nat) : FS := mk [(3, .pv (.i .i64 k)), (0, .pv (.s s))] []
set_option maxHeartbeats 4000000 in
theorem Aat (s : List UInt8) {h d} : FunOk Tryz.prog 119 [.pv (.s s)] h d (.pv (.b (De s))) [] := by
 refine Ao Af fn119 (by simp) rfl rfl fun F => ?_;by_cases h1 : s = []
 · subst h1;have e : De [] = false := My (by simp);have hl0 : (([] : List UInt8).length : Int) = 0 := rfl;simp (disch := omega) only [ir119, hl0, e, go_sem]
 have h1' : 1 ≤ s.length := List.length_pos_iff.2 h1;by_cases h2 : 12 < (s.length : Int)
 · have e : De s = false := My (by omega);simp (disch := omega) only [ir119, h1, h2, e, go_sem]
 by_cases h3 : s = [46]
 · subst h3;have e : De [46] = false := My (fun h => h.2.2.1 rfl);have hl0 : (([46] : List UInt8).length : Int) = 1 := rfl;simp (disch := omega) only [ir119, h1, hl0, e, go_sem]
 by_cases h4 : s = [46, 46]
 · subst h4;have e : De [46, 46] = false := My (fun h => h.2.2.2 rfl);have hl0 : (([46, 46] : List UInt8).length : Int) = 2 := rfl;simp (disch := omega) only [ir119, h1, h3, hl0, e, go_sem]
 simp (disch := omega) only [ir119, h1, h2, h3, h4, go_sem];refine A1 Af (Uf s) (fun k => k ≤ s.length ∧ ∀ j, j < k → Mc (s.getD j 0) = true) (fun k => s.length - k) 0 (by simp) (Aj ?_ ?_) fun k hk => ?_
 · simp (disch := omega) only [go_sem]
 · simp (disch := omega) only [go_sem]
 obtain ⟨hk1, hk2⟩ := hk;by_cases hlt : k < s.length
 · have hgo : Mc (s.getD k 0) = true → (k + 1 ≤ s.length ∧ ∀ j, j < k + 1 → Mc (s.getD j 0) = true) := fun h => ⟨hlt, fun j hj => by
    by_cases e : j = k
    · subst e; exact h
    · exact hk2 j (by omega)⟩
   have hbad := fun h => Wi (s := s) hlt h;generalize hb : s.getD k 0 = b at *;by_cases hok : Mc b = true
   · have hok' := of_decide_eq_true hok;have hg := hgo hok;have : (97 ≤ b.toNat ∧ b.toNat ≤ 122) ∨ (65 ≤ b.toNat ∧ b.toNat ≤ 90) ∨ (48 ≤ b.toNat ∧ b.toNat ≤ 57) ∨ b.toNat = 46 ∨ b.toNat = 95 ∨ b.toNat = 45 := by omega
     rcases this with hc | hc | hc | hc | hc | hc
     all_goals simp (disch := omega) only [Uf, hb, hc, go_sem]
     all_goals refine Ad (k + 1) _ _ rfl hg (by omega) ?_ ?_
     all_goals simp (disch := omega) only [go_sem]
   · have hok0 : Mc b = false := by simpa using hok
     have hok' := of_decide_eq_false hok0;have hg := hbad hok0;have : b.toNat < 45 ∨ b.toNat = 47 ∨ (58 ≤ b.toNat ∧ b.toNat ≤ 64) ∨ (91 ≤ b.toNat ∧ b.toNat ≤ 94) ∨ b.toNat = 96 ∨ 123 ≤ b.toNat := by omega
     rcases this with hc | hc | hc | hc | hc | hc
     all_goals simp (disch := omega) only [Uf, hb, hc, hg, go_sem]
 · obtain rfl : k = s.length := by omega
   have e := Yp h1' (by omega) h3 h4 hk2;simp (disch := omega) only [Uf, e, go_sem]
end Go.Proofs.YthmjebkldgdeiaaGreat.Fw
namespace Go.Proofs.YthmjebkldgdeiaaGreat.Fw
open Go.RowKit Go.Proofs
def Im (e : Evt) : Prop := 1 ≤ e.rep ∧ e.rep ≤ 8 ∧ 1 ≤ e.seq ∧ e.seq ≤ 1048576 ∧ e.dep (e.rep - 1).toNat + 1 = e.seq ∧ 1 ≤ e.kind ∧ e.kind ≤ 9
def Oj (e : Evt) : Prop := ∀ i, i < 8 → e.dep i ≤ 1048576
def Cs (b : Evt) : Bool := B0 b.orep b.oseq && (B0 b.drep b.dseq && (decide (b.name = []) && (decide ((b.gone.l.length : Int) = 0) && (decide ((b.base.l.length : Int) = 0) && (decide (b.off = 0) && (decide (b.data = []) && decide (b.ward = 0)))))))
noncomputable def F8 (e : Evt) : Bool :=
 if e.kind = 1 ∨ e.kind = 2 then (C1 e && (De e.name))
 else if e.kind = 3 then (Bl e.dep e.orep e.oseq && (Eb e.base.l 1 e.dep && (Cv (e.off) && (decide ((1 : Int) ≤ (e.data.length : Int)) && (Cv ((e.data.length : Int)) && (Cv (e.off + (e.data.length : Int))))))))
 else if e.kind = 4 then (Bl e.dep e.orep e.oseq && (Eb e.base.l 1 e.dep && (Cv (e.off))))
 else if e.kind = 5 then (Bl e.dep e.orep e.oseq && (Eb e.base.l 8 e.dep && (decide ((2 : Int) ≤ (e.base.l.length : Int)) && (Cv ((e.data.length : Int))))))
 else if e.kind = 6 then (Bl e.dep e.orep e.oseq && (Eb e.gone.l 8 e.dep))
 else if e.kind = 7 then (Bl e.dep e.orep e.oseq && (Eb e.gone.l 8 e.dep && (C1 e && (De e.name))))
 else if e.kind = 8 then (decide (1 ≤ e.ward) && (decide (e.ward ≤ 4)))
 else true
open Classical in
noncomputable def Bk (e : Evt) : Bool := decide (Im e) && (decide (Oj e) && (Cs (Cq e) && F8 e))
theorem F5 {e : Evt} (h : ¬ Im e) : Bk e = false := by simp [Bk, h]
theorem Ajl {e : Evt} (h : ¬ Oj e) : Bk e = false := by simp [Bk, h]
theorem Ax9 {e : Evt} (h : Cs (Cq e) = false) : Bk e = false := by simp [Bk, h]
theorem Aya {e : Evt} (h1 : Im e) (h2 : Oj e) (h3 : Cs (Cq e) = true) : Bk e = F8 e := by simp [Bk, h1, h2, h3]
def ev (e : Evt) : Prop := e.gone.ok ∧ e.base.ok ∧ e.gone.l.length ≤ 1000 ∧ e.base.l.length ≤ 1000 ∧ e.data.length ≤ 100000
theorem Aa6 {e : Evt} (h : e.kind = 1) : F8 e = (C1 e && (De e.name)) := by simp [F8, h]
theorem Ai4 {e : Evt} (h : e.kind = 2) : F8 e = (C1 e && (De e.name)) := by simp [F8, h]
theorem J5 {e : Evt} (h : e.kind = 3) : F8 e = (Bl e.dep e.orep e.oseq && (Eb e.base.l 1 e.dep && (Cv (e.off) && (decide ((1 : Int) ≤ (e.data.length : Int)) && (Cv ((e.data.length : Int)) && (Cv (e.off + (e.data.length : Int)))))))) := by simp [F8, h]
theorem N1 {e : Evt} (h : e.kind = 4) : F8 e = (Bl e.dep e.orep e.oseq && (Eb e.base.l 1 e.dep && (Cv (e.off)))) := by simp [F8, h]
theorem N0 {e : Evt} (h : e.kind = 5) : F8 e = (Bl e.dep e.orep e.oseq && (Eb e.base.l 8 e.dep && (decide ((2 : Int) ≤ (e.base.l.length : Int)) && (Cv ((e.data.length : Int)))))) := by simp [F8, h]
theorem Ur {e : Evt} (h : e.kind = 6) : F8 e = (Bl e.dep e.orep e.oseq && (Eb e.gone.l 8 e.dep)) := by simp [F8, h]
theorem Uq {e : Evt} (h : e.kind = 7) : F8 e = (Bl e.dep e.orep e.oseq && (Eb e.gone.l 8 e.dep && (C1 e && (De e.name)))) := by simp [F8, h]
theorem Ai3 {e : Evt} (h : e.kind = 8) : F8 e = (decide (1 ≤ e.ward) && (decide (e.ward ≤ 4))) := by simp [F8, h]
theorem Ai2 {e : Evt} (h : e.kind = 9) : F8 e = (true) := by simp [F8, h]
def Ah6 (e : Evt) (k : Nat) : FS := mk [(55, .pv (.i .i64 k)), (54, .vec 8 (vE e.dep)), (1, .p 1 0)] [(1, some (.var (.vec 21 (Be e))))]
set_option maxHeartbeats 16000000 in
theorem Av8 (e : Evt) (he : ev e) {h d} : FunOk Tryz.prog 82 [.vec 21 (Be e)] h d (.pv (.b (Bk e))) [] := by
 refine Ao Af fn82 (by simp) rfl rfl fun F => ?_;have hl := Ac e;obtain ⟨hg, hb, hgn, hbn, hdl⟩ := he;by_cases r1 : e.rep < 1
 · have eb := F5 (e := e) fun h => by have := h.1; omega
   simp (disch := omega) only [ir82, Da, r1, eb, go_sem]
 by_cases r2 : 8 < e.rep
 · have eb := F5 (e := e) fun h => by have := h.2.1; omega
   simp (disch := omega) only [ir82, Da, r1, r2, eb, go_sem]
 by_cases r3 : (e.seq : Int) < 1
 · have eb := F5 (e := e) fun h => by have := h.2.2.1; omega
   simp (disch := omega) only [ir82, Da, Fo, r1, r2, r3, eb, go_sem]
 by_cases r4 : 1048576 < (e.seq : Int)
 · have eb := F5 (e := e) fun h => by have := h.2.2.2.1; omega
   simp (disch := omega) only [ir82, Da, Fo, r1, r2, r3, r4, eb, go_sem]
 obtain ⟨k, hk⟩ : ∃ k : Nat, e.rep = (k : Int) + 1 := ⟨(e.rep - 1).toNat, by omega⟩
 have hk8 : k < 8 := by omega
 have ek : ((k : Int) + 1 - 1) = (k : Int) := by omega
 have ekn : (e.rep - 1).toNat = k := by omega
 by_cases r5 : (e.dep k : Int) = (e.seq : Int) - 1;rotate_left
 · have eb := F5 (e := e) fun h => by have := h.2.2.2.2.1; rw [ekn] at this; omega
   simp (disch := omega) only [ir82, Da, Fo, Ho, hk, ek, r3, r4, r5, eb, go_sem]
 by_cases r6 : e.kind < 1
 · have eb := F5 (e := e) fun h => by have := h.2.2.2.2.2.1; omega
   simp (disch := omega) only [ir82, Da, Fo, Ae, Ho, hk, ek, r3, r4, r5, r6, eb, go_sem]
 by_cases r7 : 9 < e.kind
 · have eb := F5 (e := e) fun h => by have := h.2.2.2.2.2.2; omega
   simp (disch := omega) only [ir82, Da, Fo, Ae, Ho, hk, ek, r3, r4, r5, r6, r7, eb, go_sem]
 have hB : Im e := ⟨by omega, by omega, by omega, by omega, by rw [ekn]; omega, by omega, by omega⟩
 simp (disch := omega) only [ir82, Da, Fo, Ae, E4, Ho, hk, ek, r3, r4, r5, r6, r7, go_sem];refine A1 Af (Ah6 e) (fun k => k ≤ 8 ∧ ∀ i, i < k → e.dep i ≤ 1048576) (fun k => 8 - k) 0 (by simp) (Aj ?_ ?_) fun j hj => ?_
 · simp (disch := omega) only [go_sem]
 · simp (disch := omega) only [go_sem]
 obtain ⟨hj1, hj2⟩ := hj;by_cases hlt : j < 8
 · by_cases hd : 1048576 < (e.dep j : Int)
   · have eb := Ajl (e := e) fun h => by have := h j hlt; omega
     simp (disch := omega) only [Ah6, hd, eb, go_sem]
   · simp (disch := omega) only [Ah6, hd, go_sem];refine Ad (j + 1) _ _ rfl ⟨by omega, fun i hi => ?_⟩ (by omega) ?_ ?_
     · by_cases e : i = j
       · subst e; omega
       · exact hj2 i (by omega)
     · simp (disch := omega) only [go_sem]
     · simp (disch := omega) only [go_sem]
 obtain rfl : j = 8 := by omega
 have hD : Oj e := hj2;simp (disch := omega) only [Ah6, Bh, go_sem];refine Aa (A1v e) ?_;have cz := Ax9 (e := e);have ck := fun h3 => Aya (e := e) hB hD h3;have hbl := Ac (Cq e);generalize Cq e = b at *

 by_cases z1' : B0 b.orep b.oseq = false
 · have eb := cz (by simp only [Cs, z1', decide_true, decide_false, Bool.true_and, Bool.false_and, Bool.and_true, Bool.and_false, Bool.and_self]);simp (disch := omega) only [Ag, Ar, Aq, Eu, hl, hbl, z1', eb, go_sem]
 have z1 : B0 b.orep b.oseq = true := by simpa using z1'
 by_cases z2' : B0 b.drep b.dseq = false
 · have eb := cz (by simp only [Cs, z1, z2', decide_true, decide_false, Bool.true_and, Bool.false_and, Bool.and_true, Bool.and_false, Bool.and_self]);simp (disch := omega) only [Ag, Ar, Aq, Eu, hl, hbl, z1, z2', eb, go_sem]
 have z2 : B0 b.drep b.dseq = true := by simpa using z2'
 by_cases z3 : b.name = [];rotate_left
 · have eb := cz (by simp only [Cs, z1, z2, z3, decide_true, decide_false, Bool.true_and, Bool.false_and, Bool.and_true, Bool.and_false, Bool.and_self]);simp (disch := omega) only [Ag, Ar, Aq, Eu, hl, hbl, z1, z2, z3, eb, go_sem]
 by_cases z4 : (b.gone.l.length : Int) = 0;rotate_left
 · have eb := cz (by simp only [Cs, z1, z2, z3, z4, decide_true, decide_false, Bool.true_and, Bool.false_and, Bool.and_true, Bool.and_false, Bool.and_self]);simp (disch := omega) only [Ag, Ar, Aq, Eu, hl, hbl, z1, z2, z3, z4, eb, go_sem]
 by_cases z5 : (b.base.l.length : Int) = 0;rotate_left
 · have eb := cz (by simp only [Cs, z1, z2, z3, z4, z5, decide_true, decide_false, Bool.true_and, Bool.false_and, Bool.and_true, Bool.and_false, Bool.and_self]);simp (disch := omega) only [Ag, Ar, Aq, Eu, hl, hbl, z1, z2, z3, z4, z5, eb, go_sem]
 by_cases z6 : b.off = 0;rotate_left
 · have eb := cz (by simp only [Cs, z1, z2, z3, z4, z5, z6, decide_true, decide_false, Bool.true_and, Bool.false_and, Bool.and_true, Bool.and_false, Bool.and_self]);simp (disch := omega) only [Ag, Ar, Aq, Eu, hl, hbl, z1, z2, z3, z4, z5, z6, eb, go_sem]
 by_cases z7 : b.data = [];rotate_left
 · have eb := cz (by simp only [Cs, z1, z2, z3, z4, z5, z6, z7, decide_true, decide_false, Bool.true_and, Bool.false_and, Bool.and_true, Bool.and_false, Bool.and_self]);simp (disch := omega) only [Ag, Ar, Aq, Eu, hl, hbl, z1, z2, z3, z4, z5, z6, z7, eb, go_sem]
 by_cases z8 : b.ward = 0;rotate_left
 · have eb := cz (by simp only [Cs, z1, z2, z3, z4, z5, z6, z7, z8, decide_true, decide_false, Bool.true_and, Bool.false_and, Bool.and_true, Bool.and_false, Bool.and_self]);simp (disch := omega) only [Ag, Ar, Aq, Eu, hl, hbl, z1, z2, z3, z4, z5, z6, z7, z8, eb, go_sem]
 have ez := ck (by simp only [Cs, z1, z2, z3, z4, z5, z6, z7, z8, decide_true, decide_false, Bool.true_and, Bool.false_and, Bool.and_true, Bool.and_false, Bool.and_self]);have hkk : e.kind = 1 ∨ e.kind = 2 ∨ e.kind = 3 ∨ e.kind = 4 ∨ e.kind = 5 ∨ e.kind = 6 ∨ e.kind = 7 ∨ e.kind = 8 ∨ e.kind = 9 := by omega
 rcases hkk with hki | hki | hki | hki | hki | hki | hki | hki | hki
 · rw [Aa6 hki] at ez;simp (disch := omega) only [Ag, Ar, Aq, Eu, hl, hbl, z1, z2, z3, z4, z5, z6, z7, z8, hki, go_sem];refine Aa (Aas e) ?_;by_cases s0' : C1 e = false
   · simp only [s0', decide_true, decide_false, Bool.true_and, Bool.false_and, Bool.and_true, Bool.and_false, Bool.and_self] at ez;simp (disch := omega) only [Ag, Ar, Aq, s0', ez, go_sem]
   have s0 : C1 e = true := by simpa using s0'
   simp (disch := omega) only [Ag, Ar, Aq, s0, go_sem];refine Aa (Afw _) ?_;by_cases s1' : De e.name = false
   · simp only [s0, s1', decide_true, decide_false, Bool.true_and, Bool.false_and, Bool.and_true, Bool.and_false, Bool.and_self] at ez;simp (disch := omega) only [Ag, Ar, Aq, s0, s1', ez, go_sem]
   have s1 : De e.name = true := by simpa using s1'
   simp only [s0, s1, decide_true, decide_false, Bool.true_and, Bool.false_and, Bool.and_true, Bool.and_false, Bool.and_self] at ez;simp (disch := omega) only [Ag, Ar, Aq, s0, s1, ez, go_sem]
 · rw [Ai4 hki] at ez;simp (disch := omega) only [Ag, Ar, Aq, Eu, hl, hbl, z1, z2, z3, z4, z5, z6, z7, z8, hki, go_sem];refine Aa (Aas e) ?_;by_cases s0' : C1 e = false
   · simp only [s0', decide_true, decide_false, Bool.true_and, Bool.false_and, Bool.and_true, Bool.and_false, Bool.and_self] at ez;simp (disch := omega) only [Ag, Ar, Aq, s0', ez, go_sem]
   have s0 : C1 e = true := by simpa using s0'
   simp (disch := omega) only [Ag, Ar, Aq, s0, go_sem];refine Aa (Afw _) ?_;by_cases s1' : De e.name = false
   · simp only [s0, s1', decide_true, decide_false, Bool.true_and, Bool.false_and, Bool.and_true, Bool.and_false, Bool.and_self] at ez;simp (disch := omega) only [Ag, Ar, Aq, s0, s1', ez, go_sem]
   have s1 : De e.name = true := by simpa using s1'
   simp only [s0, s1, decide_true, decide_false, Bool.true_and, Bool.false_and, Bool.and_true, Bool.and_false, Bool.and_self] at ez;simp (disch := omega) only [Ag, Ar, Aq, s0, s1, ez, go_sem]
 · rw [J5 hki] at ez;simp (disch := omega) only [Ag, Ar, Aq, Eu, hl, hbl, z1, z2, z3, z4, z5, z6, z7, z8, hki, go_sem];refine Aa (Gq _ _ _) ?_;by_cases s0' : Bl e.dep e.orep e.oseq = false
   · simp only [s0', decide_true, decide_false, Bool.true_and, Bool.false_and, Bool.and_true, Bool.and_false, Bool.and_self] at ez;simp (disch := omega) only [Ag, Ar, Aq, s0', ez, go_sem]
   have s0 : Bl e.dep e.orep e.oseq = true := by simpa using s0'
   simp (disch := omega) only [Ag, Ar, Aq, s0, go_sem];refine Aa (Ac9 (l := e.base.l) (most := 1) hb hbn) ?_;by_cases s1' : Eb e.base.l 1 e.dep = false
   · simp only [s0, s1', decide_true, decide_false, Bool.true_and, Bool.false_and, Bool.and_true, Bool.and_false, Bool.and_self] at ez;simp (disch := omega) only [Ag, Ar, Aq, s0, s1', ez, go_sem]
   have s1 : Eb e.base.l 1 e.dep = true := by simpa using s1'
   simp (disch := omega) only [Ag, Ar, Aq, s0, s1, go_sem];refine Aa (Wa (e.off)) ?_;by_cases s2' : Cv (e.off) = false
   · simp only [s0, s1, s2', decide_true, decide_false, Bool.true_and, Bool.false_and, Bool.and_true, Bool.and_false, Bool.and_self] at ez;simp (disch := omega) only [Ag, Ar, Aq, s0, s1, s2', ez, go_sem]
   have s2 : Cv (e.off) = true := by simpa using s2'
   have s2b := of_decide_eq_true s2;by_cases s3 : (1 : Int) ≤ (e.data.length : Int);rotate_left
   · simp only [s0, s1, s2, s3, decide_true, decide_false, Bool.true_and, Bool.false_and, Bool.and_true, Bool.and_false, Bool.and_self] at ez;simp (disch := omega) only [Ag, Ar, Aq, s0, s1, s2, s3, ez, go_sem]
   simp (disch := omega) only [Ag, Ar, Aq, s0, s1, s2, s3, go_sem];refine Aa (Wa ((e.data.length : Int))) ?_;by_cases s4' : Cv ((e.data.length : Int)) = false
   · simp only [s0, s1, s2, s3, s4', decide_true, decide_false, Bool.true_and, Bool.false_and, Bool.and_true, Bool.and_false, Bool.and_self] at ez;simp (disch := omega) only [Ag, Ar, Aq, s0, s1, s2, s3, s4', ez, go_sem]
   have s4 : Cv ((e.data.length : Int)) = true := by simpa using s4'
   have s4b := of_decide_eq_true s4;simp (disch := omega) only [Ag, Ar, Aq, s0, s1, s2, s3, s4, go_sem];refine Aa (Wa (e.off + (e.data.length : Int))) ?_;by_cases s5' : Cv (e.off + (e.data.length : Int)) = false
   · simp only [s0, s1, s2, s3, s4, s5', decide_true, decide_false, Bool.true_and, Bool.false_and, Bool.and_true, Bool.and_false, Bool.and_self] at ez;simp (disch := omega) only [Ag, Ar, Aq, s0, s1, s2, s3, s4, s5', ez, go_sem]
   have s5 : Cv (e.off + (e.data.length : Int)) = true := by simpa using s5'
   have s5b := of_decide_eq_true s5;simp only [s0, s1, s2, s3, s4, s5, decide_true, decide_false, Bool.true_and, Bool.false_and, Bool.and_true, Bool.and_false, Bool.and_self] at ez;simp (disch := omega) only [Ag, Ar, Aq, s0, s1, s2, s3, s4, s5, ez, go_sem]
 · rw [N1 hki] at ez;simp (disch := omega) only [Ag, Ar, Aq, Eu, hl, hbl, z1, z2, z3, z4, z5, z6, z7, z8, hki, go_sem];refine Aa (Gq _ _ _) ?_;by_cases s0' : Bl e.dep e.orep e.oseq = false
   · simp only [s0', decide_true, decide_false, Bool.true_and, Bool.false_and, Bool.and_true, Bool.and_false, Bool.and_self] at ez;simp (disch := omega) only [Ag, Ar, Aq, s0', ez, go_sem]
   have s0 : Bl e.dep e.orep e.oseq = true := by simpa using s0'
   simp (disch := omega) only [Ag, Ar, Aq, s0, go_sem];refine Aa (Ac9 (l := e.base.l) (most := 1) hb hbn) ?_;by_cases s1' : Eb e.base.l 1 e.dep = false
   · simp only [s0, s1', decide_true, decide_false, Bool.true_and, Bool.false_and, Bool.and_true, Bool.and_false, Bool.and_self] at ez;simp (disch := omega) only [Ag, Ar, Aq, s0, s1', ez, go_sem]
   have s1 : Eb e.base.l 1 e.dep = true := by simpa using s1'
   simp (disch := omega) only [Ag, Ar, Aq, s0, s1, go_sem];refine Aa (Wa (e.off)) ?_;by_cases s2' : Cv (e.off) = false
   · simp only [s0, s1, s2', decide_true, decide_false, Bool.true_and, Bool.false_and, Bool.and_true, Bool.and_false, Bool.and_self] at ez;simp (disch := omega) only [Ag, Ar, Aq, s0, s1, s2', ez, go_sem]
   have s2 : Cv (e.off) = true := by simpa using s2'
   have s2b := of_decide_eq_true s2;simp only [s0, s1, s2, decide_true, decide_false, Bool.true_and, Bool.false_and, Bool.and_true, Bool.and_false, Bool.and_self] at ez;simp (disch := omega) only [Ag, Ar, Aq, s0, s1, s2, ez, go_sem]
 · rw [N0 hki] at ez;simp (disch := omega) only [Ag, Ar, Aq, Eu, hl, hbl, z1, z2, z3, z4, z5, z6, z7, z8, hki, go_sem];refine Aa (Gq _ _ _) ?_;by_cases s0' : Bl e.dep e.orep e.oseq = false
   · simp only [s0', decide_true, decide_false, Bool.true_and, Bool.false_and, Bool.and_true, Bool.and_false, Bool.and_self] at ez;simp (disch := omega) only [Ag, Ar, Aq, s0', ez, go_sem]
   have s0 : Bl e.dep e.orep e.oseq = true := by simpa using s0'
   simp (disch := omega) only [Ag, Ar, Aq, s0, go_sem];refine Aa (Ac9 (l := e.base.l) (most := 8) hb hbn) ?_;by_cases s1' : Eb e.base.l 8 e.dep = false
   · simp only [s0, s1', decide_true, decide_false, Bool.true_and, Bool.false_and, Bool.and_true, Bool.and_false, Bool.and_self] at ez;simp (disch := omega) only [Ag, Ar, Aq, s0, s1', ez, go_sem]
   have s1 : Eb e.base.l 8 e.dep = true := by simpa using s1'
   by_cases s2 : (2 : Int) ≤ (e.base.l.length : Int);rotate_left
   · simp only [s0, s1, s2, decide_true, decide_false, Bool.true_and, Bool.false_and, Bool.and_true, Bool.and_false, Bool.and_self] at ez;simp (disch := omega) only [Ag, Ar, Aq, s0, s1, s2, ez, go_sem]
   simp (disch := omega) only [Ag, Ar, Aq, s0, s1, s2, go_sem];refine Aa (Wa ((e.data.length : Int))) ?_;by_cases s3' : Cv ((e.data.length : Int)) = false
   · simp only [s0, s1, s2, s3', decide_true, decide_false, Bool.true_and, Bool.false_and, Bool.and_true, Bool.and_false, Bool.and_self] at ez;simp (disch := omega) only [Ag, Ar, Aq, s0, s1, s2, s3', ez, go_sem]
   have s3 : Cv ((e.data.length : Int)) = true := by simpa using s3'
   have s3b := of_decide_eq_true s3;simp only [s0, s1, s2, s3, decide_true, decide_false, Bool.true_and, Bool.false_and, Bool.and_true, Bool.and_false, Bool.and_self] at ez;simp (disch := omega) only [Ag, Ar, Aq, s0, s1, s2, s3, ez, go_sem]
 · rw [Ur hki] at ez;simp (disch := omega) only [Ag, Ar, Aq, Eu, hl, hbl, z1, z2, z3, z4, z5, z6, z7, z8, hki, go_sem];refine Aa (Gq _ _ _) ?_;by_cases s0' : Bl e.dep e.orep e.oseq = false
   · simp only [s0', decide_true, decide_false, Bool.true_and, Bool.false_and, Bool.and_true, Bool.and_false, Bool.and_self] at ez;simp (disch := omega) only [Ag, Ar, Aq, s0', ez, go_sem]
   have s0 : Bl e.dep e.orep e.oseq = true := by simpa using s0'
   simp (disch := omega) only [Ag, Ar, Aq, s0, go_sem];refine Aa (Ac9 (l := e.gone.l) (most := 8) hg hgn) ?_;by_cases s1' : Eb e.gone.l 8 e.dep = false
   · simp only [s0, s1', decide_true, decide_false, Bool.true_and, Bool.false_and, Bool.and_true, Bool.and_false, Bool.and_self] at ez;simp (disch := omega) only [Ag, Ar, Aq, s0, s1', ez, go_sem]
   have s1 : Eb e.gone.l 8 e.dep = true := by simpa using s1'
   simp only [s0, s1, decide_true, decide_false, Bool.true_and, Bool.false_and, Bool.and_true, Bool.and_false, Bool.and_self] at ez;simp (disch := omega) only [Ag, Ar, Aq, s0, s1, ez, go_sem]
 · rw [Uq hki] at ez;simp (disch := omega) only [Ag, Ar, Aq, Eu, hl, hbl, z1, z2, z3, z4, z5, z6, z7, z8, hki, go_sem];refine Aa (Gq _ _ _) ?_;by_cases s0' : Bl e.dep e.orep e.oseq = false
   · simp only [s0', decide_true, decide_false, Bool.true_and, Bool.false_and, Bool.and_true, Bool.and_false, Bool.and_self] at ez;simp (disch := omega) only [Ag, Ar, Aq, s0', ez, go_sem]
   have s0 : Bl e.dep e.orep e.oseq = true := by simpa using s0'
   simp (disch := omega) only [Ag, Ar, Aq, s0, go_sem];refine Aa (Ac9 (l := e.gone.l) (most := 8) hg hgn) ?_;by_cases s1' : Eb e.gone.l 8 e.dep = false
   · simp only [s0, s1', decide_true, decide_false, Bool.true_and, Bool.false_and, Bool.and_true, Bool.and_false, Bool.and_self] at ez;simp (disch := omega) only [Ag, Ar, Aq, s0, s1', ez, go_sem]
   have s1 : Eb e.gone.l 8 e.dep = true := by simpa using s1'
   simp (disch := omega) only [Ag, Ar, Aq, s0, s1, go_sem];refine Aa (Aas e) ?_;by_cases s2' : C1 e = false
   · simp only [s0, s1, s2', decide_true, decide_false, Bool.true_and, Bool.false_and, Bool.and_true, Bool.and_false, Bool.and_self] at ez;simp (disch := omega) only [Ag, Ar, Aq, s0, s1, s2', ez, go_sem]
   have s2 : C1 e = true := by simpa using s2'
   simp (disch := omega) only [Ag, Ar, Aq, s0, s1, s2, go_sem];refine Aa (Afw _) ?_;by_cases s3' : De e.name = false
   · simp only [s0, s1, s2, s3', decide_true, decide_false, Bool.true_and, Bool.false_and, Bool.and_true, Bool.and_false, Bool.and_self] at ez;simp (disch := omega) only [Ag, Ar, Aq, s0, s1, s2, s3', ez, go_sem]
   have s3 : De e.name = true := by simpa using s3'
   simp only [s0, s1, s2, s3, decide_true, decide_false, Bool.true_and, Bool.false_and, Bool.and_true, Bool.and_false, Bool.and_self] at ez;simp (disch := omega) only [Ag, Ar, Aq, s0, s1, s2, s3, ez, go_sem]
 · rw [Ai3 hki] at ez;by_cases s0 : 1 ≤ e.ward;rotate_left
   · simp only [s0, decide_true, decide_false, Bool.true_and, Bool.false_and, Bool.and_true, Bool.and_false, Bool.and_self] at ez;simp (disch := omega) only [Ag, Ar, Aq, Eu, hl, hbl, z1, z2, z3, z4, z5, z6, z7, z8, hki, s0, ez, go_sem]
   by_cases s1 : e.ward ≤ 4;rotate_left
   · simp only [s0, s1, decide_true, decide_false, Bool.true_and, Bool.false_and, Bool.and_true, Bool.and_false, Bool.and_self] at ez;simp (disch := omega) only [Ag, Ar, Aq, Eu, hl, hbl, z1, z2, z3, z4, z5, z6, z7, z8, hki, s0, s1, ez, go_sem]
   simp only [s0, s1, decide_true, decide_false, Bool.true_and, Bool.false_and, Bool.and_true, Bool.and_false, Bool.and_self] at ez;simp (disch := omega) only [Ag, Ar, Aq, Eu, hl, hbl, z1, z2, z3, z4, z5, z6, z7, z8, hki, s0, s1, ez, go_sem]
 · rw [Ai2 hki] at ez;simp (disch := omega) only [Ag, Ar, Aq, Eu, hl, hbl, z1, z2, z3, z4, z5, z6, z7, z8, hki, ez, go_sem]
theorem Gi {e : Evt} (h1 : Im e) (h2 : Oj e) : Bk e = (Cs (Cq e) && F8 e) := by simp [Bk, h1, h2]
theorem K8 : B0 0 0 = true := rfl
theorem Arr (l : List Bn) (n : Int) (a : Vc) : Eb l n a = (Gy a l && decide ((l.length : Int) ≤ n)) := by unfold Eb; rw [Bool.and_comm]
theorem Azm (f : Int) (s : List UInt8) : (Cv f && (decide ((1 : Int) ≤ (s.length : Int)) && (Cv (s.length : Int) && Cv (f + (s.length : Int))))) = (Cv f && (!decide (s = []) && decide ((s.length : Int) ≤ 200 - f))) := by
 have e1 : decide ((1 : Int) ≤ (s.length : Int)) = !decide (s = []) := by
  cases s with
  | nil => rfl
  | cons a s => simp; omega
 rw [e1];unfold Cv;by_cases h1 : 0 ≤ f ∧ f ≤ 200
 · rw [decide_eq_true h1, Bool.true_and, Bool.true_and];congr 1;rw [← Bool.decide_and];exact decide_eq_decide.2 (by omega)
 · rw [decide_eq_false h1, Bool.false_and, Bool.false_and]
theorem Aor (s : List UInt8) : Cv (s.length : Int) = decide ((s.length : Int) ≤ 200) := decide_eq_decide.2 (by omega)
theorem Aul {e : Evt} (h : e.kind = 1) : Cs (Cq e) = Al e false true false false false false false := by simp [Cs, Cq, Al, h, K8, SlI.nil, Bool.and_assoc]
theorem Ayj {e : Evt} (h1 : Im e) (h2 : Oj e) (h : e.kind = 1) : Bk e = (Al e false true false false false false false && (C1 e && (De e.name))) := by rw [Gi h1 h2, Aul h, Aa6 h]
theorem Azx {e : Evt} (h : e.kind = 2) : Cs (Cq e) = Al e false true false false false false false := by simp [Cs, Cq, Al, h, K8, SlI.nil, Bool.and_assoc]
theorem Ayi {e : Evt} (h1 : Im e) (h2 : Oj e) (h : e.kind = 2) : Bk e = (Al e false true false false false false false && (C1 e && (De e.name))) := by rw [Gi h1 h2, Azx h, Ai4 h]
theorem A9m {e : Evt} (h : e.kind = 3) : Cs (Cq e) = Al e true false false true true true false := by simp [Cs, Cq, Al, h, K8, SlI.nil, Bool.and_assoc]
theorem Ayh {e : Evt} (h1 : Im e) (h2 : Oj e) (h : e.kind = 3) : Bk e = (Al e true false false true true true false && (Bl e.dep e.orep e.oseq && (Gy e.dep e.base.l && (decide ((e.base.l.length : Int) ≤ 1) && (Cv e.off && (!decide (e.data = []) && (decide ((e.data.length : Int) ≤ 200 - e.off)))))))) := by rw [Gi h1 h2, A9m h, J5 h]; simp only [Arr, Azm, Bool.and_assoc]
theorem A4y {e : Evt} (h : e.kind = 4) : Cs (Cq e) = Al e true false false true true false false := by simp [Cs, Cq, Al, h, K8, SlI.nil, Bool.and_assoc]
theorem Ayg {e : Evt} (h1 : Im e) (h2 : Oj e) (h : e.kind = 4) : Bk e = (Al e true false false true true false false && (Bl e.dep e.orep e.oseq && (Gy e.dep e.base.l && (decide ((e.base.l.length : Int) ≤ 1) && (Cv e.off))))) := by rw [Gi h1 h2, A4y h, N1 h]; simp only [Arr, Azm, Bool.and_assoc]
theorem A9l {e : Evt} (h : e.kind = 5) : Cs (Cq e) = Al e true false false true false true false := by simp [Cs, Cq, Al, h, K8, SlI.nil, Bool.and_assoc]
theorem Ayf {e : Evt} (h1 : Im e) (h2 : Oj e) (h : e.kind = 5) : Bk e = (Al e true false false true false true false && (Bl e.dep e.orep e.oseq && (Gy e.dep e.base.l && (decide ((2 : Int) ≤ (e.base.l.length : Int)) && (decide ((e.base.l.length : Int) ≤ 8) && (decide ((e.data.length : Int) ≤ 200))))))) := by rw [Gi h1 h2, A9l h, N0 h]; simp only [Arr, Aor, Bool.and_assoc]; congr 3; cases decide ((e.base.l.length : Int) ≤ 8) <;> cases decide ((2 : Int) ≤ (e.base.l.length : Int)) <;> rfl
theorem A4x {e : Evt} (h : e.kind = 6) : Cs (Cq e) = Al e true false true false false false false := by simp [Cs, Cq, Al, h, K8, SlI.nil, Bool.and_assoc]
theorem Aye {e : Evt} (h1 : Im e) (h2 : Oj e) (h : e.kind = 6) : Bk e = (Al e true false true false false false false && (Bl e.dep e.orep e.oseq && (Eb e.gone.l 8 e.dep))) := by rw [Gi h1 h2, A4x h, Ur h]
theorem A4w {e : Evt} (h : e.kind = 7) : Cs (Cq e) = Al e true true true false false false false := by simp [Cs, Cq, Al, h, K8, SlI.nil, Bool.and_assoc]
theorem Ayd {e : Evt} (h1 : Im e) (h2 : Oj e) (h : e.kind = 7) : Bk e = (Al e true true true false false false false && (Bl e.dep e.orep e.oseq && (Eb e.gone.l 8 e.dep && (C1 e && (De e.name))))) := by rw [Gi h1 h2, A4w h, Uq h]
theorem Azw {e : Evt} (h : e.kind = 8) : Cs (Cq e) = Al e false false false false false false true := by simp [Cs, Cq, Al, h, K8, SlI.nil, Bool.and_assoc]
theorem Ayc {e : Evt} (h1 : Im e) (h2 : Oj e) (h : e.kind = 8) : Bk e = (Al e false false false false false false true && (decide (1 ≤ e.ward) && (decide (e.ward ≤ 4)))) := by rw [Gi h1 h2, Azw h, Ai3 h]
theorem Azv {e : Evt} (h : e.kind = 9) : Cs (Cq e) = Al e false false false false false false false := by simp [Cs, Cq, Al, h, K8, SlI.nil, Bool.and_assoc]
theorem Ayb {e : Evt} (h1 : Im e) (h2 : Oj e) (h : e.kind = 9) : Bk e = (Al e false false false false false false false && (true)) := by rw [Gi h1 h2, Azv h, Ai2 h]
def Aaa (e : Evt) (k : Nat) : FS := mk [(3, .pv (.i .i64 k)), (1, .p 1 0)] [(1, some (.var (.vec 21 (Be e))))]
theorem Az3 {a b : Nat} (ha : a < 4294967296) (hb : 1 ≤ b ∧ b ≤ 1048576) (h : ¬ a + 1 = b) : ¬ IntKind.u32.wrap ((a : Int) + 1) = (b : Int) := by
 by_cases h1 : a + 1 < 4294967296
 · rw [Ab2 (by omega)]; omega
 · have : (a : Int) + 1 = 4294967296 := by omega
   rw [this];have : IntKind.u32.wrap 4294967296 = 0 := by decide
   rw [this]; omega
set_option maxHeartbeats 40000000 in
theorem Ap7 (e : Evt) (he : ev e) (hdep : ∀ i, i < 8 → e.dep i < 4294967296) {h d} : FunOk Tryz.prog 83 [.vec 21 (Be e)] h d (.pv (.b (Bk e))) [] := by
 refine Ao Af fn83 (by simp) rfl rfl fun F => ?_;have hl := Ac e;obtain ⟨hg, hb, hgn, hbn, hdl⟩ := he;by_cases r1 : e.rep < 1
 · have eb := F5 (e := e) fun h => by have := h.1; omega
   (try simp only [Ch, Cg, Cf, Ce, Cd, Cc, Cb, Ca]); simp (maxSteps := 10000000) (disch := omega) only [ir83, Da, r1, eb, go_sem]
 by_cases r2 : 8 < e.rep
 · have eb := F5 (e := e) fun h => by have := h.2.1; omega
   (try simp only [Ch, Cg, Cf, Ce, Cd, Cc, Cb, Ca]); simp (maxSteps := 10000000) (disch := omega) only [ir83, Da, r1, r2, eb, go_sem]
 by_cases r3 : (e.seq : Int) < 1
 · have eb := F5 (e := e) fun h => by have := h.2.2.1; omega
   (try simp only [Ch, Cg, Cf, Ce, Cd, Cc, Cb, Ca]); simp (maxSteps := 10000000) (disch := omega) only [ir83, Da, Fo, r1, r2, r3, eb, go_sem]
 by_cases r4 : 1048576 < (e.seq : Int)
 · have eb := F5 (e := e) fun h => by have := h.2.2.2.1; omega
   (try simp only [Ch, Cg, Cf, Ce, Cd, Cc, Cb, Ca]); simp (maxSteps := 10000000) (disch := omega) only [ir83, Da, Fo, r1, r2, r3, r4, eb, go_sem]
 obtain ⟨k, hk⟩ : ∃ k : Nat, e.rep = (k : Int) + 1 := ⟨(e.rep - 1).toNat, by omega⟩
 have hk8 : k < 8 := by omega
 have ekn : (e.rep - 1).toNat = k := by omega
 have egv : Hi e.dep ((k : Int) + 1) = e.dep k := by
  have e1 : ((k : Int) + 1 - 1).toNat = k := by omega
  simp [Hi, e1]; omega
 have hdk := hdep k hk8;by_cases r5 : e.dep k + 1 = e.seq;rotate_left
 · have eb := F5 (e := e) fun h => by have := h.2.2.2.2.1; rw [ekn] at this; omega
   have hw := Az3 hdk (by omega) r5
   (try simp only [Ch, Cg, Cf, Ce, Cd, Cc, Cb, Ca]); simp (maxSteps := 10000000) (disch := omega) only [ir83, Da, Fo, E4, Dn, hk, r3, r4, eb, go_sem]
   refine Aa (Pa _ _) ?_
   (try simp only [Ch, Cg, Cf, Ce, Cd, Cc, Cb, Ca]); simp (maxSteps := 10000000) (disch := omega) only [egv, hw, Fo, eb, go_sem]
 have r5' : (e.dep k : Int) + 1 = (e.seq : Int) := by omega
 (try simp only [Ch, Cg, Cf, Ce, Cd, Cc, Cb, Ca]); simp (maxSteps := 10000000) (disch := omega) only [ir83, Da, Fo, E4, Dn, hk, r3, r4, go_sem]
 refine Aa (Pa _ _) ?_
 (try simp only [Ch, Cg, Cf, Ce, Cd, Cc, Cb, Ca]); simp (maxSteps := 10000000) (disch := omega) only [egv, r5', Fo, go_sem]
 refine A1 Af (Aaa e) (fun k => k ≤ 8 ∧ ∀ i, i < k → e.dep i ≤ 1048576) (fun k => 8 - k) 0 (by simp) (Aj ?_ ?_) fun j hj => ?_
 · (try simp only [Ch, Cg, Cf, Ce, Cd, Cc, Cb, Ca]); simp (maxSteps := 10000000) (disch := omega) only [go_sem]
 · (try simp only [Ch, Cg, Cf, Ce, Cd, Cc, Cb, Ca]); simp (maxSteps := 10000000) (disch := omega) only [go_sem]
 obtain ⟨hj1, hj2⟩ := hj;by_cases hlt : j < 8
 · by_cases hd : 1048576 < (e.dep j : Int)
   · have eb := Ajl (e := e) fun h => by have := h j hlt; omega
     (try simp only [Ch, Cg, Cf, Ce, Cd, Cc, Cb, Ca]); simp (maxSteps := 10000000) (disch := omega) only [Aaa, Ho, hd, eb, go_sem]
   · (try simp only [Ch, Cg, Cf, Ce, Cd, Cc, Cb, Ca]); simp (maxSteps := 10000000) (disch := omega) only [Aaa, Ho, hd, go_sem]
     refine Ad (j + 1) _ _ rfl ⟨by omega, fun i hi => ?_⟩ (by omega) ?_ ?_
     · by_cases e : i = j
       · subst e; omega
       · exact hj2 i (by omega)
     · (try simp only [Ch, Cg, Cf, Ce, Cd, Cc, Cb, Ca]); simp (maxSteps := 10000000) (disch := omega) only [go_sem]
     · (try simp only [Ch, Cg, Cf, Ce, Cd, Cc, Cb, Ca]); simp (maxSteps := 10000000) (disch := omega) only [go_sem]
 obtain rfl : j = 8 := by omega
 have hD : Oj e := hj2
 (try simp only [Ch, Cg, Cf, Ce, Cd, Cc, Cb, Ca]); simp (maxSteps := 10000000) (disch := omega) only [Aaa, Ac, go_sem]
 refine Aa (Mv _ _ _) ?_
 (try simp only [Ch, Cg, Cf, Ce, Cd, Cc, Cb, Ca]); simp (maxSteps := 10000000) (disch := omega) only [Ac, go_sem]
 refine Aa (A0 _ _) ?_;by_cases hz' : B0 e.drep e.dseq = false
 all_goals first
  | (have hpl : C1 e = Bl e.dep e.drep e.dseq := by simp only [C1, hz', Bool.false_or]
     (try simp only [Ch, Cg, Cf, Ce, Cd, Cc, Cb, Ca]); simp (maxSteps := 10000000) (disch := omega) only [hz', go_sem]
     refine Aa (Mv _ _ _) ?_)
  | (have hz : B0 e.drep e.dseq = true := by simpa using hz'
     have hpl : C1 e = true := by simp only [C1, hz, Bool.true_or]
     (try simp only [Ch, Cg, Cf, Ce, Cd, Cc, Cb, Ca]); simp (maxSteps := 10000000) (disch := omega) only [hz, go_sem])
 all_goals by_cases hgl0 : (e.gone.l.length : Int) ≤ 8
 all_goals first
  | (have hgl : Eb e.gone.l 8 e.dep = Gy e.dep e.gone.l := by simp only [Eb, hgl0, decide_true, Bool.true_and]
     (try simp only [Ch, Cg, Cf, Ce, Cd, Cc, Cb, Ca]); simp (maxSteps := 10000000) (disch := omega) only [hgl0, go_sem]
     refine Aa (Apn (l := e.gone.l) hg hgn) ?_
     (try simp only [Ch, Cg, Cf, Ce, Cd, Cc, Cb, Ca]); simp (maxSteps := 10000000) (disch := omega) only [hgl0, go_sem])
  | (have hgl : Eb e.gone.l 8 e.dep = false := by simp only [Eb, hgl0, decide_false, Bool.false_and]
     (try simp only [Ch, Cg, Cf, Ce, Cd, Cc, Cb, Ca]); simp (maxSteps := 10000000) (disch := omega) only [hgl0, go_sem])
 all_goals refine Aa (Apn (l := e.base.l) hb hbn) ?_
 all_goals by_cases ho1 : 0 ≤ e.off
 rotate_left
 all_goals by_cases ho2 : e.off ≤ 200
 all_goals try (exfalso; omega)
 all_goals first
  | (have hso : Cv e.off = true := decide_eq_true ⟨ho1, ho2⟩
     (try simp only [Ch, Cg, Cf, Ce, Cd, Cc, Cb, Ca]); simp (maxSteps := 10000000) (disch := omega) only [hgl0, ho1, ho2, go_sem])
  | (have hso : Cv e.off = false := decide_eq_false (by omega)
     (try simp only [Ch, Cg, Cf, Ce, Cd, Cc, Cb, Ca]); simp (maxSteps := 10000000) (disch := omega) only [hgl0, ho1, ho2, go_sem])
 all_goals
  by_cases hkr : 1 ≤ e.kind ∧ e.kind ≤ 9;rotate_left
  · have eb := F5 (e := e) fun h => by have := h.2.2.2.2.2; omega
    have hn1 : ¬ e.kind = 1 := by omega
    have hn2 : ¬ e.kind = 2 := by omega
    have hn3 : ¬ e.kind = 3 := by omega
    have hn4 : ¬ e.kind = 4 := by omega
    have hn5 : ¬ e.kind = 5 := by omega
    have hn6 : ¬ e.kind = 6 := by omega
    have hn7 : ¬ e.kind = 7 := by omega
    have hn8 : ¬ e.kind = 8 := by omega
    have hn9 : ¬ e.kind = 9 := by omega
    (try simp only [Ch, Cg, Cf, Ce, Cd, Cc, Cb, Ca]); simp (maxSteps := 10000000) (disch := omega) only [Ac, hn1, hn2, hn3, hn4, hn5, hn6, hn7, hn8, hn9, eb, go_sem]
  have hB : Im e := ⟨by omega, by omega, by omega, by omega, by rw [ekn]; omega, by omega, by omega⟩
  have hkk : e.kind = 1 ∨ e.kind = 2 ∨ e.kind = 3 ∨ e.kind = 4 ∨ e.kind = 5 ∨ e.kind = 6 ∨ e.kind = 7 ∨ e.kind = 8 ∨ e.kind = 9 := by omega
  rcases hkk with hki | hki | hki | hki | hki | hki | hki | hki | hki
  · have ez := Ayj hB hD hki;by_cases s0' : C1 e = false
    · first
       | exact absurd (hpl.symm.trans s0') (by decide)
       | (have s0b := hpl.symm.trans s0'
          simp only [s0', decide_true, decide_false, Bool.true_and, Bool.false_and, Bool.and_true, Bool.and_false, Bool.and_self, Bool.not_true, Bool.not_false] at ez
          (try simp only [Ch, Cg, Cf, Ce, Cd, Cc, Cb, Ca]); simp (maxSteps := 10000000) (disch := omega) only [Ac, hki, s0b, ez, go_sem])
    have s0 : C1 e = true := by simpa using s0'
    have s0b := hpl.symm.trans s0
    first
     | exact absurd s0b (by decide)
     | ((try simp only [Ch, Cg, Cf, Ce, Cd, Cc, Cb, Ca]); simp (maxSteps := 10000000) (disch := omega) only [Ac, hki, s0b, go_sem]
        refine Aa (Aat _) ?_;by_cases s1' : De e.name = false
        · simp only [s0, s1', decide_true, decide_false, Bool.true_and, Bool.false_and, Bool.and_true, Bool.and_false, Bool.and_self, Bool.not_true, Bool.not_false] at ez
          (try simp only [Ch, Cg, Cf, Ce, Cd, Cc, Cb, Ca]); simp (maxSteps := 10000000) (disch := omega) only [Ac, s0b, s1', ez, go_sem]
        have s1 : De e.name = true := by simpa using s1'
        (try simp only [Ch, Cg, Cf, Ce, Cd, Cc, Cb, Ca]); simp (maxSteps := 10000000) (disch := omega) only [Ac, s0b, s1, go_sem]
        refine Aa (Aik e) ?_;simp only [s0, s1, decide_true, decide_false, Bool.true_and, Bool.false_and, Bool.and_true, Bool.and_false, Bool.and_self, Bool.not_true, Bool.not_false] at ez
        (try simp only [Ch, Cg, Cf, Ce, Cd, Cc, Cb, Ca]); simp (maxSteps := 10000000) (disch := omega) only [s0b, s1, ez, go_sem])
  · have ez := Ayi hB hD hki;by_cases s0' : C1 e = false
    · first
       | exact absurd (hpl.symm.trans s0') (by decide)
       | (have s0b := hpl.symm.trans s0'
          simp only [s0', decide_true, decide_false, Bool.true_and, Bool.false_and, Bool.and_true, Bool.and_false, Bool.and_self, Bool.not_true, Bool.not_false] at ez
          (try simp only [Ch, Cg, Cf, Ce, Cd, Cc, Cb, Ca]); simp (maxSteps := 10000000) (disch := omega) only [Ac, hki, s0b, ez, go_sem])
    have s0 : C1 e = true := by simpa using s0'
    have s0b := hpl.symm.trans s0
    first
     | exact absurd s0b (by decide)
     | ((try simp only [Ch, Cg, Cf, Ce, Cd, Cc, Cb, Ca]); simp (maxSteps := 10000000) (disch := omega) only [Ac, hki, s0b, go_sem]
        refine Aa (Aat _) ?_;by_cases s1' : De e.name = false
        · simp only [s0, s1', decide_true, decide_false, Bool.true_and, Bool.false_and, Bool.and_true, Bool.and_false, Bool.and_self, Bool.not_true, Bool.not_false] at ez
          (try simp only [Ch, Cg, Cf, Ce, Cd, Cc, Cb, Ca]); simp (maxSteps := 10000000) (disch := omega) only [Ac, s0b, s1', ez, go_sem]
        have s1 : De e.name = true := by simpa using s1'
        (try simp only [Ch, Cg, Cf, Ce, Cd, Cc, Cb, Ca]); simp (maxSteps := 10000000) (disch := omega) only [Ac, s0b, s1, go_sem]
        refine Aa (Aik e) ?_;simp only [s0, s1, decide_true, decide_false, Bool.true_and, Bool.false_and, Bool.and_true, Bool.and_false, Bool.and_self, Bool.not_true, Bool.not_false] at ez
        (try simp only [Ch, Cg, Cf, Ce, Cd, Cc, Cb, Ca]); simp (maxSteps := 10000000) (disch := omega) only [s0b, s1, ez, go_sem])
  · have ez := Ayh hB hD hki;by_cases s0' : Bl e.dep e.orep e.oseq = false
    · simp only [s0', decide_true, decide_false, Bool.true_and, Bool.false_and, Bool.and_true, Bool.and_false, Bool.and_self, Bool.not_true, Bool.not_false] at ez
      (try simp only [Ch, Cg, Cf, Ce, Cd, Cc, Cb, Ca]); simp (maxSteps := 10000000) (disch := omega) only [Ac, hki, s0', ez, go_sem]
    have s0 : Bl e.dep e.orep e.oseq = true := by simpa using s0'
    by_cases s1' : Gy e.dep e.base.l = false
    · simp only [s0, s1', decide_true, decide_false, Bool.true_and, Bool.false_and, Bool.and_true, Bool.and_false, Bool.and_self, Bool.not_true, Bool.not_false] at ez
      (try simp only [Ch, Cg, Cf, Ce, Cd, Cc, Cb, Ca]); simp (maxSteps := 10000000) (disch := omega) only [Ac, hki, s0, s1', ez, go_sem]
    have s1 : Gy e.dep e.base.l = true := by simpa using s1'
    by_cases s2 : (e.base.l.length : Int) ≤ 1;rotate_left
    · simp only [s0, s1, s2, decide_true, decide_false, Bool.true_and, Bool.false_and, Bool.and_true, Bool.and_false, Bool.and_self, Bool.not_true, Bool.not_false] at ez
      (try simp only [Ch, Cg, Cf, Ce, Cd, Cc, Cb, Ca]); simp (maxSteps := 10000000) (disch := omega) only [Ac, hki, s0, s1, s2, ez, go_sem]
    by_cases s3' : Cv e.off = false
    · first
       | exact absurd (hso.symm.trans s3') (by decide)
       | (have s3b := hso.symm.trans s3'
          simp only [s0, s1, s2, s3', decide_true, decide_false, Bool.true_and, Bool.false_and, Bool.and_true, Bool.and_false, Bool.and_self, Bool.not_true, Bool.not_false] at ez
          (try simp only [Ch, Cg, Cf, Ce, Cd, Cc, Cb, Ca]); simp (maxSteps := 10000000) (disch := omega) only [Ac, hki, s0, s1, s2, s3b, ez, go_sem])
    have s3 : Cv e.off = true := by simpa using s3'
    have s3b := hso.symm.trans s3
    first
     | exact absurd s3b (by decide)
     | (by_cases s4 : e.data = []
        · simp only [s0, s1, s2, s3, s4, decide_true, decide_false, Bool.true_and, Bool.false_and, Bool.and_true, Bool.and_false, Bool.and_self, Bool.not_true, Bool.not_false] at ez
          (try simp only [Ch, Cg, Cf, Ce, Cd, Cc, Cb, Ca]); simp (maxSteps := 10000000) (disch := omega) only [Ac, hki, s0, s1, s2, s4, ez, go_sem]
        by_cases s5 : (e.data.length : Int) ≤ 200 - e.off;rotate_left
        · simp only [s0, s1, s2, s3, s4, s5, decide_true, decide_false, Bool.true_and, Bool.false_and, Bool.and_true, Bool.and_false, Bool.and_self, Bool.not_true, Bool.not_false] at ez
          (try simp only [Ch, Cg, Cf, Ce, Cd, Cc, Cb, Ca]); simp (maxSteps := 10000000) (disch := omega) only [Ac, hki, s0, s1, s2, s4, s5, ez, go_sem]
        (try simp only [Ch, Cg, Cf, Ce, Cd, Cc, Cb, Ca]); simp (maxSteps := 10000000) (disch := omega) only [Ac, hki, s0, s1, s2, s4, s5, go_sem]
        refine Aa (Af0 e) ?_;simp only [s0, s1, s2, s3, s4, s5, decide_true, decide_false, Bool.true_and, Bool.false_and, Bool.and_true, Bool.and_false, Bool.and_self, Bool.not_true, Bool.not_false] at ez
        (try simp only [Ch, Cg, Cf, Ce, Cd, Cc, Cb, Ca]); simp (maxSteps := 10000000) (disch := omega) only [s0, s1, s2, s4, s5, ez, go_sem])
  · have ez := Ayg hB hD hki;by_cases s0' : Bl e.dep e.orep e.oseq = false
    · simp only [s0', decide_true, decide_false, Bool.true_and, Bool.false_and, Bool.and_true, Bool.and_false, Bool.and_self, Bool.not_true, Bool.not_false] at ez
      (try simp only [Ch, Cg, Cf, Ce, Cd, Cc, Cb, Ca]); simp (maxSteps := 10000000) (disch := omega) only [Ac, hki, s0', ez, go_sem]
    have s0 : Bl e.dep e.orep e.oseq = true := by simpa using s0'
    by_cases s1' : Gy e.dep e.base.l = false
    · simp only [s0, s1', decide_true, decide_false, Bool.true_and, Bool.false_and, Bool.and_true, Bool.and_false, Bool.and_self, Bool.not_true, Bool.not_false] at ez
      (try simp only [Ch, Cg, Cf, Ce, Cd, Cc, Cb, Ca]); simp (maxSteps := 10000000) (disch := omega) only [Ac, hki, s0, s1', ez, go_sem]
    have s1 : Gy e.dep e.base.l = true := by simpa using s1'
    by_cases s2 : (e.base.l.length : Int) ≤ 1;rotate_left
    · simp only [s0, s1, s2, decide_true, decide_false, Bool.true_and, Bool.false_and, Bool.and_true, Bool.and_false, Bool.and_self, Bool.not_true, Bool.not_false] at ez
      (try simp only [Ch, Cg, Cf, Ce, Cd, Cc, Cb, Ca]); simp (maxSteps := 10000000) (disch := omega) only [Ac, hki, s0, s1, s2, ez, go_sem]
    by_cases s3' : Cv e.off = false
    · first
       | exact absurd (hso.symm.trans s3') (by decide)
       | (have s3b := hso.symm.trans s3'
          simp only [s0, s1, s2, s3', decide_true, decide_false, Bool.true_and, Bool.false_and, Bool.and_true, Bool.and_false, Bool.and_self, Bool.not_true, Bool.not_false] at ez
          (try simp only [Ch, Cg, Cf, Ce, Cd, Cc, Cb, Ca]); simp (maxSteps := 10000000) (disch := omega) only [Ac, hki, s0, s1, s2, s3b, ez, go_sem])
    have s3 : Cv e.off = true := by simpa using s3'
    have s3b := hso.symm.trans s3
    first
     | exact absurd s3b (by decide)
     | ((try simp only [Ch, Cg, Cf, Ce, Cd, Cc, Cb, Ca]); simp (maxSteps := 10000000) (disch := omega) only [Ac, hki, s0, s1, s2, go_sem]
        refine Aa (Aku e) ?_;simp only [s0, s1, s2, s3, decide_true, decide_false, Bool.true_and, Bool.false_and, Bool.and_true, Bool.and_false, Bool.and_self, Bool.not_true, Bool.not_false] at ez
        (try simp only [Ch, Cg, Cf, Ce, Cd, Cc, Cb, Ca]); simp (maxSteps := 10000000) (disch := omega) only [s0, s1, s2, ez, go_sem])
  · have ez := Ayf hB hD hki;by_cases s0' : Bl e.dep e.orep e.oseq = false
    · simp only [s0', decide_true, decide_false, Bool.true_and, Bool.false_and, Bool.and_true, Bool.and_false, Bool.and_self, Bool.not_true, Bool.not_false] at ez
      (try simp only [Ch, Cg, Cf, Ce, Cd, Cc, Cb, Ca]); simp (maxSteps := 10000000) (disch := omega) only [Ac, hki, s0', ez, go_sem]
    have s0 : Bl e.dep e.orep e.oseq = true := by simpa using s0'
    by_cases s1' : Gy e.dep e.base.l = false
    · simp only [s0, s1', decide_true, decide_false, Bool.true_and, Bool.false_and, Bool.and_true, Bool.and_false, Bool.and_self, Bool.not_true, Bool.not_false] at ez
      (try simp only [Ch, Cg, Cf, Ce, Cd, Cc, Cb, Ca]); simp (maxSteps := 10000000) (disch := omega) only [Ac, hki, s0, s1', ez, go_sem]
    have s1 : Gy e.dep e.base.l = true := by simpa using s1'
    by_cases s2 : (2 : Int) ≤ (e.base.l.length : Int);rotate_left
    · simp only [s0, s1, s2, decide_true, decide_false, Bool.true_and, Bool.false_and, Bool.and_true, Bool.and_false, Bool.and_self, Bool.not_true, Bool.not_false] at ez
      (try simp only [Ch, Cg, Cf, Ce, Cd, Cc, Cb, Ca]); simp (maxSteps := 10000000) (disch := omega) only [Ac, hki, s0, s1, s2, ez, go_sem]
    by_cases s3 : (e.base.l.length : Int) ≤ 8;rotate_left
    · simp only [s0, s1, s2, s3, decide_true, decide_false, Bool.true_and, Bool.false_and, Bool.and_true, Bool.and_false, Bool.and_self, Bool.not_true, Bool.not_false] at ez
      (try simp only [Ch, Cg, Cf, Ce, Cd, Cc, Cb, Ca]); simp (maxSteps := 10000000) (disch := omega) only [Ac, hki, s0, s1, s2, s3, ez, go_sem]
    by_cases s4 : (e.data.length : Int) ≤ 200;rotate_left
    · simp only [s0, s1, s2, s3, s4, decide_true, decide_false, Bool.true_and, Bool.false_and, Bool.and_true, Bool.and_false, Bool.and_self, Bool.not_true, Bool.not_false] at ez
      (try simp only [Ch, Cg, Cf, Ce, Cd, Cc, Cb, Ca]); simp (maxSteps := 10000000) (disch := omega) only [Ac, hki, s0, s1, s2, s3, s4, ez, go_sem]
    (try simp only [Ch, Cg, Cf, Ce, Cd, Cc, Cb, Ca]); simp (maxSteps := 10000000) (disch := omega) only [Ac, hki, s0, s1, s2, s3, s4, go_sem]
    refine Aa (Akv e) ?_;simp only [s0, s1, s2, s3, s4, decide_true, decide_false, Bool.true_and, Bool.false_and, Bool.and_true, Bool.and_false, Bool.and_self, Bool.not_true, Bool.not_false] at ez
    (try simp only [Ch, Cg, Cf, Ce, Cd, Cc, Cb, Ca]); simp (maxSteps := 10000000) (disch := omega) only [s0, s1, s2, s3, s4, ez, go_sem]
  · have ez := Aye hB hD hki;by_cases s0' : Bl e.dep e.orep e.oseq = false
    · simp only [s0', decide_true, decide_false, Bool.true_and, Bool.false_and, Bool.and_true, Bool.and_false, Bool.and_self, Bool.not_true, Bool.not_false] at ez
      (try simp only [Ch, Cg, Cf, Ce, Cd, Cc, Cb, Ca]); simp (maxSteps := 10000000) (disch := omega) only [Ac, hki, s0', ez, go_sem]
    have s0 : Bl e.dep e.orep e.oseq = true := by simpa using s0'
    by_cases s1' : Eb e.gone.l 8 e.dep = false
    · first
       | exact absurd (hgl.symm.trans s1') (by decide)
       | (have s1b := hgl.symm.trans s1'
          simp only [s0, s1', decide_true, decide_false, Bool.true_and, Bool.false_and, Bool.and_true, Bool.and_false, Bool.and_self, Bool.not_true, Bool.not_false] at ez
          (try simp only [Ch, Cg, Cf, Ce, Cd, Cc, Cb, Ca]); simp (maxSteps := 10000000) (disch := omega) only [Ac, hki, s0, s1b, ez, go_sem])
    have s1 : Eb e.gone.l 8 e.dep = true := by simpa using s1'
    have s1b := hgl.symm.trans s1
    first
     | exact absurd s1b (by decide)
     | ((try simp only [Ch, Cg, Cf, Ce, Cd, Cc, Cb, Ca]); simp (maxSteps := 10000000) (disch := omega) only [Ac, hki, s0, s1b, go_sem]
        refine Aa (Apq e) ?_;simp only [s0, s1, decide_true, decide_false, Bool.true_and, Bool.false_and, Bool.and_true, Bool.and_false, Bool.and_self, Bool.not_true, Bool.not_false] at ez
        (try simp only [Ch, Cg, Cf, Ce, Cd, Cc, Cb, Ca]); simp (maxSteps := 10000000) (disch := omega) only [s0, s1b, ez, go_sem])
  · have ez := Ayd hB hD hki;by_cases s0' : Bl e.dep e.orep e.oseq = false
    · simp only [s0', decide_true, decide_false, Bool.true_and, Bool.false_and, Bool.and_true, Bool.and_false, Bool.and_self, Bool.not_true, Bool.not_false] at ez
      (try simp only [Ch, Cg, Cf, Ce, Cd, Cc, Cb, Ca]); simp (maxSteps := 10000000) (disch := omega) only [Ac, hki, s0', ez, go_sem]
    have s0 : Bl e.dep e.orep e.oseq = true := by simpa using s0'
    by_cases s1' : Eb e.gone.l 8 e.dep = false
    · first
       | exact absurd (hgl.symm.trans s1') (by decide)
       | (have s1b := hgl.symm.trans s1'
          simp only [s0, s1', decide_true, decide_false, Bool.true_and, Bool.false_and, Bool.and_true, Bool.and_false, Bool.and_self, Bool.not_true, Bool.not_false] at ez
          (try simp only [Ch, Cg, Cf, Ce, Cd, Cc, Cb, Ca]); simp (maxSteps := 10000000) (disch := omega) only [Ac, hki, s0, s1b, ez, go_sem])
    have s1 : Eb e.gone.l 8 e.dep = true := by simpa using s1'
    have s1b := hgl.symm.trans s1
    first
     | exact absurd s1b (by decide)
     | (by_cases s2' : C1 e = false
        · first
           | exact absurd (hpl.symm.trans s2') (by decide)
           | (have s2b := hpl.symm.trans s2'
              simp only [s0, s1, s2', decide_true, decide_false, Bool.true_and, Bool.false_and, Bool.and_true, Bool.and_false, Bool.and_self, Bool.not_true, Bool.not_false] at ez
              (try simp only [Ch, Cg, Cf, Ce, Cd, Cc, Cb, Ca]); simp (maxSteps := 10000000) (disch := omega) only [Ac, hki, s0, s1b, s2b, ez, go_sem])
        have s2 : C1 e = true := by simpa using s2'
        have s2b := hpl.symm.trans s2
        first
         | exact absurd s2b (by decide)
         | ((try simp only [Ch, Cg, Cf, Ce, Cd, Cc, Cb, Ca]); simp (maxSteps := 10000000) (disch := omega) only [Ac, hki, s0, s1b, s2b, go_sem]
            refine Aa (Aat _) ?_;by_cases s3' : De e.name = false
            · simp only [s0, s1, s2, s3', decide_true, decide_false, Bool.true_and, Bool.false_and, Bool.and_true, Bool.and_false, Bool.and_self, Bool.not_true, Bool.not_false] at ez
              (try simp only [Ch, Cg, Cf, Ce, Cd, Cc, Cb, Ca]); simp (maxSteps := 10000000) (disch := omega) only [Ac, s0, s1b, s2b, s3', ez, go_sem]
            have s3 : De e.name = true := by simpa using s3'
            (try simp only [Ch, Cg, Cf, Ce, Cd, Cc, Cb, Ca]); simp (maxSteps := 10000000) (disch := omega) only [Ac, s0, s1b, s2b, s3, go_sem]
            refine Aa (Akt e) ?_;simp only [s0, s1, s2, s3, decide_true, decide_false, Bool.true_and, Bool.false_and, Bool.and_true, Bool.and_false, Bool.and_self, Bool.not_true, Bool.not_false] at ez
            (try simp only [Ch, Cg, Cf, Ce, Cd, Cc, Cb, Ca]); simp (maxSteps := 10000000) (disch := omega) only [s0, s1b, s2b, s3, ez, go_sem]))
  · have ez := Ayc hB hD hki;by_cases s0 : 1 ≤ e.ward;rotate_left
    · simp only [s0, decide_true, decide_false, Bool.true_and, Bool.false_and, Bool.and_true, Bool.and_false, Bool.and_self, Bool.not_true, Bool.not_false] at ez
      (try simp only [Ch, Cg, Cf, Ce, Cd, Cc, Cb, Ca]); simp (maxSteps := 10000000) (disch := omega) only [Ac, hki, s0, ez, go_sem]
    by_cases s1 : e.ward ≤ 4;rotate_left
    · simp only [s0, s1, decide_true, decide_false, Bool.true_and, Bool.false_and, Bool.and_true, Bool.and_false, Bool.and_self, Bool.not_true, Bool.not_false] at ez
      (try simp only [Ch, Cg, Cf, Ce, Cd, Cc, Cb, Ca]); simp (maxSteps := 10000000) (disch := omega) only [Ac, hki, s0, s1, ez, go_sem]
    (try simp only [Ch, Cg, Cf, Ce, Cd, Cc, Cb, Ca]); simp (maxSteps := 10000000) (disch := omega) only [Ac, hki, s0, s1, go_sem]
    refine Aa (Av3 e) ?_;simp only [s0, s1, decide_true, decide_false, Bool.true_and, Bool.false_and, Bool.and_true, Bool.and_false, Bool.and_self, Bool.not_true, Bool.not_false] at ez
    (try simp only [Ch, Cg, Cf, Ce, Cd, Cc, Cb, Ca]); simp (maxSteps := 10000000) (disch := omega) only [s0, s1, ez, go_sem]
  · have ez := Ayb hB hD hki
    (try simp only [Ch, Cg, Cf, Ce, Cd, Cc, Cb, Ca]); simp (maxSteps := 10000000) (disch := omega) only [Ac, hki, go_sem]
    refine Aa (Av4 e) ?_;simp only [decide_true, decide_false, Bool.true_and, Bool.false_and, Bool.and_true, Bool.and_false, Bool.and_self, Bool.not_true, Bool.not_false] at ez
    (try simp only [Ch, Cg, Cf, Ce, Cd, Cc, Cb, Ca]); simp (maxSteps := 10000000) (disch := omega) only [ez, go_sem]
end Go.Proofs.YthmjebkldgdeiaaGreat.Fw
namespace Go.Proofs.YthmjebkldgdeiaaGreat.Fw
open Go.RowKit Go.Proofs
def zs (n : Nat) : List UInt8 := List.replicate n 0
theorem Rl (n : Nat) : (zs n).length = n := by simp [zs]
theorem Ahr (n : Nat) : zs (n + 1) = zs n ++ [0] := by simp [zs, List.replicate_succ']
theorem Azu : zs 0 = [] := rfl
theorem A5d (l : List UInt8) : Bc l ++ [[.i .u8 0]] = Bc (l ++ [0]) := by
 rw [← T0]; rfl
def Zz (n : Int) (k : Nat) : FS := mk [(4, .pv (.i .i64 k)), (3, .pv (.s (zs k))), (0, .pv (.i .i64 n))] []
theorem Aih (n : Int) (hn : n ≤ 1000) {h d} : FunOk Tryz.prog 165 [.pv (.i .i64 n)] h d (.pv (.s (zs n.toNat))) [] := by
 refine Ao Af fn165 (by simp) rfl rfl fun F => ?_;simp (disch := omega) only [ir165, go_sem];refine A1 Af (Zz n) (fun k => k ≤ n.toNat) (fun k => n.toNat - k) 0 (by omega) (Aj ?_ ?_) fun k hk => ?_
 · simp (disch := omega) only [Azu, go_sem]
 · simp (disch := omega) only [go_sem]
 have hl := Rl k;by_cases hlt : (k : Int) < n
 · simp (disch := omega) only [Zz, hl, go_sem];refine Ad (k + 1) _ _ rfl (by omega) (by omega) ?_ ?_
   · simp (disch := omega) only [Ahr, go_sem]
   · simp (disch := omega) only [go_sem]
 · obtain rfl : k = n.toNat := by omega
   simp (disch := omega) only [Zz, go_sem]
def Ir (data : List UInt8) (o : Nat) (s : List UInt8) : List UInt8 :=
 (data ++ zs (o + s.length - data.length)).take o ++ s ++ (data ++ zs (o + s.length - data.length)).drop (o + s.length)
def D2 (data : List UInt8) (off : Int) (s : List UInt8) : Prop := off < 0 ∨ 200 < off ∨ 200 < (data.length : Int) ∨ 200 - off < s.length
open Classical in
noncomputable def Mr (data : List UInt8) (off : Int) (s : List UInt8) : SV := if D2 data off s then .tup [.pv (.s []), .pv (.i .i64 4)] else .tup [.pv (.s (Ir data off.toNat s)), .pv (.i .i64 0)]
theorem Ef {data off s} (h : D2 data off s) : Mr data off s = .tup [.pv (.s []), .pv (.i .i64 4)] := by unfold Mr; rw [if_pos h]
theorem Jb {data off s} (h : ¬ D2 data off s) : Mr data off s = .tup [.pv (.s (Ir data off.toNat s)), .pv (.i .i64 0)] := by unfold Mr; rw [if_neg h]
def Z1 (data s : List UInt8) (o k : Nat) : FS := mk [(8, .os 60), (2, .pv (.s s)), (1, .pv (.i .i64 o))] [(60, some (.row 1 (Bc (data ++ zs k))))]
set_option maxHeartbeats 2000000 in
theorem Aii (data s : List UInt8) (off : Int) {h d} : FunOk Tryz.prog 161 [.pv (.s data), .pv (.i .i64 off), .pv (.s s)] h d (Mr data off s) [] := by
 refine Ao Af fn161 (by simp) rfl (by unfold Mr; split <;> rfl) fun F => ?_;by_cases h1 : off < 0
 · rw [Ef (.inl h1)];simp (disch := omega) only [ir161, go_sem]
 by_cases h2 : 200 < off
 · rw [Ef (.inr (.inl h2))];simp (disch := omega) only [ir161, go_sem]
 by_cases h3 : 200 < (data.length : Int)
 · rw [Ef (.inr (.inr (.inl h3)))];simp (disch := omega) only [ir161, go_sem]
 by_cases h4 : 200 - off < (s.length : Int)
 · rw [Ef (.inr (.inr (.inr h4)))];simp (disch := omega) only [ir161, go_sem]
 have hok : ¬ D2 data off s := by unfold D2; omega
 obtain ⟨o, rfl⟩ : ∃ o : Nat, off = o := ⟨off.toNat, by omega⟩
 rw [Jb hok];simp (disch := omega) only [ir161, go_sem];refine A1 Af (Z1 data s o) (fun k => k ≤ o + s.length - data.length) (fun k => o + s.length - data.length - k) 0 (by omega) (D6 28 60 (by decide) rfl (Aj ?_ ?_)) fun k hk => ?_
 · simp (disch := omega) only [go_sem]
 · simp (disch := omega) only [Azu, go_sem]
 have hl : (data ++ zs k).length = data.length + k := by simp [zs]
 by_cases hlt : data.length + k < o + s.length
 · simp (disch := omega) only [Z1, hl, A5d, go_sem];refine ⟨k + 1, by omega, by omega, D6 38 60 (by decide) rfl (Aj ?_ ?_)⟩
   · simp (disch := omega) only [go_sem]
   · simp (disch := omega) only [Ahr, List.append_assoc, go_sem]
 · obtain rfl : k = o + s.length - data.length := by omega
   have hp : Ir data o s = (data ++ zs (o + s.length - data.length)).take o ++ s ++ (data ++ zs (o + s.length - data.length)).drop (o + s.length) := rfl;generalize hX : data ++ zs (o + s.length - data.length) = X at *;have hle : o + s.length ≤ X.length := by omega
   have e1 : min s.length (X.length - o) = s.length := by omega
   have e2 : s.take (X.length - o) = s := List.take_of_length_le (by omega);simp (disch := omega) only [Z1, hX, e1, e2, hp, go_sem]
set_option maxHeartbeats 2000000 in
theorem Ac4 (data s : List UInt8) (off : Int) (hs : s.length ≤ 1000) {h d} : FunOk Tryz.prog 149 [.pv (.s data), .pv (.i .i64 off), .pv (.s s)] h d (Mr data off s) [] := by
 refine Ao Af fn149 (by simp) rfl (by unfold Mr; split <;> rfl) fun F => ?_;by_cases h1 : off < 0
 · rw [Ef (.inl h1)];simp (disch := omega) only [ir149, go_sem]
 by_cases h2 : 200 < off
 · rw [Ef (.inr (.inl h2))];simp (disch := omega) only [ir149, go_sem]
 by_cases h3 : 200 < (data.length : Int)
 · rw [Ef (.inr (.inr (.inl h3)))];simp (disch := omega) only [ir149, go_sem]
 by_cases h4 : 200 < off + (s.length : Int)
 · rw [Ef (.inr (.inr (.inr (by omega))))];simp (disch := omega) only [ir149, go_sem]
 have hok : ¬ D2 data off s := by unfold D2; omega
 obtain ⟨o, rfl⟩ : ∃ o : Nat, off = o := ⟨off.toNat, by omega⟩
 rw [Jb hok];simp (disch := omega) only [ir149, go_sem];refine Aa (Aih _ (by omega)) ?_;have hp : Ir data o s = (data ++ zs (o + s.length - data.length)).take o ++ s ++ (data ++ zs (o + s.length - data.length)).drop (o + s.length) := rfl;have e1 : ((o : Int) + (s.length : Int) - (data.length : Int)).toNat = o + s.length - data.length := by omega
 have e2 : ((o : Int) + (s.length : Int)).toNat = o + s.length := by omega
 have hl : (data ++ zs (o + s.length - data.length)).length = data.length + (o + s.length - data.length) := by simp [zs]
 have hz := Rl (o + s.length - data.length);rw [e1];generalize hX : data ++ zs (o + s.length - data.length) = X at *;simp (disch := omega) only [hX, e2, hp, List.length_append, List.length_take, List.length_drop, hz, go_sem]
def Oh (data : List UInt8) (n : Nat) : List UInt8 := if n < data.length then data.take n else data ++ zs (n - data.length)
open Classical in
noncomputable def Tu (data : List UInt8) (n : Int) : SV := if n < 0 ∨ 200 < n then .tup [.pv (.s []), .pv (.i .i64 4)] else .tup [.pv (.s (Oh data n.toNat)), .pv (.i .i64 0)]
theorem Je {data n} (h : n < 0 ∨ 200 < n) : Tu data n = .tup [.pv (.s []), .pv (.i .i64 4)] := by unfold Tu; rw [if_pos h]
theorem K4 {data n} (h : ¬ (n < 0 ∨ 200 < n)) : Tu data n = .tup [.pv (.s (Oh data n.toNat)), .pv (.i .i64 0)] := by unfold Tu; rw [if_neg h]
theorem A9k (n : Nat) : List.replicate n [PV.i .u8 0] = Bc (zs n) := by simp [zs, Bc]
set_option maxHeartbeats 2000000 in
theorem Azi (data : List UInt8) (n : Int) (hd : data.length ≤ 1000) {h d} : FunOk Tryz.prog 160 [.pv (.s data), .pv (.i .i64 n)] h d (Tu data n) [] := by
 refine Ao Af fn160 (by simp) rfl (by unfold Tu; split <;> rfl) fun F => ?_;by_cases h1 : n < 0
 · rw [Je (.inl h1)];simp (disch := omega) only [ir160, go_sem]
 by_cases h2 : 200 < n
 · rw [Je (.inr h2)];simp (disch := omega) only [ir160, go_sem]
 rw [K4 (by omega)];obtain ⟨o, rfl⟩ : ∃ o : Nat, n = o := ⟨n.toNat, by omega⟩
 by_cases hlt : o < data.length
 · have e : Oh data o = data.take o := by unfold Oh; rw [if_pos hlt]
   simp (disch := omega) only [ir160, e, go_sem]
 · have e : Oh data o = data ++ zs (o - data.length) := by unfold Oh; rw [if_neg hlt]
   have e1 : ((o : Int) - (data.length : Int)).toNat = o - data.length := by omega
   have hz := Rl (o - data.length);simp (disch := omega) only [ir160, e, e1, A9k, hz, go_sem]
set_option maxHeartbeats 2000000 in
theorem Ap4 (data : List UInt8) (n : Int) (hd : data.length ≤ 1000) {h d} : FunOk Tryz.prog 148 [.pv (.s data), .pv (.i .i64 n)] h d (Tu data n) [] := by
 refine Ao Af fn148 (by simp) rfl (by unfold Tu; split <;> rfl) fun F => ?_;by_cases h1 : n < 0
 · rw [Je (.inl h1)];simp (disch := omega) only [ir148, go_sem]
 by_cases h2 : 200 < n
 · rw [Je (.inr h2)];simp (disch := omega) only [ir148, go_sem]
 rw [K4 (by omega)];obtain ⟨o, rfl⟩ : ∃ o : Nat, n = o := ⟨n.toNat, by omega⟩
 have hz := Rl (o - data.length);have e1 : ((o : Int) - (data.length : Int)).toNat = o - data.length := by omega
 have e : (data ++ zs (o - data.length)).take o = Oh data o := by
  unfold Oh;split
  · rw [show o - data.length = 0 by omega, Azu, List.append_nil]
  · exact List.take_of_length_le (by simp [zs]; omega)
 simp (disch := omega) only [ir148, go_sem];refine Aa (Aih _ (by omega)) ?_;simp (disch := omega) only [e1, e, hz, List.length_append, go_sem]
theorem A5s {m n lo hi : Nat} {es fs : List (List PV)} {h} (hm : h m = some (.row 11 fs)) (hn : h n = some (.row 11 es)) (hne : m ≠ n) (hfs : fs ≠ []) (hes : es ≠ []) (hlt : lo < hi) : Zp Tryz.prog 173 [.os m, .ov n 11 lo hi] h (.pv (.b false)) := by
 intro F N ρ s a w hR hh vs hc;simp only [ConcL] at hc;obtain ⟨v, us, rfl, hv, u, us', rfl, hu, rfl⟩ := hc;have hsm := (hh m (by simp [A4, tn])).trans hm;have hsn := (hh n (by simp [A4, tn])).trans hn;refine ⟨.bool false, ?_, Ez⟩;rw [run_callFunc_extern (fn := (Tryz.prog.funcs[173]?).getD default) (by kernel_rfl) (by kernel_rfl) (by kernel_rfl) (by kernel_rfl) (e := Extern.SlicesOverlaps.overlaps #[114, 114] #[4]) (by kernel_rfl)];rw [Jk (tS := 114) (e := 155) (by kernel_rfl) (by kernel_rfl) (by decide) hR hsm hsn hne hfs hes hlt hv hu];rfl
set_option maxHeartbeats 4000000 in
theorem Ac7 (es : List (List PV)) (cs : List PV) (i : Nat) (hi : i ≤ es.length) (hb : es.length ≤ 1000) (hes : ∀ c ∈ es, c.length = 11) (hcs : cs.length = 11) {h d} (h1 : h 16 = some (.row 11 es)) (h2 : h 55 = some (.row 11 [cs])) : FunOk Tryz.prog 163 [.os 16, .pv (.i .i64 i), .os 55] h d (.os d) [.del 16, .del 55, .new d (.row 11 (es.take i ++ cs :: es.drop i))] := by
 refine Abf Af fn163 (by simp) rfl fun F => ?_;simp only [Cy];by_cases he : i = es.length
 · subst he;have e1 : es.take es.length ++ cs :: es.drop es.length = es ++ [cs] := by simp
   rw [e1];simp (disch := omega) only [ir163, h1, h2, go_sem]
 · have hne : es ≠ [] := by intro e; subst e; simp at hi; exact he (by simpa using hi)
   simp (disch := omega) only [ir163, h1, h2, go_sem];intro c hc;by_cases hcap : c < es.length + 1
   · have hp : ((c : Int) < (es.length : Int) + ((1 : Nat) : Int)) = True := eq_true (by omega);have ek : ((es.length : Int) + ((1 : Nat) : Int) - (i : Int)).toNat = es.length + 1 - i := by omega
     (try simp only [Ch, Cg, Cf, Ce, Cd, Cc, Cb, Ca]); simp (disch := omega) only [hp, ek, go_sem]
     generalize hT : List.take i es ++ List.replicate (es.length + 1 - i) _ = T;have hTl : T.length = es.length + 1 := by rw [← hT]; simp; omega
     have t1 : T.take i = es.take i := by
      rw [← hT, List.take_append_of_le_length (by simp; omega), List.take_take, Nat.min_self]
     have hi' : (es.take i).length = i := by simp; omega
     have m1 : min 1 (es.length + 1 - i) = 1 := by omega
     have m2 : [cs].take (es.length + 1 - i) = [cs] := List.take_of_length_le (by simp; omega);have hU : (es.take i ++ [cs] ++ T.drop (i + 1)).length = es.length + 1 := by simp [hTl]; omega
     have e1 : ((i : Int) + ((1 : Nat) : Int)).toNat = i + 1 := by omega
     have u1 : (es.take i ++ [cs] ++ T.drop (i + 1)).take (i + 1) = es.take i ++ [cs] := by
      rw [List.take_append_of_le_length (by simp; omega)];exact List.take_of_length_le (by simp; omega)
     have u2 : (es.take es.length).drop i = es.drop i := by rw [List.take_length]
     have u3 : min (es.drop i).length (es.length + 1 - (i + 1)) = es.length - i := by simp
     have u4 : (es.drop i).take (es.length + 1 - (i + 1)) = es.drop i := List.take_of_length_le (by simp);have u5 : (es.take i ++ [cs] ++ T.drop (i + 1)).drop (i + 1 + (es.length - i)) = [] := List.drop_of_length_le (by rw [hU]; omega);have u6 : es.take i ++ cs :: es.drop i = es.take i ++ [cs] ++ es.drop i := by simp
     simp only [hTl, t1, m1, m2, e1, List.length_singleton];simp only [hU, u1, u2, u3, u4, u5, u6, List.append_nil];exact ⟨by omega, by omega, trivial⟩
   · have hp : ((c : Int) < (es.length : Int) + ((1 : Nat) : Int)) = False := eq_false (by omega)
     (try simp only [Ch, Cg, Cf, Ce, Cd, Cc, Cb, Ca]); simp (disch := omega) only [hp, go_sem]
     intro g hg hgs;have hg1 : g.length = 1 := by omega
     have e1 : ((i : Int) + ((1 : Nat) : Int)).toNat = i + 1 := by omega
     have hE : (es ++ g).length = es.length + 1 := by simp [hg1]
     refine ⟨by omega, ?_⟩;rw [e1];refine Q8 (A5s (es := es ++ g) (fs := [cs]) rfl rfl (by decide) (by simp) (by simp [hne]) (by omega)) ?_;have v1 : ((es ++ g).take (es ++ g).length).drop i = (es ++ g).drop i := by rw [List.take_length]
     have v2 : min ((es ++ g).drop i).length ((es ++ g).length - (i + 1)) = es.length - i := by simp [hg1]; omega
     have v3 : ((es ++ g).drop i).take ((es ++ g).length - (i + 1)) = es.drop i := by
      rw [hE, List.drop_append_of_le_length hi, show es.length + 1 - (i + 1) = (es.drop i).length from by simp];exact List.take_left
     have v4 : (es ++ g).drop (i + 1 + (es.length - i)) = [] := List.drop_of_length_le (by omega);have v5 : ((es ++ g).take (i + 1) ++ es.drop i).length = es.length + 1 := by simp [hg1]; omega
     have v6 : ((es ++ g).take (i + 1) ++ es.drop i).take i = es.take i := by
      rw [List.take_append_of_le_length (by simp; omega), List.take_take, Nat.min_eq_left (by omega), List.take_append_of_le_length hi]
     have v7 : ((es ++ g).take (i + 1) ++ es.drop i).drop (i + 1) = es.drop i := by
      rw [List.drop_append_of_le_length (by simp; omega), List.drop_of_length_le (by simp; omega), List.nil_append]
     have m1 : min 1 (es.length + 1 - i) = 1 := by omega
     have m2 : [cs].take (es.length + 1 - i) = [cs] := List.take_of_length_le (by simp; omega);have u6 : es.take i ++ cs :: es.drop i = es.take i ++ [cs] ++ es.drop i := by simp
     simp (disch := omega) only [e1, v1, v2, v3, v4, v5, v6, v7, m1, m2, u6, go_sem]
theorem Av7 {x : SV} {f : Bool} {z : Nat} {es : List (List PV)} {h d} (hx : C2 h [x] = [.pv (.sl f z es)]) (hl : Bf [x] = true) (hz : es = [] ∨ z = 11) (hb : es.length ≤ 1000) (hs : SV.closedL [x] = true) :
 FunOk Tryz.prog 95 [x] h d (.os d) [.new d (.row 11 es)] := by
 refine Ad8 Af fn95 (by simp) hl (.inl hs) fun F => ?_;rw [hx];simp (disch := omega) only [ir95, go_sem];intro b hb';cases b
 · simp (disch := omega) only [go_sem]
 · have he : es = [] := by
    cases es with
    | nil => rfl
    | cons c l => exact absurd (hb' (by simp)) (by simp)
   subst he
   (try simp only [Ch, Cg, Cf, Ce, Cd, Cc, Cb, Ca]); simp (disch := omega) only [go_sem]
   decide
structure Ver where
 rep : Int
 seq : Nat
 data : List UInt8
 gone : Vc
def Bd (v : Ver) : List PV := .i .i64 v.rep :: .i .u32 v.seq :: .s v.data :: vE v.gone
def Ps : List Ver → Int → Nat → Nat → Nat × Bool
 | [], _, _, k => (k, false)
 | v :: l, r, q, k => if v.rep = r ∧ v.seq = q then (k, true) else if Ck r q v.rep v.seq = true then (k, false) else Ps l r q (k + 1)
theorem Cz (v : Ver) (K : KK) : LoadK (some (Bd v)) 0 2 true K = K (.vec 2 [.i .i64 v.rep, .i .u32 v.seq]) [] := by
 simp only [LoadK, Hg, eq_iff_iff];exact ⟨fun h => h.2.2, fun h => ⟨by simp [Bd], .inl trivial, h⟩⟩
theorem Ln (v : Ver) (K : KK) : LoadK (some (Bd v)) 0 11 true K = K (.vec 11 (Bd v)) [] := by
 simp only [LoadK, Hg, eq_iff_iff];have e : ((Bd v).drop 0).take 11 = Bd v := List.take_of_length_le (by simp [Bd, vE, Cm]);rw [e];exact ⟨fun h => h.2.2, fun h => ⟨by simp [Bd, vE, Cm], .inl trivial, h⟩⟩
theorem Gt (r : Int) (q : Nat) : Ei [K1.int .i64, K1.int .u32] [.i .i64 r, .i .u32 q] = True := eq_true rfl
def Avb (f : Bool) (l : List Ver) (r : Int) (q k : Nat) : FS := mk [(10, .pv (.i .i64 k)), (9, .pv (.i .i64 l.length)), (8, .pv (.sl f 11 (l.map Bd))), (3, .p 3 0), (0, .pv (.sl f 11 (l.map Bd)))] [(3, some (.var (.vec 2 [.i .i64 r, .i .u32 q])))]
set_option maxHeartbeats 1000000 in
theorem A1w {x : SV} {f : Bool} {l : List Ver} (r : Int) (q : Nat) {h d} (hx : C2 h [x, .vec 2 [.i .i64 r, .i .u32 q]] = [.pv (.sl f 11 (l.map Bd)), .vec 2 [.i .i64 r, .i .u32 q]]) (hl : Bf [x, .vec 2 [.i .i64 r, .i .u32 q]] = true) (hn : l.length ≤ 1000) :
 FunOk Tryz.prog 162 [x, .vec 2 [.i .i64 r, .i .u32 q]] h d (.tup [.pv (.i .i64 (Ps l r q 0).1), .pv (.b (Ps l r q 0).2)]) [] := by
 refine Db Af fn162 (by simp) hl rfl fun F => ?_;rw [hx];simp (disch := omega) only [ir162, List.length_map, go_sem];refine A1 Af (Avb f l r q) (fun k => k ≤ l.length ∧ Ps l r q 0 = Ps (l.drop k) r q k) (fun k => l.length - k) 0 (by simp) (Aj ?_ ?_) fun k hk => ?_
 · simp (disch := omega) only [go_sem]
 · simp (disch := omega) only [go_sem]
 obtain ⟨hk1, hk2⟩ := hk;by_cases hlt : k < l.length
 · have hd : l.drop k = l[k] :: l.drop (k + 1) := List.drop_eq_getElem_cons hlt;have he : (l.map Bd)[k]? = some (Bd l[k]) := by simp [hlt]
   rw [hd] at hk2;generalize l[k] = v at *;simp only [Ps] at hk2;by_cases hid : v.rep = r ∧ v.seq = q
   · rw [if_pos hid] at hk2;have hp := J3 hid;simp (disch := omega) only [Avb, List.length_map, he, Ln, Cz, Gt, hp, hk2, go_sem]
   · rw [if_neg hid] at hk2;have hp := Hy hid;simp (disch := omega) only [Avb, List.length_map, he, Ln, Cz, Gt, hp, go_sem];refine Aa (Mt _ _ _ _) ?_;by_cases hl : Ck r q v.rep v.seq = true
     · rw [if_pos hl] at hk2;simp (disch := omega) only [hl, hk2, go_sem]
     · rw [if_neg hl] at hk2;have hl' : Ck r q v.rep v.seq = false := by simpa using hl
       simp (disch := omega) only [hl', go_sem];refine Ad (k + 1) _ _ rfl ⟨by omega, hk2⟩ (by omega) ?_ ?_
       · simp (disch := omega) only [List.length_map, go_sem]
       · simp (disch := omega) only [go_sem]
 · have : k = l.length := by omega
   subst this;rw [List.drop_length] at hk2;simp only [Ps] at hk2;rw [hk2]
   (try simp only [Ch, Cg, Cf, Ce, Cd, Cc, Cb, Ca]); simp (disch := omega) only [Avb, List.length_map, go_sem]
theorem M1 (v : Ver) (K : KK) : LoadK (some (Bd v)) 3 8 true K = K (.vec 8 (vE v.gone)) [] := by
 simp only [LoadK, Hg, eq_iff_iff];have e : ((Bd v).drop 3).take 8 = vE v.gone := List.take_of_length_le (by simp [Bd, vE, Cm]);rw [e];exact ⟨fun h => h.2.2, fun h => ⟨by simp [Bd, vE, Cm], .inl trivial, h⟩⟩
theorem G2 (v : Ver) : (Bd v).length = 11 := by simp [Bd, vE, Cm]
theorem X2 (l : List Ver) : ∀ c ∈ l.map Bd, c.all PV.flat = true := by
 intro c hc;obtain ⟨v, _, rfl⟩ := List.mem_map.1 hc;simp [Bd, vE, Cm, PV.flat]
def Bo : List Ver → Int → Nat → Option Ver
 | [], _, _ => none
 | v :: l, r, q => if v.rep = r ∧ v.seq = q then some v else Bo l r q
def Ah5 (f : Bool) (l : List Ver) (r : Int) (q k : Nat) : FS := mk [(5, .pv (.i .i64 k)), (0, .pv (.sl f 11 (l.map Bd))), (3, .p 3 0)] [(3, some (.var (.vec 2 [.i .i64 r, .i .u32 q])))]
theorem Azh {x : SV} {f : Bool} {l : List Ver} (r : Int) (q : Nat) {h d} (hx : C2 h [x, .vec 2 [.i .i64 r, .i .u32 q]] = [.pv (.sl f 11 (l.map Bd)), .vec 2 [.i .i64 r, .i .u32 q]]) (hl : Bf [x, .vec 2 [.i .i64 r, .i .u32 q]] = true) (hn : l.length ≤ 1000) :
 FunOk Tryz.prog 150 [x, .vec 2 [.i .i64 r, .i .u32 q]] h d (.pv (.b (Bo l r q).isSome)) [] := by
 refine Db Af fn150 (by simp) hl rfl fun F => ?_;rw [hx];simp (disch := omega) only [ir150, List.length_map, go_sem];refine A1 Af (Ah5 f l r q) (fun k => k ≤ l.length ∧ Bo l r q = Bo (l.drop k) r q) (fun k => l.length - k) 0 (by simp) (Aj ?_ ?_) fun k hk => ?_
 · simp (disch := omega) only [go_sem]
 · simp (disch := omega) only [go_sem]
 obtain ⟨hk1, hk2⟩ := hk;by_cases hlt : k < l.length
 · have hd : l.drop k = l[k] :: l.drop (k + 1) := List.drop_eq_getElem_cons hlt;have he : (l.map Bd)[k]? = some (Bd l[k]) := by simp [hlt]
   rw [hd] at hk2;generalize l[k] = v at *;simp only [Bo] at hk2;by_cases hid : v.rep = r ∧ v.seq = q
   · rw [if_pos hid] at hk2;have hp := J3 hid;simp (disch := omega) only [Ah5, List.length_map, he, Cz, Gt, hp, hk2, Option.isSome_some, go_sem]
   · rw [if_neg hid] at hk2;have hp := Hy hid;simp (disch := omega) only [Ah5, List.length_map, he, Cz, Gt, hp, go_sem];refine Ad (k + 1) _ _ rfl ⟨by omega, hk2⟩ (by omega) ?_ ?_
     · simp (disch := omega) only [go_sem]
     · simp (disch := omega) only [go_sem]
 · have : k = l.length := by omega
   subst this;rw [List.drop_length] at hk2;simp only [Bo] at hk2;rw [hk2];simp (disch := omega) only [Ah5, List.length_map, Option.isSome_none, go_sem]
def Mo (v : Ver) (r : Int) (q : Nat) : Prop := v.rep = r ∧ v.seq = q
instance (v : Ver) (r : Int) (q : Nat) : Decidable (Mo v r q) := inferInstanceAs (Decidable (_ ∧ _))
theorem Pf (v : Ver) (K : KK) : LoadK (some (Bd v)) 2 1 false K = K (.pv (.s v.data)) [] := by
 simp only [LoadK, Hg, eq_iff_iff];exact ⟨fun h => h.2.2, fun h => ⟨by simp [Bd], .inr trivial, h⟩⟩
theorem Qr {r : Int} {q : Nat} {r' : Int} {q' : Nat} : Ck r q r' q' = true ↔ (q < q' ∨ q = q' ∧ r < r') := by simp [Ck]
theorem Ph {r : Int} {q : Nat} {r' : Int} {q' : Nat} {r'' : Int} {q'' : Nat} (h : Ck r q r' q' = true) (k : Ck r' q' r'' q'' = true) : Ck r q r'' q'' = true := by
 rw [Qr] at *; omega
theorem Abd {r : Int} {q : Nat} {r' : Int} {q' : Nat} (h : Ck r q r' q' = true) : ¬ (r = r' ∧ q = q') := by
 rw [Qr] at h; omega
theorem Axb {r : Int} {q : Nat} {r' : Int} {q' : Nat} (h : Ck r q r' q' = true) : ¬ Ck r' q' r q = true := by
 rw [Qr] at *; omega
theorem Ars {r : Int} {q : Nat} {r' : Int} {q' : Nat} (h : ¬ (r = r' ∧ q = q')) (k : ¬ Ck r q r' q' = true) : Ck r' q' r q = true := by
 rw [Qr] at *; omega
def Cu (l : List Ver) : Prop := l.Pairwise fun a b => Ck a.rep a.seq b.rep b.seq = true
theorem Ik : ∀ {l : List Ver} {r q k i}, Ps l r q k = (i, true) → k ≤ i ∧ ∃ v, l[i - k]? = some v ∧ Mo v r q ∧ Bo l r q = some v
 | [], r, q, k, i, h => by simp [Ps] at h
 | v :: l, r, q, k, i, h => by
   simp only [Ps] at h;split at h
   · rename_i hs;cases h;exact ⟨Nat.le_refl _, v, by simp, hs, by simp [Bo, hs]⟩
   · rename_i hs;split at h
     · cases h
     · obtain ⟨h1, u, h2, h3, h4⟩ := Ik h;refine ⟨by omega, u, ?_, h3, by simp only [Bo]; rw [if_neg hs]; exact h4⟩;rw [show i - k = (i - (k + 1)) + 1 by omega, List.getElem?_cons_succ]; exact h2
theorem Hu : ∀ {l : List Ver} {r q k i}, Cu l → Ps l r q k = (i, false) → k ≤ i ∧ i - k ≤ l.length ∧ Bo l r q = none ∧ (∀ v ∈ l, ¬ Mo v r q) ∧ (∀ v ∈ l.take (i - k), Ck v.rep v.seq r q = true) ∧ ∀ v ∈ l.drop (i - k), Ck r q v.rep v.seq = true
 | [], r, q, k, i, _, h => by simp only [Ps] at h; cases h; simp [Bo]
 | v :: l, r, q, k, i, hs, h => by
   obtain ⟨h1, h2⟩ := List.pairwise_cons.1 hs;simp only [Ps] at h;split at h
   · cases h
   · rename_i hn;split at h
     · rename_i hlt;cases h;have hall : ∀ u ∈ v :: l, Ck r q u.rep u.seq = true := fun u hu => by
        rcases List.mem_cons.1 hu with rfl | hu
        · exact hlt
        · exact Ph hlt (h1 u hu)
       have hno : ∀ u ∈ v :: l, ¬ Mo u r q := fun u hu e => Abd (hall u hu) ⟨e.1.symm, e.2.symm⟩;refine ⟨Nat.le_refl _, by simp, ?_, hno, by simp, by simpa using hall⟩;have : ∀ m : List Ver, (∀ u ∈ m, ¬ Mo u r q) → Bo m r q = none := fun m hm => by
        induction m with
        | nil => rfl
        | cons u m ih => simp only [Bo]; rw [if_neg (show ¬ (u.rep = r ∧ u.seq = q) from hm u List.mem_cons_self)]; exact ih fun x hx => hm x (List.mem_cons_of_mem _ hx)
       exact this _ hno
     · rename_i hge;obtain ⟨g1, g2, g3, g4, g5, g6⟩ := Hu h2 h;have e : i - k = (i - (k + 1)) + 1 := by omega
       refine ⟨by omega, by rw [e]; simpa using g2, by simp only [Bo]; rw [if_neg hn]; exact g3, fun u hu => ?_, ?_, ?_⟩
       · rcases List.mem_cons.1 hu with rfl | hu
         · exact hn
         · exact g4 u hu
       · rw [e, List.take_succ_cons];intro u hu;rcases List.mem_cons.1 hu with rfl | hu
         · exact Ars (fun e => hn ⟨e.1.symm, e.2.symm⟩) hge
         · exact g5 u hu
       · rw [e, List.drop_succ_cons]; exact g6
theorem Pj {l : List Ver} {r : Int} {q : Nat} : Bo l r q = none ↔ ∀ v ∈ l, ¬ Mo v r q := by
 induction l with
 | nil => simp [Bo]
 | cons u m ih =>
   simp only [Bo];by_cases h : u.rep = r ∧ u.seq = q
   · rw [if_pos h];exact ⟨fun e => (nomatch e), fun e => absurd h (e u List.mem_cons_self)⟩
   · rw [if_neg h, ih];simp only [List.mem_cons, forall_eq_or_imp];exact ⟨fun e => ⟨h, e⟩, fun e => e.2⟩
theorem Y6 {l : List Ver} {r : Int} {q : Nat} {v : Ver} (h : Bo l r q = some v) : v ∈ l ∧ Mo v r q := by
 induction l with
 | nil => simp [Bo] at h
 | cons u m ih =>
   simp only [Bo] at h;by_cases e : u.rep = r ∧ u.seq = q
   · rw [if_pos e] at h; cases h; exact ⟨List.mem_cons_self, e⟩
   · rw [if_neg e] at h; exact ⟨List.mem_cons_of_mem _ (ih h).1, (ih h).2⟩
def Dv (l : List Ver) (r : Int) (q : Nat) : List UInt8 × Int := if r = 0 ∧ q = 0 then ([], 0) else match Bo l r q with
 | some v => (v.data, 0)
 | none => ([], 2)
theorem Q5 {l : List Ver} {r : Int} {q : Nat} (h : r = 0 ∧ q = 0) : Dv l r q = ([], 0) := by simp [Dv, h]
theorem Ly {l : List Ver} {r : Int} {q : Nat} {v : Ver} (h : ¬ (r = 0 ∧ q = 0)) (k : Bo l r q = some v) : Dv l r q = (v.data, 0) := by unfold Dv; rw [if_neg h, k]
theorem Q4 {l : List Ver} {r : Int} {q : Nat} (h : ¬ (r = 0 ∧ q = 0)) (k : Bo l r q = none) : Dv l r q = ([], 2) := by unfold Dv; rw [if_neg h, k]
theorem A1i : peq [.i .i64 0, .i .u32 0] [.i .i64 0, .i .u32 0] = true := by simp [peq]
theorem A1j {r : Int} {q : Nat} (h : ¬ (r = 0 ∧ q = 0)) : peq [.i .i64 r, .i .u32 q] [.i .i64 0, .i .u32 0] = false := Hy (q' := 0) fun e => h e
theorem Ajg : Ei [K1.int .i64, K1.int .u32] [.i .i64 0, .i .u32 0] = True := eq_true rfl
set_option maxHeartbeats 1000000 in
theorem Ap3 {x : SV} {f : Bool} {l : List Ver} (r : Int) (q : Nat) {h d} (hx : C2 h [x, .vec 2 [.i .i64 r, .i .u32 q]] = [.pv (.sl f 11 (l.map Bd)), .vec 2 [.i .i64 r, .i .u32 q]]) (hl : Bf [x, .vec 2 [.i .i64 r, .i .u32 q]] = true) (hs : Cu l) (hn : l.length ≤ 1000) :
 FunOk Tryz.prog 159 [x, .vec 2 [.i .i64 r, .i .u32 q]] h d (.tup [.pv (.s (Dv l r q).1), .pv (.i .i64 (Dv l r q).2)]) [] := by
 refine Db Af fn159 (by simp) hl rfl fun F => ?_;rw [hx];by_cases hz : r = 0 ∧ q = 0
 · have e := Q5 (l := l) hz;rw [e];obtain ⟨rfl, rfl⟩ := hz;have e1 := A1i;have e2 := Ajg
   (try simp only [Ch, Cg, Cf, Ce, Cd, Cc, Cb, Ca]); simp (disch := omega) only [ir159, e1, e2, Int.natCast_zero, go_sem]
 · have hp := A1j hz;simp (disch := omega) only [ir159, Ajg, Gt, hp, go_sem];refine Aa (A1w (l := l) r q rfl rfl hn) ?_;rcases ha : Ps l r q 0 with ⟨i, b⟩
   cases b with
   | true =>
     obtain ⟨_, v, h2, h3, h4⟩ := Ik ha;rw [Ly hz h4];have he : (l.map Bd)[i]? = some (Bd v) := by rw [List.getElem?_map, show l[i]? = some v from by simpa using h2]; rfl
     have hi : i < l.length := by
      have := (List.getElem?_eq_some_iff.1 h2).1; simpa using this
     (try simp only [Ch, Cg, Cf, Ce, Cd, Cc, Cb, Ca]); simp (disch := omega) only [List.length_map, he, Pf, go_sem]
   | false =>
     obtain ⟨_, _, h3, _⟩ := Hu hs ha;rw [Q4 hz h3]
     (try simp only [Ch, Cg, Cf, Ce, Cd, Cc, Cb, Ca]); simp (disch := omega) only [go_sem]
def Jt (f : Bool) (l : List Ver) (r : Int) (q k : Nat) : FS := mk [(6, .pv (.i .i64 k)), (0, .pv (.sl f 11 (l.map Bd))), (3, .p 3 0)] [(3, some (.var (.vec 2 [.i .i64 r, .i .u32 q])))]
set_option maxHeartbeats 1000000 in
theorem Aio {x : SV} {f : Bool} {l : List Ver} (r : Int) (q : Nat) {h d} (hx : C2 h [x, .vec 2 [.i .i64 r, .i .u32 q]] = [.pv (.sl f 11 (l.map Bd)), .vec 2 [.i .i64 r, .i .u32 q]]) (hl : Bf [x, .vec 2 [.i .i64 r, .i .u32 q]] = true) (hn : l.length ≤ 1000) :
 FunOk Tryz.prog 93 [x, .vec 2 [.i .i64 r, .i .u32 q]] h d (.tup [.pv (.s (Dv l r q).1), .pv (.i .i64 (Dv l r q).2)]) [] := by
 refine Db Af fn93 (by simp) hl rfl fun F => ?_;rw [hx];by_cases hz : r = 0 ∧ q = 0
 · have e := Q5 (l := l) hz;rw [e];obtain ⟨rfl, rfl⟩ := hz
   (try simp only [Ch, Cg, Cf, Ce, Cd, Cc, Cb, Ca]); simp (disch := omega) only [ir93, Int.natCast_zero, go_sem]
 · have hk : ∀ K : Prop, K → K := fun _ h => h;by_cases hr : r = 0
   · subst hr;have hq : ¬ (q : Int) = 0 := by omega
     simp (disch := omega) only [ir93, hq, go_sem];refine A1 Af (Jt f l 0 q) (fun k => k ≤ l.length ∧ Bo l 0 q = Bo (l.drop k) 0 q) (fun k => l.length - k) 0 (by simp) (Aj ?_ ?_) fun k hk => ?_
     · simp (disch := omega) only [go_sem]
     · simp (disch := omega) only [go_sem]
     obtain ⟨hk1, hk2⟩ := hk;by_cases hlt : k < l.length
     · have hd : l.drop k = l[k] :: l.drop (k + 1) := List.drop_eq_getElem_cons hlt;have he : (l.map Bd)[k]? = some (Bd l[k]) := by simp [hlt]
       rw [hd] at hk2;generalize l[k] = v at *;simp only [Bo] at hk2;by_cases hid : v.rep = 0 ∧ v.seq = q
       · rw [if_pos hid] at hk2;have hp := J3 hid;rw [Ly hz hk2]
         (try simp only [Ch, Cg, Cf, Ce, Cd, Cc, Cb, Ca]); simp (disch := omega) only [Jt, List.length_map, he, Cz, Gt, hp, Pf, go_sem]
       · rw [if_neg hid] at hk2;have hp := Hy hid;simp (disch := omega) only [Jt, List.length_map, he, Cz, Gt, hp, go_sem];refine Ad (k + 1) _ _ rfl ⟨by omega, hk2⟩ (by omega) ?_ ?_
         · simp (disch := omega) only [go_sem]
         · simp (disch := omega) only [go_sem]
     · obtain rfl : k = l.length := by omega
       rw [List.drop_length] at hk2;rw [Q4 hz hk2]
       (try simp only [Ch, Cg, Cf, Ce, Cd, Cc, Cb, Ca]); simp (disch := omega) only [Jt, List.length_map, go_sem]
   · simp (disch := omega) only [ir93, hr, go_sem];refine A1 Af (Jt f l r q) (fun k => k ≤ l.length ∧ Bo l r q = Bo (l.drop k) r q) (fun k => l.length - k) 0 (by simp) (Aj ?_ ?_) fun k hk => ?_
     · simp (disch := omega) only [go_sem]
     · simp (disch := omega) only [go_sem]
     obtain ⟨hk1, hk2⟩ := hk;by_cases hlt : k < l.length
     · have hd : l.drop k = l[k] :: l.drop (k + 1) := List.drop_eq_getElem_cons hlt;have he : (l.map Bd)[k]? = some (Bd l[k]) := by simp [hlt]
       rw [hd] at hk2;generalize l[k] = v at *;simp only [Bo] at hk2;by_cases hid : v.rep = r ∧ v.seq = q
       · rw [if_pos hid] at hk2;have hp := J3 hid;rw [Ly hz hk2]
         (try simp only [Ch, Cg, Cf, Ce, Cd, Cc, Cb, Ca]); simp (disch := omega) only [Jt, List.length_map, he, Cz, Gt, hp, Pf, go_sem]
       · rw [if_neg hid] at hk2;have hp := Hy hid;simp (disch := omega) only [Jt, List.length_map, he, Cz, Gt, hp, go_sem];refine Ad (k + 1) _ _ rfl ⟨by omega, hk2⟩ (by omega) ?_ ?_
         · simp (disch := omega) only [go_sem]
         · simp (disch := omega) only [go_sem]
     · obtain rfl : k = l.length := by omega
       rw [List.drop_length] at hk2;rw [Q4 hz hk2]
       (try simp only [Ch, Cg, Cf, Ce, Cd, Cc, Cb, Ca]); simp (disch := omega) only [Jt, List.length_map, go_sem]
theorem Qk (b : Bn) (K : KK) : LoadK (some (Ed b)) 0 2 true K = K (.vec 2 [.i .i64 b.1, .i .u32 b.2]) [] := by
 simp only [LoadK, Hg, eq_iff_iff];exact ⟨fun h => h.2.2, fun h => ⟨by simp [Ed], .inl trivial, h⟩⟩
def Em (v : Ver) (r : Int) (q : Nat) : Ver := { v with gone := A9 v.gone r q }
def Dt (l : List Ver) (bs : List Bn) (r : Int) (q : Nat) : List Ver := l.map fun x => if (x.rep, x.seq) ∈ bs then Em x r q else x
theorem U9 (g : Vc) (r : Int) (q : Nat) : A9 (A9 g r q) r q = A9 g r q := by
 unfold A9;split
 · funext i;simp only [Ea];split <;> simp
 · rfl
theorem Ny (l : List Ver) (r : Int) (q : Nat) : Dt l [] r q = l := by simp [Dt]
theorem Ys (l : List Ver) (bs) (r : Int) (q : Nat) : (Dt l bs r q).length = l.length := by simp [Dt]
theorem Gk (x : Ver) (bs : List Bn) (r : Int) (q : Nat) : (if (x.rep, x.seq) ∈ bs then Em x r q else x).rep = x.rep ∧ (if (x.rep, x.seq) ∈ bs then Em x r q else x).seq = x.seq := by split <;> exact ⟨rfl, rfl⟩
theorem Qg {l : List Ver} {bs} {r : Int} {q : Nat} (h : Cu l) : Cu (Dt l bs r q) := by
 unfold Dt Cu;rw [List.pairwise_map];refine List.Pairwise.imp (fun {a b} hab => ?_) h;rw [(Gk a bs r q).1, (Gk a bs r q).2, (Gk b bs r q).1, (Gk b bs r q).2]; exact hab
theorem Aen (bs : List Bn) (r : Int) (q : Nat) (r' : Int) (q' : Nat) : ∀ (l : List Ver) (k : Nat), Ps (Dt l bs r q) r' q' k = Ps l r' q' k
 | [], k => rfl
 | x :: l, k => by
   have ih := Aen bs r q r' q' l (k + 1);unfold Dt at ih ⊢;simp only [List.map_cons, Ps, ih, (Gk x bs r q).1, (Gk x bs r q).2]
theorem Acj {l : List Ver} (h : Cu l) {i j : Nat} {a b : Ver} (hi : l[i]? = some a) (hj : l[j]? = some b) (he : a.rep = b.rep ∧ a.seq = b.seq) : i = j := by
 obtain ⟨h1, rfl⟩ := List.getElem?_eq_some_iff.1 hi;obtain ⟨h2, rfl⟩ := List.getElem?_eq_some_iff.1 hj;rcases Nat.lt_trichotomy i j with h3 | h3 | h3
 · exact absurd he (Abd (List.pairwise_iff_getElem.1 h i j h1 h2 h3))
 · exact h3
 · exact absurd ⟨he.1.symm, he.2.symm⟩ (Abd (List.pairwise_iff_getElem.1 h j i h2 h1 h3))
theorem Aqy {l : List Ver} (h : Cu l) {bs : List Bn} {b : Bn} {r : Int} {q : Nat} {i : Nat} {u : Ver} (hi : (Dt l bs r q)[i]? = some u) (hu : Mo u b.1 b.2) :
 (Dt l bs r q).set i (Em u r q) = Dt l (bs ++ [b]) r q := by
 apply List.ext_getElem?;intro j;have hi' := hi;unfold Dt at hi';rw [List.getElem?_map] at hi';obtain ⟨x, hx, rfl⟩ := Option.map_eq_some_iff.1 hi';have hxi : (x.rep, x.seq) = b := by
  have h1 := (Gk x bs r q).1;have h2 := (Gk x bs r q).2;obtain ⟨g1, g2⟩ := hu;rw [h1] at g1; rw [h2] at g2;rw [g1, g2]
 by_cases hij : i = j
 · subst hij;rw [List.getElem?_set_self (List.getElem?_eq_some_iff.1 hi).1];unfold Dt;rw [List.getElem?_map, hx];simp only [Option.map_some, List.mem_append, List.mem_singleton, hxi, or_true, if_true, Option.some.injEq];split
   · simp only [Em, U9]
   · rfl
 · rw [List.getElem?_set_ne hij];unfold Dt;rw [List.getElem?_map, List.getElem?_map];cases hy : l[j]? with
   | none => rfl
   | some y =>
     have hne : ¬ (y.rep, y.seq) = b := fun e => hij (Acj h hx hy (by rw [← e] at hxi; simpa using hxi));simp only [Option.map_some, List.mem_append, List.mem_singleton, hne, or_false]
def Dg (l : List Ver) (bs : List Bn) : Prop := ∃ b ∈ bs, Bo l b.1 b.2 = none
def Fe (l : List Ver) (bs : List Bn) (v : Ver) : List Ver := (Dt l bs v.rep v.seq).take (Ps l v.rep v.seq 0).1 ++ v :: (Dt l bs v.rep v.seq).drop (Ps l v.rep v.seq 0).1
theorem Jg (u : Ver) (g : Vc) : splice (Bd u) 3 (vE g) = Bd { u with gone := g } := by
 simp [splice, Bd, vE, Cm]
def Aoe (f : Bool) (l : List Ver) (g : Bool) (bs : List Bn) (v : Ver) (k : Nat) : FS := mk [(19, .pv (.i .i64 k)), (18, .pv (.i .i64 bs.length)), (17, .pv (.sl g 2 (bs.map Ed))), (8, .os 16), (5, .p 5 0)]
 [(5, some (.var (.vec 11 (Bd v)))), (16, some (.row 11 ((Dt l (bs.take k) v.rep v.seq).map Bd)))]
set_option maxHeartbeats 2000000 in
theorem Ajp {F : Fr} {f : Bool} {l : List Ver} {g : Bool} {bs : List Bn} {v : Ver} {R : SV → (Nat → Option Blk) → Prop} (hs : Cu l) (hn : l.length ≤ 900) (hbn : bs.length ≤ 900)
 (h1 : Dg l bs → ∀ h, R (.tup [.pv (.sl true 0 []), .pv (.i .i64 2)]) h)
 (h2 : ¬ Dg l bs → (Bo l v.rep v.seq).isSome = true → ∀ h, R (.tup [.pv (.sl true 0 []), .pv (.i .i64 11)]) h)
 (h3 : ¬ Dg l bs → Bo l v.rep v.seq = none → ∀ h n, h n = some (.row 11 ((Fe l bs v).map Bd)) → R (.tup [.os n, .pv (.i .i64 0)]) h) :
 sx (T9 Tryz.prog F 57) ir141 (Oi [.t 6, .t 7] R) (mk (C8 0 [.pv (.sl f 11 (l.map Bd)), .pv (.sl g 2 (bs.map Ed)), .vec 11 (Bd v)]) []) := by
 have hv := G2 v;simp (disch := omega) only [ir141, List.length_map, go_sem];refine Aa (Av7 (es := l.map Bd) rfl rfl (.inr rfl) (by simp; omega) rfl) ?_;simp (disch := omega) only [List.length_map, go_sem];refine A1 Af (Aoe f l g bs v) (fun k => k ≤ bs.length ∧ ∀ b ∈ bs.take k, Bo l b.1 b.2 ≠ none) (fun k => bs.length - k) 0 (by simp) (Aj ?_ ?_) fun k hk => ?_
 · simp (disch := omega) only [go_sem]
 · simp (disch := omega) only [List.take_zero, Ny, go_sem]
 obtain ⟨hk1, hk2⟩ := hk;have hsM := Qg (bs := bs.take k) (r := v.rep) (q := v.seq) hs;have hlM := Ys l (bs.take k) v.rep v.seq;have haM := fun r q => Aen (bs.take k) v.rep v.seq r q l 0;by_cases hlt : k < bs.length
 · have he : (bs.map Ed)[k]? = some (Ed bs[k]) := by simp [hlt]
   have ht : bs.take (k + 1) = bs.take k ++ [bs[k]] := by rw [List.take_add_one, List.getElem?_eq_getElem hlt]; rfl
   have hb : bs[k] ∈ bs := List.getElem_mem hlt;generalize bs[k] = b at *;simp (disch := omega) only [Aoe, List.length_map, he, Qk, go_sem];refine Aa (A1w (l := Dt l (bs.take k) v.rep v.seq) b.1 b.2 rfl rfl (by omega)) ?_;rcases ha : Ps (Dt l (bs.take k) v.rep v.seq) b.1 b.2 0 with ⟨i, is⟩
   have ha' := ha;rw [haM] at ha';cases is with
   | false =>
     obtain ⟨_, _, g3, _⟩ := Hu hs ha'
     (try simp only [Ch, Cg, Cf, Ce, Cd, Cc, Cb, Ca]); simp (disch := omega) only [go_sem]
     exact h1 ⟨b, hb, g3⟩ _
   | true =>
     obtain ⟨_, u, g2, g3, g4⟩ := Ik ha;obtain ⟨_, u', _, _, g5⟩ := Ik ha';have hu : (Dt l (bs.take k) v.rep v.seq)[i]? = some u := by simpa using g2
     have hi : i < (Dt l (bs.take k) v.rep v.seq).length := (List.getElem?_eq_some_iff.1 hu).1;have heu : ((Dt l (bs.take k) v.rep v.seq).map Bd)[i]? = some (Bd u) := by rw [List.getElem?_map, hu]; rfl
     have hm := Aqy (b := b) hs hu g3;have hgd : ((Dt l (bs.take k) v.rep v.seq).map Bd).getD i [] = Bd u := by rw [List.getD_eq_getElem?_getD, heu]; rfl
     (try simp only [Ch, Cg, Cf, Ce, Cd, Cc, Cb, Ca]); simp (disch := omega) only [List.length_map, heu, M1, Cz, go_sem]
     refine Aa (Aaq _ _ _) ?_;have hw : splice (Bd u) 3 (vE (A9 u.gone v.rep v.seq)) = Bd (Em u v.rep v.seq) := Jg _ _;simp (disch := omega) only [List.length_map, heu, hgd, hw, go_sem];refine Ad (k + 1) _ _ rfl ⟨by omega, fun c hc => ?_⟩ (by omega) ?_ ?_
     · rw [ht] at hc;rcases List.mem_append.1 hc with hc | hc
       · exact hk2 c hc
       · simp at hc; subst hc; rw [g5]; simp
     · simp (disch := omega) only [List.length_map, go_sem]
     · simp (disch := omega) only [go_sem];rw [ht, ← hm, List.map_set]
 · obtain rfl : k = bs.length := by omega
   have hmiss : ¬ Dg l bs := fun ⟨b, hb, e⟩ => hk2 b (by rw [List.take_length]; exact hb) e;rw [List.take_length] at hsM hlM haM;have e := List.take_length (l := bs);simp (disch := omega) only [Aoe, e, Cz, go_sem];refine Aa (A1w (l := Dt l bs v.rep v.seq) v.rep v.seq rfl rfl (by omega)) ?_;rcases ha : Ps (Dt l bs v.rep v.seq) v.rep v.seq 0 with ⟨i, is⟩
   have ha' := ha;rw [haM] at ha';cases is with
   | true =>
     obtain ⟨_, u', _, _, g5⟩ := Ik ha'
     (try simp only [Ch, Cg, Cf, Ce, Cd, Cc, Cb, Ca]); simp (disch := omega) only [go_sem]
     exact h2 hmiss (by rw [g5]; rfl) _
   | false =>
     obtain ⟨_, g2, g3, _⟩ := Hu hs ha'
     (try simp only [Ch, Cg, Cf, Ce, Cd, Cc, Cb, Ca]); simp (disch := omega) only [hv, go_sem]
     refine Aa (Ac7 ((Dt l bs v.rep v.seq).map Bd) (Bd v) i (by simp [hlM]; omega) (by simp [hlM]; omega) (by intro c hc; obtain ⟨x, _, rfl⟩ := List.mem_map.1 hc; exact G2 x) hv rfl rfl) ?_;simp (disch := omega) only [go_sem];refine h3 hmiss g3 _ _ ?_;simp (disch := omega) only [go_sem];simp [Fe, ha', List.map_take, List.map_drop]
theorem Af3 {x y : SV} {f g : Bool} {l : List Ver} {bs : List Bn} {v : Ver} {h d} (hx : C2 h [x, y, .vec 11 (Bd v)] = [.pv (.sl f 11 (l.map Bd)), .pv (.sl g 2 (bs.map Ed)), .vec 11 (Bd v)]) (hl : Bf [x, y, .vec 11 (Bd v)] = true)
 (hs : Cu l) (hn : l.length ≤ 900) (hbn : bs.length ≤ 900) (hm : Dg l bs) :
 FunOk Tryz.prog 141 [x, y, .vec 11 (Bd v)] h d (.tup [.pv (.sl true 0 []), .pv (.i .i64 2)]) [] := by
 refine Db Af fn141 (by simp) hl rfl fun F => ?_;rw [hx];exact Ajp hs hn hbn (fun _ _ => rfl) (fun h => absurd hm h) (fun h => absurd hm h)
def Ks (M : List Ver) (v : Ver) (p k : Nat) : List Ver := if p < k then (M.take k).take p ++ v :: (M.take k).drop p else M.take k
theorem Aph (M : List Ver) (v : Ver) (p k : Nat) (hk : k ≤ M.length) : (Ks M v p k).length ≤ k + 1 := by
 unfold Ks; split <;> simp <;> omega
def Aac (f : Bool) (l : List Ver) (g : Bool) (bs : List Bn) (v : Ver) (k : Nat) : FS := mk [(8, .pv (.i .i64 k)), (0, .pv (.sl f 11 (l.map Bd))), (1, .pv (.sl g 2 (bs.map Ed))), (5, .p 5 0)]
 [(5, some (.var (.vec 11 (Bd v))))]
def Ns (f : Bool) (l : List Ver) (g : Bool) (bs : List Bn) (v : Ver) (M : List Ver) (p k : Nat) : FS := mk [(13, .pv (.i .i64 k)), (12, .pv (.b (decide (p < k)))), (11, .os 16), (0, .pv (.sl f 11 (l.map Bd))), (1, .pv (.sl g 2 (bs.map Ed))), (5, .p 5 0)]
 [(5, some (.var (.vec 11 (Bd v)))), (16, some (.row 11 ((Ks M v p k).map Bd)))]
def Gj (f : Bool) (l : List Ver) (g : Bool) (bs : List Bn) (v : Ver) (k : Nat) (b : Bool) (o : List Ver) (x : Ver) (j : Nat) : FS := mk [(15, .pv (.i .i64 j)), (14, .p 14 0), (13, .pv (.i .i64 k)), (12, .pv (.b b)), (11, .os 16), (0, .pv (.sl f 11 (l.map Bd))), (1, .pv (.sl g 2 (bs.map Ed))), (5, .p 5 0)]
 [(5, some (.var (.vec 11 (Bd v)))), (16, some (.row 11 (o.map Bd))), (14, some (.var (.vec 11 (Bd (if (x.rep, x.seq) ∈ bs.take j then Em x v.rep v.seq else x)))))]
theorem Wr (x : Ver) (c : Prop) [Decidable c] (r : Int) (q : Nat) : Bd { (if c then Em x r q else x) with gone := Cn (if c then Em x r q else x).gone (Qd r q) } = Bd (Em x r q) := by
 have h1 : (if c then Em x r q else x).rep = x.rep := by split <;> rfl
 have h2 : (if c then Em x r q else x).seq = x.seq := by split <;> rfl
 have h3 : (if c then Em x r q else x).data = x.data := by split <;> rfl
 have h4 : ∀ i, i < 8 → Cn (if c then Em x r q else x).gone (Qd r q) i = (A9 x.gone r q) i := by
  intro i hi;rw [← Ab3 _ _ _ i hi];split
  · simp only [Em, U9]
  · rfl
 show _ = Bd { x with gone := A9 x.gone r q };simp only [Bd, h1, h2, h3, K9 h4]
theorem Avy {M : List Ver} {v : Ver} {p k : Nat} {x : Ver} (h : p < k) (hx : M[k]? = some x) : Ks M v p (k + 1) = Ks M v p k ++ [x] := by
 have hk : k < M.length := (List.getElem?_eq_some_iff.1 hx).1;unfold Ks;rw [if_pos h, if_pos (by omega), List.take_add_one, hx];simp only [Option.toList_some];rw [List.take_append_of_le_length (by simp; omega), List.drop_append_of_le_length (by simp; omega)];simp
theorem Av0 {M : List Ver} {v : Ver} {k : Nat} {x : Ver} (hx : M[k]? = some x) : Ks M v k (k + 1) = Ks M v k k ++ [v] ++ [x] := by
 have hk : k < M.length := (List.getElem?_eq_some_iff.1 hx).1;have hl : (M.take k).length = k := by simp; omega
 unfold Ks;rw [if_neg (Nat.lt_irrefl k), if_pos (by omega), List.take_add_one, hx];simp only [Option.toList_some];rw [List.take_append_of_le_length (by omega), List.take_of_length_le (by omega), List.drop_append_of_le_length (by omega), List.drop_of_length_le (by omega)];simp
theorem Avz {M : List Ver} {v : Ver} {p k : Nat} {x : Ver} (h : k < p) (hx : M[k]? = some x) : Ks M v p (k + 1) = Ks M v p k ++ [x] := by
 unfold Ks;rw [if_neg (by omega), if_neg (by omega), List.take_add_one, hx]; rfl
set_option maxHeartbeats 4000000 in
theorem Aub {F : Fr} {f : Bool} {l : List Ver} {g : Bool} {bs : List Bn} {v : Ver} {R : SV → (Nat → Option Blk) → Prop} (hs : Cu l) (hn : l.length ≤ 900) (hbn : bs.length ≤ 900)
 (h1 : Dg l bs → ∀ h, R (.tup [.pv (.sl true 0 []), .pv (.i .i64 2)]) h)
 (h2 : ¬ Dg l bs → (Bo l v.rep v.seq).isSome = true → ∀ h, R (.tup [.pv (.sl true 0 []), .pv (.i .i64 11)]) h)
 (h3 : ¬ Dg l bs → Bo l v.rep v.seq = none → ∀ h n, h n = some (.row 11 ((Fe l bs v).map Bd)) → R (.tup [.os n, .pv (.i .i64 0)]) h) :
 sx (T9 Tryz.prog F 118) ir134 (Oi [.t 6, .t 7] R) (mk (C8 0 [.pv (.sl f 11 (l.map Bd)), .pv (.sl g 2 (bs.map Ed)), .vec 11 (Bd v)]) []) := by
 have hv := G2 v;simp (disch := omega) only [ir134, List.length_map, go_sem];refine A1 Af (Aac f l g bs v) (fun k => k ≤ bs.length ∧ ∀ b ∈ bs.take k, Bo l b.1 b.2 ≠ none) (fun k => bs.length - k) 0 (by simp) (Aj ?_ ?_) fun k hk => ?_
 · simp (disch := omega) only [go_sem]
 · simp (disch := omega) only [go_sem]
 obtain ⟨hk1, hk2⟩ := hk;by_cases hlt : k < bs.length
 · have he : (bs.map Ed)[k]? = some (Ed bs[k]) := by simp [hlt]
   have ht : bs.take (k + 1) = bs.take k ++ [bs[k]] := by rw [List.take_add_one, List.getElem?_eq_getElem hlt]; rfl
   have hb : bs[k] ∈ bs := List.getElem_mem hlt;generalize bs[k] = b at *;have c0 : LoadK (some (Ed b)) 0 1 false = fun K => K (.pv (.i .i64 b.1)) [] := by
    funext K; simp only [LoadK, Hg, eq_iff_iff]; exact ⟨fun h => h.2.2, fun h => ⟨by simp [Ed], .inr trivial, h⟩⟩
   have c1 : LoadK (some (Ed b)) 1 1 false = fun K => K (.pv (.i .u32 b.2)) [] := by
    funext K; simp only [LoadK, Hg, eq_iff_iff]; exact ⟨fun h => h.2.2, fun h => ⟨by simp [Ed], .inr trivial, h⟩⟩
   simp (disch := omega) only [Aac, List.length_map, he, Qk, go_sem];refine Aa (Aio (l := l) b.1 b.2 rfl rfl (by omega)) ?_;have go : Bo l b.1 b.2 ≠ none → (k + 1 ≤ bs.length ∧ ∀ c ∈ bs.take (k + 1), Bo l c.1 c.2 ≠ none) := fun hne => ⟨by omega, fun c hc => by
    rw [ht] at hc;rcases List.mem_append.1 hc with hc | hc
    · exact hk2 c hc
    · simp at hc; subst hc; exact hne⟩
   by_cases hz : b.1 = 0 ∧ b.2 = 0
   · obtain ⟨b1, b2⟩ := b;obtain ⟨rfl, rfl⟩ : b1 = 0 ∧ b2 = 0 := hz;rw [Q5 ⟨rfl, rfl⟩]
     (try simp only [Ch, Cg, Cf, Ce, Cd, Cc, Cb, Ca]); simp (disch := omega) only [List.length_map, he, c0, c1, Qk, Int.natCast_zero, go_sem]
     refine Aa (Azh (l := l) 0 0 rfl rfl (by omega)) ?_;cases hf : Bo l 0 0 with
     | none =>
       simp (disch := omega) only [Option.isSome_none, go_sem];exact h1 ⟨_, hb, hf⟩ _
     | some u =>
       simp (disch := omega) only [Option.isSome_some, go_sem];refine Ad (k + 1) _ _ rfl (go (by rw [hf]; simp)) (by omega) ?_ ?_
       · simp (disch := omega) only [go_sem]
       · simp (disch := omega) only [go_sem]
   · cases hf : Bo l b.1 b.2 with
     | none =>
       rw [Q4 hz hf]
       (try simp only [Ch, Cg, Cf, Ce, Cd, Cc, Cb, Ca]); simp (disch := omega) only [go_sem]
       exact h1 ⟨b, hb, hf⟩ _
     | some u =>
       rw [Ly hz hf];by_cases hz1 : b.1 = 0
       · have hz2 : ¬ (b.2 : Int) = 0 := by omega
         (try simp only [Ch, Cg, Cf, Ce, Cd, Cc, Cb, Ca]); simp (disch := omega) only [List.length_map, he, c0, c1, hz1, hz2, go_sem]
         refine Ad (k + 1) _ _ rfl (go (by rw [hf]; simp)) (by omega) ?_ ?_
         · simp (disch := omega) only [go_sem]
         · simp (disch := omega) only [go_sem]
       · (try simp only [Ch, Cg, Cf, Ce, Cd, Cc, Cb, Ca]); simp (disch := omega) only [List.length_map, he, c0, c1, hz1, go_sem]
         refine Ad (k + 1) _ _ rfl (go (by rw [hf]; simp)) (by omega) ?_ ?_
         · simp (disch := omega) only [go_sem]
         · simp (disch := omega) only [go_sem]
 · obtain rfl : k = bs.length := by omega
   have hmiss : ¬ Dg l bs := fun ⟨b, hb, e⟩ => hk2 b (by rw [List.take_length]; exact hb) e;have e := List.take_length (l := bs);simp (disch := omega) only [Aac, List.length_map, Cz, go_sem];refine Aa (Azh (l := l) v.rep v.seq rfl rfl (by omega)) ?_;cases hf : Bo l v.rep v.seq with
   | some u =>
     simp (disch := omega) only [Option.isSome_some, go_sem];exact h2 hmiss (by rw [hf]; rfl) _
   | none =>
     obtain ⟨p, hp⟩ : ∃ p, Ps l v.rep v.seq 0 = (p, false) := by
      rcases ha : Ps l v.rep v.seq 0 with ⟨p, b⟩
      cases b with
      | false => exact ⟨p, rfl⟩
      | true => obtain ⟨_, u, _, _, h4⟩ := Ik ha; rw [hf] at h4; cases h4
     obtain ⟨_, g2, _, g4, g5, g6⟩ := Hu hs hp;rw [Nat.sub_zero] at g2 g5 g6;have h3' := h3 hmiss hf;simp only [Fe, hp] at h3';have hM : ∀ k x, l[k]? = some x → (Dt l bs v.rep v.seq)[k]? = some (if (x.rep, x.seq) ∈ bs then Em x v.rep v.seq else x) := fun k x hx => by unfold Dt; rw [List.getElem?_map, hx]; rfl
     have hMl := Ys l bs v.rep v.seq;generalize Dt l bs v.rep v.seq = M at *;simp (disch := omega) only [Option.isSome_none, go_sem];refine A1 Af (Ns f l g bs v M p) (fun k => k ≤ l.length) (fun k => l.length - k) 0 (by simp) (Rp 11 16 11 rfl (by omega) (Aj ?_ ?_)) fun k hk => ?_
     · simp (disch := omega) only [Nat.not_lt_zero, go_sem]
     · simp (disch := omega) only [go_sem];simp [Ks]
     by_cases hlt : k < l.length
     · have he : (l.map Bd)[k]? = some (Bd l[k]) := by simp [hlt]
       have hx := hM k l[k] (List.getElem?_eq_getElem hlt);have ho := Aph M v p k (by omega);have hl5 : p > k → Ck v.rep v.seq l[k].rep l[k].seq = false := fun h => by
        have := Axb (g5 l[k] (List.mem_take_iff_getElem.2 ⟨k, by omega, rfl⟩));simpa using this
       have hl6 : p = k → Ck v.rep v.seq l[k].rep l[k].seq = true := fun h => g6 l[k] (by
        subst h;rw [List.drop_eq_getElem_cons hlt]; exact List.mem_cons_self)
       generalize l[k] = x at *;have hxl := G2 x;rcases Nat.lt_trichotomy p k with hpk | hpk | hpk
       · have e1 : decide (p < k) = true := by simp [hpk]
         have e2 : decide (p < k + 1) = true := by simp; omega
         have eo := Avy (v := v) hpk hx;simp (disch := omega) only [Ns, e1, List.length_map, he, Ln, hxl, go_sem];refine A1 Af (Gj f l g bs v k true (Ks M v p k) x) (fun j => j ≤ bs.length) (fun j => bs.length - j) 0 (by simp) (Aj ?_ ?_) fun j hj => ?_
         · simp (disch := omega) only [go_sem]
         · simp (disch := omega) only [List.take_zero, List.not_mem_nil, go_sem]
         have ex := Gk x (bs.take j) v.rep v.seq;by_cases hj2 : j < bs.length
         · have hbe : (bs.map Ed)[j]? = some (Ed bs[j]) := by simp [hj2]
           have ht : bs.take (j + 1) = bs.take j ++ [bs[j]] := by rw [List.take_add_one, List.getElem?_eq_getElem hj2]; rfl
           generalize bs[j] = b at *;have hjn := Wr x ((x.rep, x.seq) ∈ bs.take j) v.rep v.seq;have hsp := Jg (if (x.rep, x.seq) ∈ bs.take j then Em x v.rep v.seq else x) (Cn (if (x.rep, x.seq) ∈ bs.take j then Em x v.rep v.seq else x).gone (Qd v.rep v.seq));by_cases hb : b.1 = x.rep ∧ b.2 = x.seq
           · have hp := J3 hb;have hb' : (x.rep, x.seq) = b := by rw [← hb.1, ← hb.2]
             simp (disch := omega) only [Gj, List.length_map, hbe, Qk, Cz, ex.1, ex.2, Gt, hp, M1, go_sem];refine Aa (Uk _ _ _) ?_;simp (disch := omega) only [hsp, hjn, go_sem];refine Ad (j + 1) _ _ rfl (by omega) (by omega) ?_ ?_
             · simp (disch := omega) only [go_sem]
             · simp (disch := omega) only [ht, hb', List.mem_append, List.mem_singleton, go_sem]
           · have hp := Hy hb;have hb' : ¬ (x.rep, x.seq) = b := fun e => hb (by rw [← e]; exact ⟨rfl, rfl⟩);simp (disch := omega) only [Gj, List.length_map, hbe, Qk, Cz, ex.1, ex.2, Gt, hp, go_sem];refine Ad (j + 1) _ _ rfl (by omega) (by omega) ?_ ?_
             · simp (disch := omega) only [go_sem]
             · simp (disch := omega) only [ht, hb', List.mem_append, List.mem_singleton, or_false, go_sem]
         · obtain rfl : j = bs.length := by omega
           have e := List.take_length (l := bs);have hxl2 := G2 (if (x.rep, x.seq) ∈ bs then Em x v.rep v.seq else x);simp (disch := omega) only [Gj, e, List.length_map, Ln, hxl2, List.length_append, List.length_singleton, go_sem];refine ⟨k + 1, by omega, by omega, D6 110 16 (by decide) rfl (Aj ?_ ?_)⟩
           · simp (disch := omega) only [e2, go_sem]
           · simp (disch := omega) only [eo, List.map_append, List.map_cons, List.map_nil, go_sem]
       · subst hpk;have e1 : decide (p < p) = false := by simp
         have e2 : decide (p < p + 1) = true := by simp
         have eo := Av0 (v := v) hx;have hl7 := hl6 rfl;simp (disch := omega) only [Ns, e1, List.length_map, he, Cz, go_sem];refine Aa (Fy _ _ _ _) ?_;simp (disch := omega) only [hl7, hv, List.length_map, he, Ln, hxl, go_sem];refine A1 Af (Gj f l g bs v p true (Ks M v p p ++ [v]) x) (fun j => j ≤ bs.length) (fun j => bs.length - j) 0 (by simp) (D6 83 16 (by decide) rfl (Aj ?_ ?_)) fun j hj => ?_
         · simp (disch := omega) only [go_sem]
         · simp (disch := omega) only [List.take_zero, List.not_mem_nil, List.map_append, List.map_cons, List.map_nil, go_sem]
         have ex := Gk x (bs.take j) v.rep v.seq;by_cases hj2 : j < bs.length
         · have hbe : (bs.map Ed)[j]? = some (Ed bs[j]) := by simp [hj2]
           have ht : bs.take (j + 1) = bs.take j ++ [bs[j]] := by rw [List.take_add_one, List.getElem?_eq_getElem hj2]; rfl
           generalize bs[j] = b at *;have hjn := Wr x ((x.rep, x.seq) ∈ bs.take j) v.rep v.seq;have hsp := Jg (if (x.rep, x.seq) ∈ bs.take j then Em x v.rep v.seq else x) (Cn (if (x.rep, x.seq) ∈ bs.take j then Em x v.rep v.seq else x).gone (Qd v.rep v.seq));by_cases hb : b.1 = x.rep ∧ b.2 = x.seq
           · have hp := J3 hb;have hb' : (x.rep, x.seq) = b := by rw [← hb.1, ← hb.2]
             simp (disch := omega) only [Gj, List.length_map, hbe, Qk, Cz, ex.1, ex.2, Gt, hp, M1, go_sem];refine Aa (Uk _ _ _) ?_;simp (disch := omega) only [hsp, hjn, go_sem];refine Ad (j + 1) _ _ rfl (by omega) (by omega) ?_ ?_
             · simp (disch := omega) only [go_sem]
             · simp (disch := omega) only [ht, hb', List.mem_append, List.mem_singleton, go_sem]
           · have hp := Hy hb;have hb' : ¬ (x.rep, x.seq) = b := fun e => hb (by rw [← e]; exact ⟨rfl, rfl⟩);simp (disch := omega) only [Gj, List.length_map, hbe, Qk, Cz, ex.1, ex.2, Gt, hp, go_sem];refine Ad (j + 1) _ _ rfl (by omega) (by omega) ?_ ?_
             · simp (disch := omega) only [go_sem]
             · simp (disch := omega) only [ht, hb', List.mem_append, List.mem_singleton, or_false, go_sem]
         · obtain rfl : j = bs.length := by omega
           have e := List.take_length (l := bs);have hxl2 := G2 (if (x.rep, x.seq) ∈ bs then Em x v.rep v.seq else x);simp (disch := omega) only [Gj, e, List.length_map, Ln, hxl2, List.length_append, List.length_singleton, go_sem];refine ⟨p + 1, by omega, by omega, D6 110 16 (by decide) rfl (Aj ?_ ?_)⟩
           · simp (disch := omega) only [e2, go_sem]
           · simp (disch := omega) only [eo, List.map_append, List.map_cons, List.map_nil, go_sem]
       · have e1 : decide (p < k) = false := by simp; omega
         have e2 : decide (p < k + 1) = false := by simp; omega
         have eo := Avz (v := v) hpk hx;have hl7 := hl5 hpk;simp (disch := omega) only [Ns, e1, List.length_map, he, Cz, go_sem];refine Aa (Fy _ _ _ _) ?_;simp (disch := omega) only [hl7, hv, List.length_map, he, Ln, hxl, go_sem];refine A1 Af (Gj f l g bs v k false (Ks M v p k) x) (fun j => j ≤ bs.length) (fun j => bs.length - j) 0 (by simp) (Aj ?_ ?_) fun j hj => ?_
         · simp (disch := omega) only [go_sem]
         · simp (disch := omega) only [List.take_zero, List.not_mem_nil, go_sem]
         have ex := Gk x (bs.take j) v.rep v.seq;by_cases hj2 : j < bs.length
         · have hbe : (bs.map Ed)[j]? = some (Ed bs[j]) := by simp [hj2]
           have ht : bs.take (j + 1) = bs.take j ++ [bs[j]] := by rw [List.take_add_one, List.getElem?_eq_getElem hj2]; rfl
           generalize bs[j] = b at *;have hjn := Wr x ((x.rep, x.seq) ∈ bs.take j) v.rep v.seq;have hsp := Jg (if (x.rep, x.seq) ∈ bs.take j then Em x v.rep v.seq else x) (Cn (if (x.rep, x.seq) ∈ bs.take j then Em x v.rep v.seq else x).gone (Qd v.rep v.seq));by_cases hb : b.1 = x.rep ∧ b.2 = x.seq
           · have hp := J3 hb;have hb' : (x.rep, x.seq) = b := by rw [← hb.1, ← hb.2]
             simp (disch := omega) only [Gj, List.length_map, hbe, Qk, Cz, ex.1, ex.2, Gt, hp, M1, go_sem];refine Aa (Uk _ _ _) ?_;simp (disch := omega) only [hsp, hjn, go_sem];refine Ad (j + 1) _ _ rfl (by omega) (by omega) ?_ ?_
             · simp (disch := omega) only [go_sem]
             · simp (disch := omega) only [ht, hb', List.mem_append, List.mem_singleton, go_sem]
           · have hp := Hy hb;have hb' : ¬ (x.rep, x.seq) = b := fun e => hb (by rw [← e]; exact ⟨rfl, rfl⟩);simp (disch := omega) only [Gj, List.length_map, hbe, Qk, Cz, ex.1, ex.2, Gt, hp, go_sem];refine Ad (j + 1) _ _ rfl (by omega) (by omega) ?_ ?_
             · simp (disch := omega) only [go_sem]
             · simp (disch := omega) only [ht, hb', List.mem_append, List.mem_singleton, or_false, go_sem]
         · obtain rfl : j = bs.length := by omega
           have e := List.take_length (l := bs);have hxl2 := G2 (if (x.rep, x.seq) ∈ bs then Em x v.rep v.seq else x);simp (disch := omega) only [Gj, e, List.length_map, Ln, hxl2, List.length_append, List.length_singleton, go_sem];refine ⟨k + 1, by omega, by omega, D6 110 16 (by decide) rfl (Aj ?_ ?_)⟩
           · simp (disch := omega) only [e2, go_sem]
           · simp (disch := omega) only [eo, List.map_append, List.map_cons, List.map_nil, go_sem]
     · obtain rfl : k = l.length := by omega
       by_cases hpl : p < l.length
       · have e1 : decide (p < l.length) = true := by simp [hpl]
         have e2 : Ks M v p l.length = M.take p ++ v :: M.drop p := by unfold Ks; rw [if_pos hpl, ← hMl, List.take_length]
         simp (disch := omega) only [Ns, e1, e2, List.length_map, go_sem];exact h3' _ _ rfl
       · have e1 : decide (p < l.length) = false := by simp; omega
         have ep : p = M.length := by omega
         have e2 : Ks M v p l.length = M := by unfold Ks; rw [if_neg hpl, ← hMl, List.take_length]
         simp (disch := omega) only [Ns, e1, e2, hv, List.length_map, go_sem];refine h3' _ _ ?_;simp (disch := omega) only [go_sem];simp [ep]
end Go.Proofs.YthmjebkldgdeiaaGreat.Fw
namespace Go.Proofs.YthmjebkldgdeiaaGreat.Fw
open Go.RowKit Go.Proofs
variable {P : Program} {F : Fr} {N : Nat} {ρ ρ' : Nat → Value} {s : FS} {a : Act} {w w' : World} {V V' : View}
def PImp (x y : PV) : Prop := ∀ (V : View) (v : Value), PConc V x v → PConc V y v
theorem PImp.refl (x : PV) : PImp x x := fun _ _ h => h
def PImpL : List PV → List PV → Prop
 | [], [] => True
 | x :: l, y :: m => PImp x y ∧ PImpL l m
 | _, _ => False
def PImpR : List (List PV) → List (List PV) → Prop
 | [], [] => True
 | x :: l, y :: m => PImpL x y ∧ PImpR l m
 | _, _ => False
theorem PImpL.refl : ∀ l : List PV, PImpL l l
 | [] => trivial
 | x :: l => ⟨.refl x, PImpL.refl l⟩
theorem PImpR.refl : ∀ l : List (List PV), PImpR l l
 | [] => trivial
 | x :: l => ⟨.refl x, PImpR.refl l⟩
theorem PImpL.len : ∀ {l m : List PV}, PImpL l m → l.length = m.length
 | [], [], _ => rfl
 | x :: l, y :: m, h => by simp [PImpL.len h.2]
 | [], _ :: _, h => h.elim
 | _ :: _, [], h => h.elim
theorem PImpR.len : ∀ {l m : List (List PV)}, PImpR l m → l.length = m.length
 | [], [], _ => rfl
 | x :: l, y :: m, h => by simp [PImpR.len h.2]
 | [], _ :: _, h => h.elim
 | _ :: _, [], h => h.elim
theorem PImpL.get : ∀ {l m : List PV} {j : Nat} {y : PV}, PImpL l m → m[j]? = some y → ∃ x, l[j]? = some x ∧ PImp x y
 | x :: l, z :: m, 0, y, h, hy => by simp at hy; subst hy; exact ⟨x, by simp, h.1⟩
 | x :: l, z :: m, j + 1, y, h, hy => by
   obtain ⟨u, h1, h2⟩ := PImpL.get (j := j) h.2 (by simpa using hy);exact ⟨u, by simpa using h1, h2⟩
 | [], [], j, y, _, hy => by simp at hy
 | [], _ :: _, _, _, h, _ => h.elim
 | _ :: _, [], _, _, h, _ => h.elim
theorem PImpR.get : ∀ {l m : List (List PV)} {j : Nat} {y : List PV}, PImpR l m → m[j]? = some y → ∃ x, l[j]? = some x ∧ PImpL x y
 | x :: l, z :: m, 0, y, h, hy => by simp at hy; subst hy; exact ⟨x, by simp, h.1⟩
 | x :: l, z :: m, j + 1, y, h, hy => by
   obtain ⟨u, h1, h2⟩ := PImpR.get (j := j) h.2 (by simpa using hy);exact ⟨u, by simpa using h1, h2⟩
 | [], [], j, y, _, hy => by simp at hy
 | [], _ :: _, _, _, h, _ => h.elim
 | _ :: _, [], _, _, h, _ => h.elim
theorem PImpL.app : ∀ {a b c d : List PV}, PImpL a b → PImpL c d → PImpL (a ++ c) (b ++ d)
 | [], [], c, d, _, k => k
 | x :: a, y :: b, c, d, h, k => ⟨h.1, PImpL.app h.2 k⟩
 | [], _ :: _, _, _, h, _ => h.elim
 | _ :: _, [], _, _, h, _ => h.elim
theorem PImpR.app : ∀ {a b c d : List (List PV)}, PImpR a b → PImpR c d → PImpR (a ++ c) (b ++ d)
 | [], [], c, d, _, k => k
 | x :: a, y :: b, c, d, h, k => ⟨h.1, PImpR.app h.2 k⟩
 | [], _ :: _, _, _, h, _ => h.elim
 | _ :: _, [], _, _, h, _ => h.elim
theorem G4 {f f' : Bool} {z z' : Nat} {es es' : List (List PV)} (hf : f' = true → f = true) (hz : es = [] ∨ z = z') (h : PImpR es es') : PImp (.sl f z es) (.sl f' z' es') := by
 intro V v hv;cases hv with
 | sl full sz es a cap cs bl off arr hcap hfull hsz ha hcs hel =>
   have hl := h.len;have hne : es' ≠ [] → es ≠ [] := fun e1 e2 => by subst e2; exact e1 (List.eq_nil_of_length_eq_zero hl.symm)
   rw [hl];refine .sl f' z' es' a cap cs bl off arr (by omega) (fun e => by rw [hfull (hf e)]; exact hl) (fun c hc => ?_) (fun e => ha (hne e)) (fun i j hi hj => ?_) fun i j c x hi hx => ?_
   · obtain ⟨j, hj⟩ := List.mem_iff_getElem?.1 hc;obtain ⟨u, h1, h2⟩ := h.get hj;rw [← h2.len, hsz u (List.mem_of_getElem? h1)];exact hz.resolve_left (hne (List.ne_nil_of_mem hc))
   · have e : z = z' := hz.resolve_left (hne fun e => by subst e; simp at hi);subst e;exact hcs i j (by omega) hj
   · obtain ⟨u, h1, h2⟩ := h.get hi;obtain ⟨y, h3, h4⟩ := h2.get hx;exact h4 V _ (hel i j u y h1 h3)
theorem Su {x y : PV} (h : PImp x y) : Imp (.pv x) (.pv y) := fun V ρ v hv => by simp only [Conc] at hv ⊢; exact h V v hv
theorem Als {n : Nat} {cs ds : List PV} (h : PImpL cs ds) : Imp (.vec n cs) (.vec n ds) := fun V ρ v hv => by
 simp only [Conc] at hv ⊢;obtain ⟨vs, h1, h2, h3⟩ := hv;refine ⟨vs, h1, h2, h.len.symm.trans h3.1, fun j x hx => ?_⟩;obtain ⟨u, h4, h5⟩ := h.get hx;obtain ⟨v', h6, h7⟩ := h3.2 j u h4;exact ⟨v', h6, h5 V v' h7⟩
def ImpS : List SV → List SV → Prop
 | [], [] => True
 | x :: l, y :: m => (Imp x y ∧ x.width = y.width) ∧ ImpS l m
 | _, _ => False
theorem ImpS.cells : ∀ {l m : List SV} {vs : List Value}, ImpS l m → Cells V ρ l vs → Cells V ρ m vs
 | [], [], vs, _, h => h
 | x :: l, y :: m, vs, h, k => by
   simp only [Cells] at k ⊢;obtain ⟨u, us, rfl, k1, k2, k3, k4⟩ := k;exact ⟨u, us, rfl, h.1.1 V ρ u k1, by rw [← h.1.2]; exact k2, k3, h.2.cells k4⟩
 | [], _ :: _, _, h, _ => h.elim
 | _ :: _, [], _, h, _ => h.elim
theorem Ws {l m : List SV} (h : ImpS l m) : Imp (.agg l) (.agg m) := fun V ρ v hv => by
 simp only [Conc] at hv ⊢;obtain ⟨vs, h1, h2⟩ := hv;exact ⟨vs, h1, h.cells h2⟩
theorem Aw8 {l m : List SV} (h : ImpL l m) : Imp (.tup l) (.tup m) := fun V ρ v hv => by
 simp only [Conc] at hv ⊢;obtain ⟨vs, h1, h2⟩ := hv;exact ⟨vs, h1, h.conc h2⟩
theorem S0 (hm : P.follows .mixedOrders = true) {f N' : Nat} {rs : List Rv} {c : C} (hf : A8 P f = some (N', rs, c)) {args : List SV} {h : Nat → Option Blk} {d : Nat} {x : SV} (hlen : args.length ≤ N')
 (hargs : SV.closedL args = true) (hx : x.closed = true) (hrun : ∀ F, sx (T9 P F N') c (Ank rs fun y _ => Imp y x) (mk (C8 0 args) [])) : FunOk P f args h d x [] := by
 obtain ⟨h1, h2, h3⟩ := Cj hargs;refine ⟨Cp hf, fun F N ρ s a w hR hh vs hc => ?_⟩;refine Calls.mono (Dm hm hf (h := h) hlen h2 Aaj (by rw [h3]; exact hrun) hR hh hc) fun e w' he => ?_;obtain ⟨v, rfl, hg, N'', ρ', s', a', y, hR', hy, hyx⟩ := he;rw [h1, Ds] at hR' hy;exact ⟨v, ρ, rfl, hR.grew hg, Bx (E0 hR') hx (hyx _ _ _ hy)⟩
theorem V3 {N' : Nat} {a' : Act} {s' : FS} (hR' : RelR ⟨w, fun _ => False, F.out ρ s.h, fun _ => undef, []⟩ N' ρ' s' a' w') {n sz : Nat} {es : List (List PV)} (hn : s'.h n = some (.row sz es)) : PConc (vw F w' ρ s) (.sl false sz es) (ρ' n) :=
 (Ki hR' hn).mono (Bj fun b c ho hc => ⟨fun hb => ho (.inr hb), hc⟩)
theorem Qw (hm : P.follows .mixedOrders = true) {f N' : Nat} {rs : List Rv} {c : C} (hf : A8 P f = some (N', rs, c)) {args : List SV} {h : Nat → Option Blk} {d : Nat} {sz : Nat} {es : List (List PV)} (hlen : args.length ≤ N')
 (hargs : SV.closedL args = true) (hrun : ∀ F, sx (T9 P F N') c (Oi rs fun y g => (∃ n, y = .os n ∧ g n = some (.row sz es)) ∨ ∃ z, y = .pv (.sl true z []) ∧ es = [] ∧ 0 < sz) (mk (C8 0 args) [])) :
 FunOk P f args h d (.pv (.sl false sz es)) [] := by
 obtain ⟨h1, h2, h3⟩ := Cj hargs;refine ⟨Cp hf, fun F N ρ s a w hR hh vs hc => ?_⟩;refine Calls.mono (Dm hm hf (h := h) hlen h2 Jj (by rw [h3]; exact hrun) hR hh hc) fun e w' he => ?_;obtain ⟨v, rfl, hg, N'', ρ', s', a', y, hR', hy, hyy⟩ := he;rw [h1, Ds] at hR' hy;refine ⟨v, ρ, rfl, hR.grew hg, ?_⟩;rcases hyy with ⟨n, rfl, hn⟩ | ⟨z, rfl, rfl, hsz⟩
 · simp only [Conc] at hy ⊢;rw [hy.1];exact V3 hR' hn
 · simp only [Conc] at hy ⊢;exact (G4 (by simp) (.inl rfl) (.refl [])) _ _ (hy.mono (E0 hR'))
theorem Y4 (hm : P.follows .mixedOrders = true) {f N' : Nat} {rs : List Rv} {c : C} (hf : A8 P f = some (N', rs, c)) {args : List SV} {h : Nat → Option Blk} {d : Nat} {sz : Nat} {es : List (List PV)} {z0 : SV} (hlen : args.length ≤ N')
 (hargs : SV.closedL args = true) (hz : z0.closed = true) (hrun : ∀ F, sx (T9 P F N') c (Oi rs fun y g => (∃ n, y = .tup [.os n, z0] ∧ g n = some (.row sz es)) ∨ ∃ z, y = .tup [.pv (.sl true z []), z0] ∧ es = []) (mk (C8 0 args) [])) :
 FunOk P f args h d (.tup [.pv (.sl false sz es), z0]) [] := by
 obtain ⟨h1, h2, h3⟩ := Cj hargs;refine ⟨Cp hf, fun F N ρ s a w hR hh vs hc => ?_⟩;refine Calls.mono (Dm hm hf (h := h) hlen h2 Jj (by rw [h3]; exact hrun) hR hh hc) fun e w' he => ?_;obtain ⟨v, rfl, hg, N'', ρ', s', a', y, hR', hy, hyy⟩ := he;rw [h1, Ds] at hR' hy;refine ⟨v, ρ, rfl, hR.grew hg, ?_⟩;rcases hyy with ⟨n, rfl, hn⟩ | ⟨z, rfl, rfl⟩
 · simp only [Conc, ConcL] at hy ⊢;obtain ⟨vs, rfl, u, us, rfl, hu, u2, us2, rfl, hu2, rfl⟩ := hy;refine ⟨_, rfl, u, _, rfl, ?_, u2, _, rfl, Bx (E0 hR') hz hu2, rfl⟩;rw [hu.1]; exact V3 hR' hn
 · simp only [Conc, ConcL] at hy ⊢;obtain ⟨vs, rfl, u, us, rfl, hu, u2, us2, rfl, hu2, rfl⟩ := hy;exact ⟨_, rfl, u, _, rfl, (G4 (by simp) (.inl rfl) (.refl [])) _ _ (hu.mono (E0 hR')), u2, _, rfl, Bx (E0 hR') hz hu2, rfl⟩
theorem Y3 (hm : P.follows .mixedOrders = true) {f N' : Nat} {rs : List Rv} {c : C} (hf : A8 P f = some (N', rs, c)) {args : List SV} {h : Nat → Option Blk} {d : Nat} {sz : Nat} {es : List (List PV)} (hlen : args.length ≤ N')
 (hargs : Bf args = true) (hx : ∀ c ∈ es, c.all PV.flat = true) (hrun : ∀ F, sx (T9 P F N') c (Oi rs fun y g => (∃ n, y = .os n ∧ g n = some (.row sz es)) ∨ ∃ z, y = .pv (.sl true z []) ∧ es = [] ∧ 0 < sz) (mk (C8 0 (C2 h args)) [])) :
 FunOk P f args h d (.pv (.sl false sz es)) [] := by
 refine ⟨Cp hf, fun F N ρ s a w hR hh vs hc => ?_⟩;refine Calls.mono (Dm hm hf (h := h) hlen hargs Jj hrun hR hh hc) fun e w' he => ?_;obtain ⟨v, rfl, hg, N'', ρ', s', a', y, hR', hy, hyy⟩ := he;refine ⟨v, ρ, rfl, hR.grew hg, ?_⟩;rcases hyy with ⟨n, rfl, hn⟩ | ⟨z, rfl, rfl, hsz⟩
 · simp only [Conc] at hy ⊢;rw [hy.1];have hp := Ki hR' hn;have hnew : ∀ b, Cr (ρ' n) = some b → w.heap.size ≤ b := fun b hb => (hR'.may b ⟨n, _, hn, hb⟩).resolve_right id;generalize ρ' n = u at hp hnew;cases hp with
   | sl full sz es a cap cs bl off arr hcap hfull hsz ha hcs hel =>
     refine .sl false sz es a cap cs bl off arr hcap hfull hsz (fun hne => ?_) hcs fun i j c x hi hj => N5 (List.all_eq_true.1 (hx c (List.mem_of_getElem? hi)) x (List.mem_of_getElem? hj)) (hel i j c x hi hj);obtain ⟨rfl, hV⟩ := ha hne;refine ⟨rfl, ?_⟩;have hcp : cap ≠ 0 := fun e => by subst e; exact hne (List.eq_nil_of_length_eq_zero (by omega))
     have hb := hnew bl (by simp [Cr, hcp]);have hc' : Ek w' bl = some arr := by
      unfold vw Ay at hV;split at hV
      · cases hV
      · exact hV
     show Ay w' (F.out ρ s.h) bl = some arr;unfold Ay;rw [if_neg]
     · exact hc'
     · rintro (ho | ho)
       · have := hR.lt ho; omega
       · have := (hR.fr.hid bl ho).1; have := hR.fr.size; omega
 · simp only [Conc] at hy ⊢;have hy' : PConc (vw F w' ρ s) (.sl true z []) v := N5 rfl hy;exact (G4 (by simp) (.inl rfl) (.refl [])) _ _ hy'
theorem DeepOk.frz {f : Nat} {args args' : List SV} {h h' : Nat → Option Blk} {d d' : Nat} {x : SV} {u : List HU} {n sz : Nat} {es : List (List PV)} (hn : h n = some (.row sz es)) (ha : SV.frzL n (.sl false sz es) args = args')
 (hh' : ∀ k ∈ A4 args', (if k = n then none else (h k).map (Blk.frz n (.sl false sz es))) = h' k) (hf : FunOk P f args' h' d' x u) : DeepOk P f args h d x (.frz n (.sl false sz es) :: u) := by
 refine ⟨hf.1, fun F N ρ s a w hR hh vs hv => ?_⟩;subst ha;have hs : s.h n = some (.row sz es) := by rw [hh]; exact hn
 obtain ⟨hR', hV, hV2⟩ := hR.frz hs;have hp := (Ki hR hs).mono hV2;exact hf.2 F N ρ (s.frz n (.sl false sz es)) a w hR' (fun k hk => by rw [← hh' k hk]; simp only [FS.frz, hh]) vs (ConcL.frz hV hp hv)
end Go.Proofs.YthmjebkldgdeiaaGreat.Fw
