/- What the functions compute that the laws of this seat reach. -/
import Derived.Test.YthmjebkldgdeiaaWalk1
import Derived.OpenShut
import Derived.ShutString
import Derived.ChangeOld
import Derived.SizedLaws
import Derived.ChangeOld
import Derived.Lib.Bytealg
import Derived.Lib.Overlaps
import Derived.OpenShut
import Derived.ShutString
import Derived.SizedLaws
set_option linter.unusedVariables false
set_option linter.unusedSimpArgs false
set_option linter.unusedSectionVars false
set_option maxRecDepth 100000
namespace Go.Proofs.Ythmjebkldgdeiaa.Fw
open Go.RowKit Go.Proofs
def Wg (e : Evt) : Bool := decide (e.kind = 3 ∨ e.kind = 4 ∨ e.kind = 5)
def gvF (g : Evt) (obj id : Bb) : Bool := Wg g && (decide (Ar g = obj) && decide (id ∈ g.base.l))
def gvG (l : List Evt) (obj id : Bb) : Vc := l.foldl (fun a g => if gvF g obj id = true then A9 a g.rep g.seq else a) fun _ => 0
theorem Ap5 (l : List Evt) (g : Evt) (obj id : Bb) : gvG (l ++ [g]) obj id = if gvF g obj id = true then A9 (gvG l obj id) g.rep g.seq else gvG l obj id := by simp [gvG]
noncomputable def Hc (l m : List Evt) (e : Evt) : Ver := ⟨e.rep, e.seq, E0 l l.length (Al e), gvG m (Ar e) (Al e)⟩
noncomputable def Ck (l : List Evt) (obj : Bb) (m : List Evt) : List Ver := m.foldl (fun out e => if Wg e = true ∧ Ar e = obj then Fj out [] (Hc l l e) else out) []
theorem Tn (l : List Evt) (obj : Bb) (m : List Evt) (e : Evt) : Ck l obj (m ++ [e]) = if Wg e = true ∧ Ar e = obj then Fj (Ck l obj m) [] (Hc l l e) else Ck l obj m := by simp [Ck]
theorem Ajq {l : List Ver} {v x : Ver} : x ∈ Fj l [] v ↔ x = v ∨ x ∈ l := by
 unfold Fj; rw [M2];simp only [List.mem_append, List.mem_cons];have : x ∈ l ↔ x ∈ l.take (P5 l v.rep v.seq 0).1 ∨ x ∈ l.drop (P5 l v.rep v.seq 0).1 := by
  rw [← List.mem_append, List.take_append_drop]
 rw [this];constructor
 · rintro (h | h | h)
   · exact .inr (.inl h)
   · exact .inl h
   · exact .inr (.inr h)
 · rintro (h | h | h)
   · exact .inr (.inl h)
   · exact .inl h
   · exact .inr (.inr h)
theorem Aly (l : List Ver) (v : Ver) : (Fj l [] v).length = l.length + 1 := by
 unfold Fj; rw [M2];simp only [List.length_append, List.length_take, List.length_cons, List.length_drop]; omega
theorem Aab {l : List Ver} {v : Ver} (hs : Cg l) (hn : Cq l v.rep v.seq = none) : Cg (Fj l [] v) := by
 unfold Fj; rw [M2];have hfalse : P5 l v.rep v.seq 0 = ((P5 l v.rep v.seq 0).1, false) := by
  rcases h : P5 l v.rep v.seq 0 with ⟨i, b⟩
  cases b with
  | false => rfl
  | true =>
    obtain ⟨_, u, _, _, h4⟩ := H4 h;rw [hn] at h4; cases h4
 obtain ⟨_, _, _, _, h5, h6⟩ := Ht hs hfalse;generalize (P5 l v.rep v.seq 0).1 = p at *;simp only [Nat.sub_zero] at h5 h6;refine List.pairwise_append.2 ⟨hs.sublist (List.take_sublist _ _), List.pairwise_cons.2 ⟨fun u hu => h6 u hu, hs.sublist (List.drop_sublist _ _)⟩, fun a ha b hb => ?_⟩;rcases List.mem_cons.1 hb with rfl | hb
 · exact h5 a ha
 · have := h5 a ha;exact N8 this (h6 b hb)
theorem Mo {l : List Evt} {obj : Bb} {v : Ver} : ∀ (n : Nat) (m : List Evt), m.length = n → (v ∈ Ck l obj m ↔ ∃ e ∈ m, (Wg e = true ∧ Ar e = obj) ∧ v = Hc l l e)
 | 0, m, h => by obtain rfl := List.eq_nil_of_length_eq_zero h; simp [Ck]
 | n + 1, m, h => by
   have hne : m ≠ [] := fun e => by subst e; simp at h
   have e1 := (List.dropLast_concat_getLast hne).symm;have ih := Mo (l := l) (obj := obj) (v := v) n m.dropLast (by simp [h]);rw [e1, Tn];generalize m.getLast hne = e at *;generalize m.dropLast = m' at *;split
   · rename_i hc;rw [Ajq, ih];constructor
     · rintro (rfl | ⟨f, h1, h2⟩)
       · exact ⟨e, by simp, hc, rfl⟩
       · exact ⟨f, by simp [h1], h2⟩
     · rintro ⟨f, h1, h2, h3⟩;rcases List.mem_append.1 h1 with h1 | h1
       · exact .inr ⟨f, h1, h2, h3⟩
       · rw [List.mem_singleton] at h1; subst h1; exact .inl h3
   · rename_i hc;rw [ih];constructor
     · rintro ⟨f, h1, h2⟩; exact ⟨f, by simp [h1], h2⟩
     · rintro ⟨f, h1, h2, h3⟩;rcases List.mem_append.1 h1 with h1 | h1
       · exact ⟨f, h1, h2, h3⟩
       · rw [List.mem_singleton] at h1; subst h1; exact absurd h2 hc
def NodE (l : List Evt) : Prop := (l.map Al).Nodup
theorem Aia {l m : List Evt} {obj : Bb} {e : Evt} (hn : NodE (m ++ [e])) : Cq (Ck l obj m) e.rep e.seq = none := by
 rw [Ky];intro v hv ⟨h1, h2⟩;obtain ⟨f, hf, _, rfl⟩ := (Mo m.length m rfl).1 hv;have : Al f = Al e := Prod.ext h1 h2;unfold NodE at hn;rw [List.map_append, List.nodup_append] at hn;exact hn.2.2 (Al f) (List.mem_map_of_mem hf) (Al e) (by simp) this
theorem NodE.take {l : List Evt} (h : NodE l) (k : Nat) : NodE (l.take k) := by
 unfold NodE at *; rw [List.map_take]; exact h.sublist (List.take_sublist _ _)
theorem J7 {l : List Evt} {obj : Bb} : ∀ (n : Nat) (m : List Evt), m.length = n → NodE m → Cg (Ck l obj m) ∧ (Ck l obj m).length ≤ n
 | 0, m, h, _ => by obtain rfl := List.eq_nil_of_length_eq_zero h; exact ⟨List.Pairwise.nil, by simp [Ck]⟩
 | n + 1, m, h, hn => by
   have hne : m ≠ [] := fun e => by subst e; simp at h
   have e1 := (List.dropLast_concat_getLast hne).symm;have hn' : NodE m.dropLast := by unfold NodE at *; rw [List.map_dropLast]; exact hn.sublist (List.dropLast_sublist _)
   obtain ⟨h1, h2⟩ := J7 (l := l) (obj := obj) n m.dropLast (by simp [h]) hn';rw [e1] at hn ⊢;rw [Tn];split
   · exact ⟨Aab h1 (Aia hn), by rw [Aly]; omega⟩
   · exact ⟨h1, by omega⟩
structure EvsOk (l : List Evt) (rk : Evt → Nat) : Prop where
 len : l.length ≤ 400
 nod : NodE l
 ev : ∀ e ∈ l, ev e ∧ e.data.length ≤ 1000
 grd : Grd l rk
 rk : ∀ e ∈ l, rk e < l.length
mutual
theorem Agl {π : Nat → Nat} : ∀ {x : SV}, x.closed = true → x.rn π = x
 | .pv _, _ => rfl
 | .vec _ _, _ => rfl
 | .pi _ _ _ _, _ => rfl
 | .dead, _ => rfl
 | .agg l, h => by simp only [SV.closed] at h; simp only [SV.rn, Uc h]
 | .tup l, h => by simp only [SV.closed] at h; simp only [SV.rn, Uc h]
 | .fn f l, h => by simp only [SV.closed] at h; simp only [SV.rn, Uc h]
 | .p _ _, h => by simp [SV.closed] at h
 | .ps _ _, h => by simp [SV.closed] at h
 | .pr _ _ _ _, h => by simp [SV.closed] at h
 | .os _, h => by simp [SV.closed] at h
 | .ov _ _ _ _, h => by simp [SV.closed] at h
theorem Uc {π : Nat → Nat} : ∀ {l : List SV}, SV.closedL l = true → SV.rnL π l = l
 | [], _ => rfl
 | x :: l, h => by
   simp only [SV.closedL, Bool.and_eq_true] at h;simp only [SV.rnL, Agl h.1, Uc h.2]
end
mutual
theorem A3m : ∀ {x : SV}, x.closed = true → tn x = []
 | .pv _, _ => rfl
 | .vec _ _, _ => rfl
 | .pi _ _ _ _, _ => rfl
 | .dead, _ => rfl
 | .agg l, h => by simp only [SV.closed] at h; simp only [tn, Oq h]
 | .tup l, h => by simp only [SV.closed] at h; simp only [tn, Oq h]
 | .fn f l, h => by simp only [SV.closed] at h; simp only [tn, Oq h]
 | .p _ _, h => by simp [SV.closed] at h
 | .ps _ _, h => by simp [SV.closed] at h
 | .pr _ _ _ _, h => by simp [SV.closed] at h
 | .os _, h => by simp [SV.closed] at h
 | .ov _ _ _ _, h => by simp [SV.closed] at h
theorem Oq : ∀ {l : List SV}, SV.closedL l = true → Aw l = []
 | [], _ => rfl
 | x :: l, h => by
   simp only [SV.closedL, Bool.and_eq_true] at h;simp only [Aw, A3m h.1, Oq h.2, List.append_nil]
end
theorem Axv (a m : Nat) : sw1 a m a = m := if_pos rfl
theorem FunOk.io {P : Program} {f : Nat} {a : List SV} {c c' x : SV} (hf : ∀ h d, h 900 = some (.var c) → FunOk P f (.p 900 0 :: a) h d x [.upd 900 (.var c')]) (ha : SV.closedL a = true) (hx : x.closed = true) (hc : c.closed = true) (hc' : c'.closed = true) {g : Nat} {h : Nat → Option Blk} {d : Nat} (hg : h g = some (.var c)) :
 FunOk P f (.p g 0 :: a) h d x [.upd g (.var c')] := by
 have h1 := (hf (fun k => h (sw1 900 g k)) d (by show h (sw1 900 g 900) = _; rw [Axv]; exact hg)).rn (π := sw1 900 g) (Agb 900 g) (d' := d);simp only [SV.rnL, SV.rn, HU.rn, Blk.rn, List.map_cons, List.map_nil, Axv, Uc ha, Agl hx, Agl hc'] at h1;refine h1.at fun n hn => ?_;simp only [Aw, tn, Oq ha, List.append_nil, List.mem_singleton] at hn;subst hn;simp only [Agb, hg, Option.map_some, Blk.rn, Agl hc]
theorem FunOk.quiet {P : Program} {f : Nat} {args : List SV} {h : Nat → Option Blk} {d g : Nat} {x : SV} {blk : Blk} (hf : FunOk P f args h d x [.upd g blk]) (hg : h g = some blk) (hin : g ∈ Aw args) : FunOk P f args h d x [] :=
 ⟨hf.1, fun F N ρ s a w hR hh vs hc => by
  have hs : s.h g = some blk := (hh g hin).trans hg;have e : s.hup [.upd g blk] = s := FS.ext' (fun _ => rfl) fun n => by
   simp only [FS.hup, FS.seth];split
   · rename_i e; rw [e]; exact hs.symm
   · rfl
  have := hf.2 F N ρ s a w hR hh vs hc;rw [e] at this;exact this⟩
def D3 (e : Evt) (o : Obj) (f : Evt) : Obj :=
 if Ar f = Al e then
  if f.kind = 7 then (if Ca o.last.1 o.last.2 f.rep f.seq = true then { o with last := Al f, name := f.name } else o)
  else if f.kind = 6 then { o with seen := Dn o.seen (A9 f.dep f.rep f.seq) } else o
 else o
noncomputable def Cz (l m : List Evt) (e : Evt) : Obj := m.foldl (D3 e) ⟨Al e, decide (e.kind = 2), Al e, e.name, fun _ => 0, Ck l (Al e) l⟩
theorem Jo (l m : List Evt) (e f : Evt) : Cz l (m ++ [f]) e = D3 e (Cz l m e) f := by simp [Cz]
def Wq (l : List Obj) (o : Obj) : List Obj := l.take (Cb l o.id) ++ o :: l.drop (Cb l o.id)
noncomputable def J3 (l : List Evt) (p : St × Vc) (e : Evt) : St × Vc :=
 if e.kind = 1 ∨ e.kind = 2 then ({ p.1 with objs := Wq p.1.objs (Cz l l e) }, p.2)
 else if e.kind = 8 then (if Du p.2 e.rep < e.seq then (Ld p.1 e, A9 p.2 e.rep e.seq) else p)
 else if e.kind = 9 then (Ue p.1 e, p.2)
 else p
noncomputable def Ea (l m : List Evt) : St × Vc := m.foldl (J3 l) (⟨Af l, [], Cr l l, fun _ => 0, fun _ => false⟩, fun _ => 0)
noncomputable def Ac (l : List Evt) : St := (Ea l l).1
theorem Hs (l m : List Evt) (e : Evt) : Ea l (m ++ [e]) = J3 l (Ea l m) e := by simp [Ea]
theorem Abl {l : List Obj} {o x : Obj} : x ∈ Wq l o ↔ x = o ∨ x ∈ l := by
 unfold Wq;simp only [List.mem_append, List.mem_cons];have : x ∈ l ↔ x ∈ l.take (Cb l o.id) ∨ x ∈ l.drop (Cb l o.id) := by rw [← List.mem_append, List.take_append_drop]
 rw [this];constructor
 · rintro (h | h | h)
   · exact .inr (.inl h)
   · exact .inl h
   · exact .inr (.inr h)
 · rintro (h | h | h)
   · exact .inr (.inl h)
   · exact .inl h
   · exact .inr (.inr h)
theorem Apq (l : List Obj) (o : Obj) : (Wq l o).length = l.length + 1 := by
 unfold Wq;simp only [List.length_append, List.length_take, List.length_cons, List.length_drop];have := Y0 l o.id; omega
theorem Aur (l : List Obj) (o : Obj) : (Wq l o).map obN = Ng (l.map obN) (obN o) := by
 unfold Wq Ng Cb;simp [List.map_take, List.map_drop]; rfl
theorem W4 {l : List Obj} {o : Obj} (hs : Dl l) (hn : ∀ x ∈ l, x.id ≠ o.id) : Dl (Wq l o) := by
 unfold Dl; rw [Aur];refine T3 hs (Es.2 fun x hx => ?_);obtain ⟨u, hu, rfl⟩ := List.mem_map.1 hx;exact hn u hu
theorem My (l : List Evt) (e : Evt) : ∀ m : List Evt, (Cz l m e).id = Al e := fun m => by
 unfold Cz;generalize hq : (⟨Al e, decide (e.kind = 2), Al e, e.name, fun _ => 0, Ck l (Al e) l⟩ : Obj) = o;have : o.id = Al e := by rw [← hq]
 clear hq
 induction m generalizing o with
 | nil => exact this
 | cons f m ih =>
   simp only [List.foldl_cons];refine ih _ ?_;unfold D3;split
   · split
     · split <;> exact this
     · split <;> exact this
   · exact this
theorem Acn {l : List Evt} : ∀ (n : Nat) (m : List Evt), m.length = n → NodE m → Dl (Ea l m).1.objs ∧ (Ea l m).1.objs.length ≤ n ∧ ∀ o, o ∈ (Ea l m).1.objs ↔ ∃ e ∈ m, (e.kind = 1 ∨ e.kind = 2) ∧ o = Cz l l e
 | 0, m, h, _ => by obtain rfl := List.eq_nil_of_length_eq_zero h; exact ⟨List.Pairwise.nil, by simp [Ea], by simp [Ea]⟩
 | n + 1, m, h, hn => by
   have hne : m ≠ [] := fun e => by subst e; simp at h
   have e1 := (List.dropLast_concat_getLast hne).symm;have hn' : NodE m.dropLast := by unfold NodE at *; rw [List.map_dropLast]; exact hn.sublist (List.dropLast_sublist _)
   obtain ⟨h1, h2, h3⟩ := Acn (l := l) n m.dropLast (by simp [h]) hn';rw [e1] at hn ⊢;rw [Hs];generalize m.getLast hne = e at *;generalize m.dropLast = m' at *;have grow : ∀ o : Obj, ((∃ f ∈ m' ++ [e], (f.kind = 1 ∨ f.kind = 2) ∧ o = Cz l l f) ↔ (∃ f ∈ m', (f.kind = 1 ∨ f.kind = 2) ∧ o = Cz l l f) ∨ ((e.kind = 1 ∨ e.kind = 2) ∧ o = Cz l l e)) := fun o => by
    simp only [List.mem_append, List.mem_singleton];constructor
    · rintro ⟨f, hf | rfl, h⟩
      · exact .inl ⟨f, hf, h⟩
      · exact .inr h
    · rintro (⟨f, hf, h⟩ | h)
      · exact ⟨f, .inl hf, h⟩
      · exact ⟨e, .inr rfl, h⟩
   by_cases h12 : e.kind = 1 ∨ e.kind = 2
   · have hS : (J3 l (Ea l m') e).1.objs = Wq (Ea l m').1.objs (Cz l l e) := by unfold J3; rw [if_pos h12]
     rw [hS];have hnew : ∀ x ∈ (Ea l m').1.objs, x.id ≠ (Cz l l e).id := fun x hx => by
      obtain ⟨f, hf, _, rfl⟩ := (h3 x).1 hx;rw [My, My];unfold NodE at hn;rw [List.map_append, List.nodup_append] at hn;exact hn.2.2 (Al f) (List.mem_map_of_mem hf) (Al e) (by simp)
     refine ⟨W4 h1 hnew, by rw [Apq]; omega, fun o => ?_⟩;rw [Abl, h3, grow];constructor
     · rintro (h | h)
       · exact .inr ⟨h12, h⟩
       · exact .inl h
     · rintro (h | h)
       · exact .inr h
       · exact .inl h.2
   · have hS : (J3 l (Ea l m') e).1.objs = (Ea l m').1.objs := by
      unfold J3; rw [if_neg h12];split
      · split <;> rfl
      · split <;> rfl
     rw [hS];refine ⟨h1, by omega, fun o => ?_⟩;rw [h3, grow];exact ⟨.inl, fun h => h.resolve_right fun q => h12 q.1⟩
theorem Aco (l m : List Evt) : (Ea l m).1.ents = Cr l l ∧ (Ea l m).1.known = Af l := by
 unfold Ea;generalize hq : ((⟨Af l, [], Cr l l, fun _ => 0, fun _ => false⟩ : St), (fun _ => 0 : Vc)) = p;have : p.1.ents = Cr l l ∧ p.1.known = Af l := by rw [← hq]; exact ⟨rfl, rfl⟩
 clear hq
 induction m generalizing p with
 | nil => exact this
 | cons f m ih =>
   simp only [List.foldl_cons];refine ih _ ?_;unfold J3;split
   · exact this
   · split
     · split
       · exact this
       · exact this
     · split <;> exact this
theorem Agp {l : List Obj} {i : Bb} {k : Nat} {x : Obj} (hk : k < Cb l i) (hx : l[k]? = some x) : G1 x.id i = true := by
 obtain ⟨y, h1, h2⟩ := Anw (l := l.map obN) hk;rw [S6 hx] at h1; cases h1; exact h2
theorem Aub {l : List Obj} (hs : Dl l) {i : Bb} {k : Nat} {x : Obj} (hk : Cb l i ≤ k) (hx : l[k]? = some x) : ¬ G1 x.id i = true := Azt (l := l.map obN) hs hk (S6 hx)
theorem Aeh {l : List Obj} (hs : Dl l) (i : Bb) : Dp l i = l.find? fun o => decide (o.id = i) := by
 cases h : Dp l i with
 | some o =>
   obtain ⟨h1, h2⟩ := Gc h;symm;obtain ⟨hlt, hg⟩ := List.getElem?_eq_some_iff.1 h1;rw [List.find?_eq_some_iff_getElem];refine ⟨by simpa using h2, Cb l i, hlt, hg, fun j hj => ?_⟩;have := Agp hj (List.getElem?_eq_getElem (by omega));simp only [Bool.not_eq_true', decide_eq_false_iff_not];intro q;rw [q] at this;exact Dt this
 | none =>
   symm;rw [List.find?_eq_none];intro x hx q;have q : x.id = i := by simpa using q
   obtain ⟨j, hj⟩ := List.mem_iff_getElem?.1 hx;have h1 : ¬ j < Cb l i := fun hq => by
    have := Agp hq hj;rw [q] at this; exact Dt this
   by_cases e : j = Cb l i
   · unfold Dp at h;rw [← e, hj] at h;simp only at h;rw [if_pos q] at h; cases h
   · have hlt := (List.getElem?_eq_some_iff.1 hj).1;have hp : Cb l i < l.length := by omega
     have hy : l[Cb l i]? = some l[Cb l i] := List.getElem?_eq_getElem hp;have h3 := F9 hs hy hj (by omega);rw [q] at h3;exact Aub hs (Nat.le_refl _) hy h3
theorem Ap3 {a : Vc} {r : Int} {q : Nat} (h : A4 a r q = true) : 1 ≤ q ∧ 1 ≤ r ∧ r ≤ 8 ∧ q ≤ a (r - 1).toNat := by
 unfold A4 Du at h;simp only [decide_eq_true_eq] at h;by_cases hr : 1 ≤ r ∧ r ≤ 8
 · rw [if_pos hr] at h; exact ⟨h.1, hr.1, hr.2, h.2⟩
 · rw [if_neg hr] at h; omega
def vid (v : Ver) : Bb := (v.rep, v.seq)
def Nm (bs : List Bb) (r : Int) (q : Nat) (x : Ver) : Ver := if (x.rep, x.seq) ∈ bs then R4 x r q else x
theorem Zf (l : List Ver) (bs : List Bb) (r : Int) (q : Nat) : C9 l bs r q = l.map (Nm bs r q) := rfl
theorem Abn (bs : List Bb) (r : Int) (q : Nat) (x : Ver) : vid (Nm bs r q x) = vid x := by
 have := Hh x bs r q;simp only [vid, Nm, this.1, this.2]
theorem Ao5 {l : List Ver} {bs : List Bb} {v x : Ver} : x ∈ Fj l bs v ↔ x = v ∨ ∃ y ∈ l, x = Nm bs v.rep v.seq y := by
 unfold Fj;rw [Zf];have h : ∀ p, x ∈ (l.map (Nm bs v.rep v.seq)).take p ++ v :: (l.map (Nm bs v.rep v.seq)).drop p ↔ x = v ∨ x ∈ l.map (Nm bs v.rep v.seq) := fun p => by
  conv => rhs; rw [← List.take_append_drop p (l.map (Nm bs v.rep v.seq))]
  simp only [List.mem_append, List.mem_cons];constructor
  · rintro (h | h | h)
    · exact .inr (.inl h)
    · exact .inl h
    · exact .inr (.inr h)
  · rintro (h | h | h)
    · exact .inr (.inl h)
    · exact .inl h
    · exact .inr (.inr h)
 rw [h, List.mem_map];exact or_congr_right ⟨fun ⟨y, h1, h2⟩ => ⟨y, h1, h2.symm⟩, fun ⟨y, h1, h2⟩ => ⟨y, h1, h2.symm⟩⟩
theorem Ar0 {l : List Ver} {r : Int} {q : Nat} (h : Cq l r q = none) : ∃ p, P5 l r q 0 = (p, false) := by
 rcases ha : P5 l r q 0 with ⟨p, b⟩
 cases b with
 | false => exact ⟨p, rfl⟩
 | true => obtain ⟨_, u, _, _, h4⟩ := H4 ha; rw [h] at h4; cases h4
theorem Acz {l : List Ver} {bs : List Bb} {v : Ver} (hs : Cg l) (h : Cq l v.rep v.seq = none) : Cg (Fj l bs v) := by
 obtain ⟨p, hp⟩ := Ar0 h;obtain ⟨_, g2, g3, g4, g5, g6⟩ := Ht hs hp;rw [Nat.sub_zero] at g2 g5 g6;have hM := Pc (bs := bs) (r := v.rep) (q := v.seq) hs;unfold Fj;rw [hp];simp only;have h5 : ∀ x ∈ (C9 l bs v.rep v.seq).take p, Ca x.rep x.seq v.rep v.seq = true := fun x hx => by
  rw [Zf, ← List.map_take] at hx;obtain ⟨y, hy, rfl⟩ := List.mem_map.1 hx;have := Abn bs v.rep v.seq y;simp only [vid, Prod.mk.injEq] at this;rw [this.1, this.2]; exact g5 y hy
 have h6 : ∀ x ∈ (C9 l bs v.rep v.seq).drop p, Ca v.rep v.seq x.rep x.seq = true := fun x hx => by
  rw [Zf, ← List.map_drop] at hx;obtain ⟨y, hy, rfl⟩ := List.mem_map.1 hx;have := Abn bs v.rep v.seq y;simp only [vid, Prod.mk.injEq] at this;rw [this.1, this.2]; exact g6 y hy
 refine List.pairwise_append.2 ⟨List.Pairwise.sublist (List.take_sublist _ _) hM, List.pairwise_cons.2 ⟨h6, List.Pairwise.sublist (List.drop_sublist _ _) hM⟩, fun a ha b hb => ?_⟩;rcases List.mem_cons.1 hb with rfl | hb
 · exact h5 a ha
 · exact N8 (h5 a ha) (h6 b hb)
theorem Hw {α : Type} {P : List α → Prop} (h0 : P []) (h1 : ∀ l a, P l → P (l ++ [a])) : ∀ l, P l := by
 have key : ∀ n, ∀ l : List α, l.length = n → P l := by
  intro n
  induction n with
  | zero => intro l hl; rw [List.eq_nil_of_length_eq_zero hl]; exact h0
  | succ n ih =>
    intro l hl;have hne : l ≠ [] := fun e => by subst e; simp at hl
    rw [← List.dropLast_concat_getLast hne];exact h1 _ _ (ih _ (by simp [hl]))
 exact fun l => key _ l rfl
theorem Yz {α : Type} {r : α → α → Prop} (ha : ∀ a b, r a b → r b a → False) : ∀ {l m : List α}, l.Pairwise r → m.Pairwise r → (∀ a, a ∈ l ↔ a ∈ m) → l = m
 | [], [], _, _, _ => rfl
 | [], y :: m, _, _, h => by have := (h y).2 List.mem_cons_self; cases this
 | x :: l, [], _, _, h => by have := (h x).1 List.mem_cons_self; cases this
 | x :: l, y :: m, hl, hm, h => by
   obtain ⟨h1, h2⟩ := List.pairwise_cons.1 hl;obtain ⟨k1, k2⟩ := List.pairwise_cons.1 hm;have ex : x = y := by
    rcases List.mem_cons.1 ((h x).1 List.mem_cons_self) with a | a
    · exact a
    · rcases List.mem_cons.1 ((h y).2 List.mem_cons_self) with b | b
      · exact b.symm
      · exact (ha _ _ (h1 y b) (k1 x a)).elim
   subst ex;congr 1;refine Yz ha h2 k2 fun a => ?_;have ne : ∀ {n : List α}, (∀ b ∈ n, r x b) → x ∉ n := fun hn hx => ha x x (hn x hx) (hn x hx);constructor
   · intro hq;rcases List.mem_cons.1 ((h a).1 (List.mem_cons_of_mem _ hq)) with e | e
     · subst e; exact absurd hq (ne h1)
     · exact e
   · intro hq;rcases List.mem_cons.1 ((h a).2 (List.mem_cons_of_mem _ hq)) with e | e
     · subst e; exact absurd hq (ne k1)
     · exact e
theorem Jj {l m : List Ent} (hl : Cu l) (hm : Cu m) (h : ∀ x, x ∈ l ↔ x ∈ m) : l = m := Yz (fun a b h k => Va h k) hl hm h
theorem Qm {l m : List Ver} (hl : Cg l) (hm : Cg m) (h : ∀ x, x ∈ l ↔ x ∈ m) : l = m := Yz (fun a b h k => Va (a := (a.rep, a.seq)) (b := (b.rep, b.seq)) h k) hl hm h
theorem T5 {l : List Obj} : Dl l ↔ l.Pairwise fun a b => G1 a.id b.id = true := by
 unfold Dl Cu; rw [List.pairwise_map]; exact Iff.rfl
theorem Mv {l m : List Obj} (hl : Dl l) (hm : Dl m) (h : ∀ x, x ∈ l ↔ x ∈ m) : l = m := Yz (fun a b h k => Va h k) (T5.1 hl) (T5.1 hm) h
structure Acc (s : St) (e : Evt) : Prop where
 ck : Bz e = true
 new : A4 s.known e.rep e.seq = false
 dep : Mr e.dep s.known
 ret : s.ret (e.rep - 1).toNat = false
 why : Tm s e = 0
theorem Hm {s : St} {e : Evt} : Fk s e = 0 ↔ Acc s e := by
 unfold Fk;constructor
 · intro h;split at h
   · cases h
   · split at h
     · cases h
     · split at h
       · cases h
       · split at h
         · cases h
         · rename_i h1 h2 h3 h4;exact ⟨by simpa using h1, by simpa using h2, by simpa using h3, by simpa using h4, h⟩
 · intro ⟨h1, h2, h3, h4, h5⟩;rw [if_neg (by rw [h1]; simp), if_neg (by rw [h2]; simp), if_neg (fun q => q h3), if_neg (by rw [h4]; simp)];exact h5
inductive Val : List Evt → Prop
 | nil : Val []
 | snoc {l : List Evt} {e : Evt} : Val l → ev e → Fk (Ac l) e = 0 → Val (l ++ [e])
theorem Be (l : List Evt) : (Ac l).known = Af l := (Aco l l).2
theorem Hr (l : List Evt) : (Ac l).ents = Cr l l := (Aco l l).1
theorem Val.inv {l : List Evt} {e : Evt} (h : Val (l ++ [e])) : Val l ∧ ev e ∧ Fk (Ac l) e = 0 := by
 generalize hm : l ++ [e] = m at h;cases h with
 | nil => simp at hm
 | snoc a b c =>
   obtain ⟨rfl, h2⟩ := List.append_inj' hm rfl;cases h2;exact ⟨a, b, c⟩
theorem Val.pre {l m : List Evt} : Val (l ++ m) → Val l :=
 Hw (P := fun m => Val (l ++ m) → Val l) (fun h => by simpa using h) (fun m e ih h => by
  rw [← List.append_assoc] at h;exact ih h.inv.1) m
theorem Fs {a : Vc} {i : Bb} : A4 a i.1 i.2 = true ↔ 1 ≤ i.2 ∧ 1 ≤ i.1 ∧ i.1 ≤ 8 ∧ i.2 ≤ a (i.1 - 1).toNat := by
 refine ⟨Ap3, fun ⟨h1, h2, h3, h4⟩ => ?_⟩;unfold A4 Du; rw [if_pos ⟨h2, h3⟩]; exact decide_eq_true ⟨h1, h4⟩
theorem D2 {v : Vc} {r : Int} {q : Nat} (hr : 1 ≤ r ∧ r ≤ 8) (i : Nat) : A9 v r q i = if i = (r - 1).toNat then max (v i) q else v i := by
 unfold A9 C4; rw [if_pos hr]; split
 · rename_i h; rw [h]
 · rfl
theorem Sr {v : Vc} {r : Int} {q : Nat} (i : Nat) : v i ≤ A9 v r q i := by
 by_cases hr : 1 ≤ r ∧ r ≤ 8
 · rw [D2 hr]; split <;> omega
 · unfold A9; rw [if_neg hr]; exact Nat.le_refl _
theorem Ab5 {a b : Vc} (h : ∀ i, i < 8 → a i ≤ b i) {i : Bb} (k : A4 a i.1 i.2 = true) : A4 b i.1 i.2 = true := by
 rw [Fs] at k ⊢;have := h (i.1 - 1).toNat (by omega);omega
theorem Wb {s : St} {e : Evt} (h : Acc s e) : 1 ≤ e.rep ∧ e.rep ≤ 8 ∧ e.seq = s.known (e.rep - 1).toNat + 1 := by
 obtain ⟨b1, b2, b3, b4, b5, b6, b7⟩ := Cd h.ck;have h1 := h.dep (e.rep - 1).toNat (by omega);have h2 : ¬ A4 s.known e.rep e.seq = true := by rw [h.new]; simp
 rw [show A4 s.known e.rep e.seq = A4 s.known (Al e).1 (Al e).2 from rfl, Fs] at h2;simp only at h2;omega
theorem Val.known {l : List Evt} (h : Val l) : NodE l ∧ ∀ i : Bb, A4 (Af l) i.1 i.2 = true ↔ ∃ e ∈ l, Al e = i := by
 induction h with
 | nil => exact ⟨List.nodup_nil, fun i => by rw [Fs]; simp [Af]; omega⟩
 | @snoc l e hl he hw ih =>
   have ha := Hm.1 hw;obtain ⟨n1, n2, n3⟩ := Wb ha;have hb := Cd ha.ck;rw [Be] at n3;have hnew : ¬ ∃ f ∈ l, Al f = Al e := fun q => by
    have := (ih.2 (Al e)).2 q;have h2 := ha.new;rw [Be] at h2;rw [show A4 (Af l) (Al e).1 (Al e).2 = A4 (Af l) e.rep e.seq from rfl, h2] at this;cases this
   refine ⟨?_, fun i => ?_⟩
   · unfold NodE;rw [List.map_append, List.nodup_append];refine ⟨ih.1, by simp, fun a hm b hb q => hnew ?_⟩;obtain ⟨f, hf, rfl⟩ := List.mem_map.1 hm;simp at hb;exact ⟨f, hf, by rw [q, hb]⟩
   · rw [Iy];have key : A4 (A9 (Af l) e.rep e.seq) i.1 i.2 = true ↔ A4 (Af l) i.1 i.2 = true ∨ i = Al e := by
      rw [Fs, Fs, D2 ⟨n1, n2⟩];by_cases hi : i = Al e
      · subst hi;simp only [or_true, iff_true];refine ⟨hb.2.2.1, n1, n2, ?_⟩;simp only [if_true]; exact Nat.le_max_right _ _
      · simp only [hi, or_false];by_cases hr : i.1 = e.rep
        · have hq : i.2 ≠ e.seq := fun q => hi (Prod.ext hr q);rw [hr, if_pos rfl];omega
        · constructor
          · rintro ⟨a, b, c, d⟩;rw [if_neg (by omega)] at d;exact ⟨a, b, c, d⟩
          · rintro ⟨a, b, c, d⟩;rw [if_neg (by omega)];exact ⟨a, b, c, d⟩
     rw [key, ih.2];constructor
     · rintro (⟨f, hf, q⟩ | q)
       · exact ⟨f, by simp [hf], q⟩
       · exact ⟨e, by simp, q.symm⟩
     · rintro ⟨f, hf, q⟩;rcases List.mem_append.1 hf with hf | hf
       · exact .inl ⟨f, hf, q⟩
       · rw [List.mem_singleton] at hf; subst hf; exact .inr q.symm
theorem Val.nod {l : List Evt} (h : Val l) : NodE l := h.known.1
theorem Val.has {l : List Evt} (h : Val l) {i : Bb} : A4 (Af l) i.1 i.2 = true ↔ ∃ e ∈ l, Al e = i := h.known.2 i
theorem Val.mem {l : List Evt} (h : Val l) {e : Evt} (he : e ∈ l) : ∃ a b, l = a ++ e :: b ∧ Val a ∧ ev e ∧ Acc (Ac a) e := by
 obtain ⟨a, b, rfl⟩ := List.append_of_mem he;have h2 : Val ((a ++ [e]) ++ b) := by rw [List.append_assoc]; exact h
 obtain ⟨h3, h4, h5⟩ := h2.pre.inv;exact ⟨a, b, rfl, h3, h4, Hm.1 h5⟩
theorem N7 (l m : List Evt) : Mr (Af l) (Af (l ++ m)) :=
 Hw (P := fun m => Mr (Af l) (Af (l ++ m))) (fun i _ => by simp) (fun m e ih i hi => by
  rw [← List.append_assoc, Iy];exact Nat.le_trans (ih i hi) (Sr i)) m
theorem Te {l : List Evt} (h : Val l) {e : Evt} (ha : Acc (Ac l) e) {i : Bb} (k : A4 e.dep i.1 i.2 = true) : ∃ f ∈ l, Al f = i := by
 refine h.has.1 (Ab5 (fun j hj => ?_) k);have := ha.dep j hj
 rwa [Be] at this
theorem E9 {l : List Evt} (h : Val l) {e : Evt} (ha : Acc (Ac l) e) : ∀ f ∈ l, Al f ≠ Al e := fun f hf q => by
 have h1 := h.has.2 ⟨f, hf, q⟩;have h2 := ha.new;rw [Be] at h2;rw [show A4 (Af l) (Al e).1 (Al e).2 = A4 (Af l) e.rep e.seq from rfl, h2] at h1;cases h1
theorem Ahg {e : Evt} {l : List Bb} {n : Int} (h : Fl l n e.dep = true) : ∀ b ∈ l, A4 e.dep b.1 b.2 = true := fun b hb => by
 unfold Fl Ud at h;simp only [Bool.and_eq_true, decide_eq_true_eq] at h;obtain ⟨j, hj⟩ := List.mem_iff_getElem?.1 hb;obtain ⟨hlt, hg⟩ := List.getElem?_eq_some_iff.1 hj;have := (h.2 j hlt).1;rw [hg] at this; exact this
theorem P2 {e : Evt} (h : Bz e = true) : Ev e = true ∧ Cv (Cl e) = true := by
 unfold Bz at h;simp only [Bool.and_eq_true, decide_eq_true_eq] at h;exact ⟨h.2.2.2, h.2.2.1⟩
theorem Vw {e : Evt} (h : Bz e = true) (hk : e.kind = 6 ∨ e.kind = 7) : ∀ b ∈ e.gone.l, A4 e.dep b.1 b.2 = true := by
 have hK := (P2 h).1;rcases hk with k | k
 · rw [Zl k] at hK; simp only [Bool.and_eq_true] at hK; exact Ahg hK.2
 · rw [Zk k] at hK; simp only [Bool.and_eq_true] at hK; exact Ahg hK.2.1
theorem Ala {e : Evt} (h : Bz e = true) (hk : e.kind = 3 ∨ e.kind = 4 ∨ e.kind = 5 ∨ e.kind = 6 ∨ e.kind = 7) : A4 e.dep e.orep e.oseq = true := by
 have hK := (P2 h).1;rcases hk with k | k | k | k | k
 · rw [M5 k] at hK; simp only [Bool.and_eq_true] at hK; exact hK.1
 · rw [S0 k] at hK; simp only [Bool.and_eq_true] at hK; exact hK.1
 · rw [Sz k] at hK; simp only [Bool.and_eq_true] at hK; exact hK.1
 · rw [Zl k] at hK; simp only [Bool.and_eq_true] at hK; exact hK.1
 · rw [Zk k] at hK; simp only [Bool.and_eq_true] at hK; exact hK.1
theorem Vv {e : Evt} (h : Bz e = true) (hk : ¬ (e.kind = 3 ∨ e.kind = 4 ∨ e.kind = 5 ∨ e.kind = 6 ∨ e.kind = 7)) : Ar e = (0, 0) := by
 obtain ⟨b1, b2, b3, b4, b5, b6, b7⟩ := Cd h;have hz := (P2 h).2;have h4 : e.kind = 1 ∨ e.kind = 2 ∨ e.kind = 8 ∨ e.kind = 9 := by omega
 have hz' : Gn e.orep e.oseq = true := by
  rcases h4 with k | k | k | k
  · rw [A3e k] at hz; simp only [H2, Bool.and_eq_true, Bool.or_eq_true, Bool.false_eq_true, false_or] at hz; exact hz.1
  · rw [A8g k] at hz; simp only [H2, Bool.and_eq_true, Bool.or_eq_true, Bool.false_eq_true, false_or] at hz; exact hz.1
  · rw [A8e k] at hz; simp only [H2, Bool.and_eq_true, Bool.or_eq_true, Bool.false_eq_true, false_or] at hz; exact hz.1
  · rw [A8d k] at hz; simp only [H2, Bool.and_eq_true, Bool.or_eq_true, Bool.false_eq_true, false_or] at hz; exact hz.1
 obtain ⟨h1, h2⟩ := of_decide_eq_true hz';exact Prod.ext h1 h2
theorem Auu {l : List Evt} {e : Evt} (h : Val l) (ha : Acc (Ac l) e) (obj : Bb) {g : Evt} (hg : g ∈ l ++ [e]) : goF g obj (Al e) = false := by
 cases hq : goF g obj (Al e) with
 | false => rfl
 | true =>
   unfold goF at hq;simp only [Bool.and_eq_true, decide_eq_true_eq] at hq;rcases List.mem_append.1 hg with hg | hg
   · obtain ⟨a, b, rfl, h1, _, h3⟩ := h.mem hg;obtain ⟨f, hf, hi⟩ := Te h1 h3 (Vw h3.ck hq.1 _ hq.2.2);exact absurd hi (E9 h ha f (by simp [hf]))
   · rw [List.mem_singleton] at hg; subst hg;obtain ⟨f, hf, hi⟩ := Te h ha (Vw ha.ck hq.1 _ hq.2.2);exact absurd hi (E9 h ha f hf)
theorem Aot {l : List Evt} {e : Evt} (h : Val l) (ha : Acc (Ac l) e) {g : Evt} (hg : g ∈ l ++ [e]) : Ar g ≠ Al e := fun q => by
 have base := Cd ha.ck;have hne : ∀ {g : Evt}, Bz g = true → Ar g = Al e → A4 g.dep g.orep g.oseq = true := fun {g} hc q => by
  refine Ala hc (Classical.byContradiction fun hk => ?_);have := Vv hc hk;rw [this] at q;have q1 : (0 : Int) = e.rep := congrArg Prod.fst q;have := base.1;omega
 rcases List.mem_append.1 hg with hg | hg
 · obtain ⟨a, b, rfl, h1, _, h3⟩ := h.mem hg;obtain ⟨f, hf, hi⟩ := Te h1 h3 (i := Ar g) (hne h3.ck q);rw [q] at hi;exact absurd hi (E9 h ha f (by simp [hf]))
 · rw [List.mem_singleton] at hg; subst hg;obtain ⟨f, hf, hi⟩ := Te h ha (i := Ar g) (hne ha.ck q);rw [q] at hi;exact absurd hi (E9 h ha f hf)
theorem Jr {l : List Evt} : ∀ m : List Evt, NodE m → Cu (Cr l m) ∧ ∀ x, x ∈ Cr l m ↔ ∃ e ∈ m, mkB e = true ∧ x = F4 l e := by
 refine Hw (fun _ => ⟨List.Pairwise.nil, by simp [Cr]⟩) fun m e ih hn => ?_;have hn' : NodE m := by unfold NodE at *; rw [List.map_append] at hn; exact hn.sublist (List.sublist_append_left _ _)
 obtain ⟨h1, h2⟩ := ih hn';have grow : ∀ x : Ent, (∃ f ∈ m ++ [e], mkB f = true ∧ x = F4 l f) ↔ (∃ f ∈ m, mkB f = true ∧ x = F4 l f) ∨ (mkB e = true ∧ x = F4 l e) := fun o => by
  simp only [List.mem_append, List.mem_singleton];constructor
  · rintro ⟨f, hf | rfl, h⟩
    · exact .inl ⟨f, hf, h⟩
    · exact .inr h
  · rintro (⟨f, hf, h⟩ | h)
    · exact ⟨f, .inl hf, h⟩
    · exact ⟨e, .inr rfl, h⟩
 rw [Vo];by_cases hm : mkB e = true
 · rw [if_pos hm, W8 h1];have hnew : F3 (Cr l m) (F4 l e).id = none := Es.2 fun x hx q => by
    obtain ⟨f, hf, _, rfl⟩ := (h2 x).1 hx;unfold NodE at hn;rw [List.map_append, List.nodup_append] at hn;exact hn.2.2 (Al f) (List.mem_map_of_mem hf) (Al e) (by simp) q
   have e1 : Ad5 (Cr l m) (F4 l e) = Ng (Cr l m) (F4 l e) := by
    unfold Ad5; rw [if_neg (by rw [Ahe.2 hnew]; simp)]
   rw [e1];refine ⟨T3 h1 hnew, fun x => ?_⟩;rw [Ze, h2, grow];exact ⟨fun q => q.elim (fun q => .inr ⟨hm, q⟩) .inl, fun q => q.elim .inr fun q => .inl q.2⟩
 · rw [if_neg hm];refine ⟨h1, fun x => ?_⟩;rw [h2, grow];exact ⟨.inl, fun q => q.resolve_right fun q => hm q.1⟩
theorem Aes (b : Bb) (x : Ent) : L5 b (L5 b x) = L5 b x := by
 unfold L5; simp only [Gp, Adc]
theorem Xs (e : Evt) : ∀ (m l : List Ent), D9 e l m = l.map fun x => if m.any (fun y => decide (y.id = x.id) && Dj e y) = true then L5 (Al e) x else x
 | [], l => by simp [D9]
 | y :: m, l => by
   have ih := Xs e m (if Dj e y = true then killL l y.id (Al e) else l);unfold D9 at ih ⊢;simp only [List.foldl_cons];rw [ih];split
   · rename_i hg;unfold killL Sl;rw [List.map_map];refine List.map_congr_left fun x hx => ?_;simp only [Function.comp];by_cases hy : x.id = y.id
     · simp only [if_pos hy];have e2 : List.any (y :: m) (fun z => decide (z.id = x.id) && Dj e z) = true := by simp [hy, hg]
       rw [if_pos e2];split
       · exact Aes _ _
       · rfl
     · simp only [if_neg hy];have e2 : List.any (y :: m) (fun z => decide (z.id = x.id) && Dj e z) = List.any m (fun z => decide (z.id = x.id) && Dj e z) := by
        rw [List.any_cons, decide_eq_false (fun q : y.id = x.id => hy q.symm), Bool.false_and, Bool.false_or]
       rw [e2]
   · rename_i hg;refine List.map_congr_left fun x hx => ?_;have e2 : List.any (y :: m) (fun z => decide (z.id = x.id) && Dj e z) = List.any m (fun z => decide (z.id = x.id) && Dj e z) := by
      simp [show Dj e y = false by simpa using hg]
     rw [e2]
theorem Aqa {e : Evt} {l : List Ent} (hs : Cu l) : D9 e l l = l.map fun x => if Dj e x = true then L5 (Al e) x else x := by
 rw [Xs];refine List.map_congr_left fun x hx => ?_;have : l.any (fun y => decide (y.id = x.id) && Dj e y) = Dj e x := by
  rw [Bool.eq_iff_iff, List.any_eq_true];constructor
  · rintro ⟨y, hy, h⟩;simp only [Bool.and_eq_true, decide_eq_true_eq] at h;have h1 := Ux hs hy;have h2 := Ux hs hx;rw [h.1] at h1;rw [h1] at h2; cases h2;exact h.2
  · exact fun h => ⟨x, hx, by simp [h]⟩
 rw [this]
theorem Awy {l : List Evt} {e : Evt} (h : Val l) (ha : Acc (Ac l) e) (obj : Bb) : byG (l ++ [e]) obj (Al e) = fun _ => 0 := by
 unfold byG;have : ∀ m : List Evt, (∀ g ∈ m, goF g obj (Al e) = false) → m.foldl (fun g f => if goF f obj (Al e) = true then A9 g f.rep f.seq else g) (fun _ => 0 : Vc) = fun _ => 0 := fun m hm => by
  induction m with
  | nil => rfl
  | cons g m ih =>
    rw [List.foldl_cons, if_neg (by rw [hm g List.mem_cons_self]; simp)];exact ih fun f hf => hm f (List.mem_cons_of_mem _ hf)
 exact this _ fun g hg => Auu h ha obj hg
theorem Aq0 {l : List Evt} {e : Evt} (h : Val l) (ha : Acc (Ac l) e) : F4 (l ++ [e]) e = Ez e (Wo e) := by
 unfold F4 Ez; rw [Awy h ha]
theorem Vp (l : List Evt) (e f : Evt) : F4 (l ++ [e]) f = if goF e (Wo f) (Al f) = true then L5 (Al e) (F4 l f) else F4 l f := by
 unfold F4;rw [Arn];split
 · unfold L5; simp only;rw [show A9 (byG l (Wo f) (Al f)) e.rep e.seq = A9 (byG l (Wo f) (Al f)) (Al e).1 (Al e).2 from rfl, Jh]
 · rfl
theorem Vg (l : List Evt) (e f : Evt) (hk : e.kind = 6 ∨ e.kind = 7) : goF e (Wo f) (Al f) = Dj e (F4 l f) := by
 unfold goF Dj F4;simp only [hk, decide_true, Bool.true_and];congr 1;exact decide_eq_decide.2 ⟨Eq.symm, Eq.symm⟩
theorem Aky {l : List Evt} {e : Evt} (h : Val l) (ha : Acc (Ac l) e) :
 Cr (l ++ [e]) (l ++ [e]) = if e.kind = 1 ∨ e.kind = 2 then P6 (Cr l l) (Ez e (Al e)) else if e.kind = 7 then P6 (D9 e (Cr l l) (Cr l l)) (Ez e (Ar e)) else if e.kind = 6 then D9 e (Cr l l) (Cr l l) else Cr l l := by
 have hn := h.nod;have hn2 : NodE (l ++ [e]) := by
  unfold NodE;rw [List.map_append, List.nodup_append];refine ⟨hn, by simp, fun a hm b hb q => ?_⟩;obtain ⟨f, hf, rfl⟩ := List.mem_map.1 hm;simp at hb;exact E9 h ha f hf (by rw [q, hb])
 obtain ⟨s1, m1⟩ := Jr (l := l) l hn;obtain ⟨s2, m2⟩ := Jr (l := l ++ [e]) (l ++ [e]) hn2;have hlook : ∀ {m : List Ent}, (∀ x ∈ m, ∃ f ∈ l, x.id = Al f) → F3 m (Al e) = none := fun hm => Es.2 fun x hx q => by
  obtain ⟨f, hf, hi⟩ := hm x hx;exact E9 h ha f hf (by rw [← hi, q])
 have hadd : ∀ {m : List Ent} {o : Bb}, Cu m → (∀ x ∈ m, ∃ f ∈ l, x.id = Al f) → Cu (P6 m (Ez e o)) ∧ ∀ x, x ∈ P6 m (Ez e o) ↔ x = Ez e o ∨ x ∈ m := fun {m o} hs hm => by
  have hl := hlook hm;have e1 : P6 m (Ez e o) = Ng m (Ez e o) := by unfold P6; rw [if_neg (by rw [show Pn m (Ez e o).id = false from Ahe.2 hl]; simp)]
  rw [e1];exact ⟨T3 hs hl, fun x => Ze⟩
 have hold : ∀ x ∈ Cr l l, ∃ f ∈ l, x.id = Al f := fun x hx => by
  obtain ⟨f, hf, _, rfl⟩ := (m1 x).1 hx; exact ⟨f, hf, rfl⟩
 have hgone := Ku (e := e) s1 (Cr l l);have hgeq := Aqa (e := e) s1;have hgold : ∀ x ∈ D9 e (Cr l l) (Cr l l), ∃ f ∈ l, x.id = Al f := fun x hx => by
  rw [hgeq] at hx;obtain ⟨y, hy, rfl⟩ := List.mem_map.1 hx;obtain ⟨f, hf, hi⟩ := hold y hy;refine ⟨f, hf, ?_⟩;split <;> exact hi
 have mG : (e.kind = 6 ∨ e.kind = 7) → ∀ x, x ∈ D9 e (Cr l l) (Cr l l) ↔ ∃ f ∈ l, mkB f = true ∧ x = F4 (l ++ [e]) f := fun hk x => by
  rw [hgeq, List.mem_map];constructor
  · rintro ⟨y, hy, rfl⟩;obtain ⟨f, hf, hm, rfl⟩ := (m1 y).1 hy;exact ⟨f, hf, hm, by rw [Vp, Vg l e f hk]⟩
  · rintro ⟨f, hf, hm, rfl⟩;exact ⟨F4 l f, (m1 _).2 ⟨f, hf, hm, rfl⟩, by rw [Vp, Vg l e f hk]⟩
 have mN : ¬ (e.kind = 6 ∨ e.kind = 7) → ∀ x, x ∈ Cr l l ↔ ∃ f ∈ l, mkB f = true ∧ x = F4 (l ++ [e]) f := fun hk x => by
  rw [m1];have : ∀ f, F4 (l ++ [e]) f = F4 l f := fun f => by
   rw [Vp, if_neg (by unfold goF; simp [hk])]
  exact ⟨fun ⟨f, a, b, c⟩ => ⟨f, a, b, by rw [this, c]⟩, fun ⟨f, a, b, c⟩ => ⟨f, a, b, by rw [← this, c]⟩⟩
 have grow : ∀ x : Ent, (∃ f ∈ l ++ [e], mkB f = true ∧ x = F4 (l ++ [e]) f) ↔ (mkB e = true ∧ x = Ez e (Wo e)) ∨ (∃ f ∈ l, mkB f = true ∧ x = F4 (l ++ [e]) f) := fun x => by
  rw [← Aq0 h ha];simp only [List.mem_append, List.mem_singleton];constructor
  · rintro ⟨f, hf | rfl, h⟩
    · exact .inr ⟨f, hf, h⟩
    · exact .inl h
  · rintro (h | ⟨f, hf, h⟩)
    · exact ⟨e, .inr rfl, h⟩
    · exact ⟨f, .inl hf, h⟩
 by_cases h12 : e.kind = 1 ∨ e.kind = 2
 · rw [if_pos h12];have hm : mkB e = true := decide_eq_true (by omega);have ho : Wo e = Al e := if_neg (by omega);obtain ⟨a1, a2⟩ := hadd (o := Al e) s1 hold;refine Jj s2 a1 fun x => ?_;rw [m2, grow, a2, mN (by omega), ho];simp [hm]
 rw [if_neg h12];by_cases h7 : e.kind = 7
 · rw [if_pos h7];have hm : mkB e = true := decide_eq_true (by omega);have ho : Wo e = Ar e := if_pos h7;obtain ⟨a1, a2⟩ := hadd (o := Ar e) hgone hgold;refine Jj s2 a1 fun x => ?_;rw [m2, grow, a2, mG (.inr h7), ho];simp [hm]
 rw [if_neg h7];have hm : mkB e = false := decide_eq_false (by omega);by_cases h6 : e.kind = 6
 · rw [if_pos h6];refine Jj s2 hgone fun x => ?_;rw [m2, grow, mG (.inl h6)];simp [hm]
 · rw [if_neg h6];refine Jj s2 s1 fun x => ?_;rw [m2, grow, mN (by omega)];simp [hm]
theorem Mp {l : List Evt} {e : Evt} (h : Val l) (ha : Acc (Ac l) e) : NodE (l ++ [e]) := by
 unfold NodE;rw [List.map_append, List.nodup_append];refine ⟨h.nod, by simp, fun a hm b hb q => ?_⟩;obtain ⟨f, hf, rfl⟩ := List.mem_map.1 hm;simp at hb;exact E9 h ha f hf (by rw [q, hb])
theorem Hq {l : List Evt} (hn : NodE l) {e : Evt} (he : e ∈ l) : Lg l (Al e) = some e := by
 unfold Lg
 induction l with
 | nil => cases he
 | cons f l ih =>
   unfold NodE at hn;rw [List.map_cons, List.nodup_cons] at hn;rw [List.find?_cons];rcases List.mem_cons.1 he with rfl | he
   · simp
   · have : Al f ≠ Al e := fun q => hn.1 (q ▸ List.mem_map_of_mem he);rw [decide_eq_false this];exact ih hn.2 he
theorem Akv {l : List Evt} {i : Bb} (t : List Evt) (h : ∃ f ∈ l, Al f = i) : Lg (l ++ t) i = Lg l i := by
 obtain ⟨f, hf, hi⟩ := h;unfold Lg;rw [List.find?_append];cases hq : List.find? (fun e => decide (Al e = i)) l with
 | some x => rfl
 | none => exact absurd hi (by simpa using List.find?_eq_none.1 hq f hf)
theorem Mx (l : List Evt) (e : Evt) : ∀ m : List Evt, (Cz l m e).vers = Ck l (Al e) l :=
 Hw rfl fun m f ih => by
  rw [Jo];unfold D3;split
  · split
    · split <;> exact ih
    · split <;> exact ih
  · exact ih
theorem Gu {l : List Evt} (hn : NodE l) : Dl (Ac l).objs ∧ (Ac l).objs.length ≤ l.length ∧ ∀ o, o ∈ (Ac l).objs ↔ ∃ e ∈ l, (e.kind = 1 ∨ e.kind = 2) ∧ o = Cz l l e := Acn l.length l rfl hn
theorem Aji {l : List Obj} (hs : Dl l) {o : Obj} (h : o ∈ l) : Dp l o.id = some o := by
 rw [Aeh hs];cases hq : l.find? fun x => decide (x.id = o.id) with
 | none => have := List.find?_eq_none.1 hq o h; simp at this
 | some x =>
   have h1 := List.mem_of_find?_eq_some hq;have h2 : x.id = o.id := by simpa using List.find?_some hq
   have a := Ux (l := l.map obN) hs (List.mem_map_of_mem h1);obtain ⟨j, hj⟩ := List.mem_iff_getElem?.1 h1;obtain ⟨k, hk⟩ := List.mem_iff_getElem?.1 h;have : j = k := by
    rcases Nat.lt_trichotomy j k with q | q | q
    · have := F9 hs hj hk q; rw [h2] at this; exact absurd this Dt
    · exact q
    · have := F9 hs hk hj q; rw [h2] at this; exact absurd this Dt
   subst this;rw [hj] at hk; exact hk
theorem Ur {l : List Obj} {i : Bb} {o : Obj} (h : Dp l i = some o) : o ∈ l ∧ o.id = i := ⟨List.mem_of_getElem? (Gc h).1, (Gc h).2⟩
theorem P8 {l : List Evt} {e : Evt} (h : Val l) (ha : Acc (Ac l) e) (hk : e.kind = 3 ∨ e.kind = 4 ∨ e.kind = 5 ∨ e.kind = 6 ∨ e.kind = 7) : ∃ f ∈ l, (f.kind = 1 ∨ f.kind = 2) ∧ Al f = Ar e ∧ Dp (Ac l).objs (Ar e) = some (Cz l l f) ∧ (Wg e = true → (Cz l l f).dir = false ∧ ¬ Ds (Ck l (Ar e) l) e.base.l) := by
 have hw := ha.why;unfold Tm at hw;rw [if_neg (by omega), if_neg (by omega)] at hw;cases ho : Dp (Ac l).objs (Ar e) with
 | none => rw [ho] at hw; cases hw
 | some o =>
   rw [ho] at hw;obtain ⟨h1, h2⟩ := Ur ho;obtain ⟨f, hf, hk12, rfl⟩ := ((Gu h.nod).2.2 o).1 h1;have h2' : Al f = Ar e := by rw [← My l f l]; exact h2
   refine ⟨f, hf, hk12, h2', rfl, fun hwr => ?_⟩;have hk3 := of_decide_eq_true hwr;simp only at hw;rw [if_neg (by omega), if_neg (by omega)] at hw;split at hw
   · cases hw
   · split at hw
     · cases hw
     · rename_i hd hm;rw [Mx, h2'] at hm;exact ⟨by simpa using hd, hm⟩
theorem J4 {l : List Evt} {e : Evt} (h : Val l) (ha : Acc (Ac l) e) (hw : Wg e = true) : ∀ b ∈ e.base.l, ∃ v, Cq (Ck l (Ar e) l) b.1 b.2 = some v ∧ ∃ g ∈ l, Wg g = true ∧ Ar g = Ar e ∧ Al g = b ∧ v = Hc l l g := fun b hb => by
 have hk3 := of_decide_eq_true hw;obtain ⟨f, hf, hk, hi, ho, hm⟩ := P8 h ha (by omega);obtain ⟨_, hm⟩ := hm hw;cases hv : Cq (Ck l (Ar e) l) b.1 b.2 with
 | none => exact absurd ⟨b, hb, hv⟩ hm
 | some v =>
   obtain ⟨h1, h2⟩ := Xw hv;obtain ⟨g, hg, ⟨hw, ho⟩, rfl⟩ := (Mo l.length l rfl).1 h1;exact ⟨_, rfl, g, hg, hw, ho, Prod.ext h2.1 h2.2, rfl⟩
noncomputable def Yj (l : List Evt) (e : Evt) : List UInt8 := match e.base.l with
 | [] => []
 | b :: _ => E0 l l.length b
theorem Afg {e : Evt} (h : Bz e = true) (hw : Wg e = true) : e.data.length ≤ 200 := by
 have hK := P2 h;have hk := of_decide_eq_true hw;rcases hk with k | k | k
 · have h1 := hK.1;rw [M5 k] at h1;simp only [Bool.and_eq_true, Df, decide_eq_true_eq] at h1;omega
 · have h1 := hK.2;rw [A8f k] at h1;simp only [H2, Bool.and_eq_true, Bool.or_eq_true, decide_eq_true_eq, Bool.false_eq_true, false_or, true_or] at h1;have : e.data = [] := h1.2.2.2.2.2.1;rw [this]; simp
 · have h1 := hK.1;rw [Sz k] at h1;simp only [Bool.and_eq_true, Df, decide_eq_true_eq] at h1;omega
theorem Ain {e : Evt} (h : Bz e = true) (hw : Wg e = true) {was : List UInt8} (hl : was.length ≤ 200) : (Rx e was).length ≤ 200 := by
 have hd := Afg h hw;unfold Rx;split
 · exact hd
 · split
   · unfold A1y; split
     · simp
     · rw [Arb]; omega
   · unfold Ad6; split
     · simp
     · rename_i h; unfold E3 at h; rw [Ad7]; omega
theorem Mq {l : List Evt} (h : Val l) : ∀ g ∈ l, Wg g = true → (E0 l l.length (Al g)).length ≤ 200 ∧ ∀ t n, l.length ≤ n → E0 (l ++ t) n (Al g) = E0 l l.length (Al g) := by
 induction h with
 | nil => intro g hg; cases hg
 | @snoc l e hl he hw ih =>
   have ha := Hm.1 hw;intro g hg hgw;have hlen : (l ++ [e]).length = l.length + 1 := by simp
   rcases List.mem_append.1 hg with hg | hg
   · obtain ⟨h1, h2⟩ := ih g hg hgw;have e1 : E0 (l ++ [e]) (l ++ [e]).length (Al g) = E0 l l.length (Al g) := h2 [e] _ (by omega);rw [e1];refine ⟨h1, fun t n hn => ?_⟩;rw [List.append_assoc];exact h2 _ n (by omega)
   · rw [List.mem_singleton] at hg; subst hg;have key : ∀ t n, (l ++ [g]).length ≤ n → E0 ((l ++ [g]) ++ t) n (Al g) = Rx g (Yj l g) := fun t n hn => by
      obtain ⟨n, rfl⟩ : ∃ k, n = k + 1 := ⟨n - 1, by omega⟩
      simp only [E0];rw [Akv t ⟨g, by simp, rfl⟩, Hq (Mp hl ha) (by simp)];simp only;congr 1;unfold Yj;cases hb : g.base.l with
      | nil => rfl
      | cons b r =>
        simp only;obtain ⟨v, hv, f, hf, hfw, _, rfl, _⟩ := J4 hl ha hgw b (by rw [hb]; simp);rw [List.append_assoc];exact (ih f hf hfw).2 _ n (by omega)
     have e1 : E0 (l ++ [g]) (l ++ [g]).length (Al g) = Rx g (Yj l g) := by
      have := key [] (l ++ [g]).length (Nat.le_refl _)
      rwa [List.append_nil] at this
     rw [e1];refine ⟨Ain ha.ck hgw ?_, key⟩;unfold Yj;cases hb : g.base.l with
     | nil => simp
     | cons b r =>
       simp only;obtain ⟨v, hv, f, hf, hfw, _, rfl, _⟩ := J4 hl ha hgw b (by rw [hb]; simp);exact (ih f hf hfw).1
theorem Alf {l : List Evt} {e : Evt} (h : Val l) (ha : Acc (Ac l) e) (hw : Wg e = true) : E0 (l ++ [e]) (l ++ [e]).length (Al e) = Rx e (Yj l e) := by
 rw [show (l ++ [e]).length = l.length + 1 from by simp];simp only [E0];rw [Hq (Mp h ha) (by simp)];simp only;congr 1;unfold Yj;cases hb : e.base.l with
 | nil => rfl
 | cons b r =>
   simp only;obtain ⟨v, hv, f, hf, hfw, _, rfl, _⟩ := J4 h ha hw b (by rw [hb]; simp);exact (Mq h f hf hfw).2 _ _ (Nat.le_refl _)
theorem Aah {l : List Evt} {e : Evt} (h : Val l) {g : Evt} (hg : g ∈ l) (hw : Wg g = true) : Hc (l ++ [e]) (l ++ [e]) g = if gvF e (Ar g) (Al g) = true then R4 (Hc l l g) e.rep e.seq else Hc l l g := by
 have hb := (Mq h g hg hw).2 [e] (l ++ [e]).length (by simp);unfold Hc;rw [hb, Ap5];split <;> rfl
theorem Auv {l : List Evt} {e : Evt} (h : Val l) (ha : Acc (Ac l) e) (obj : Bb) {g : Evt} (hg : g ∈ l ++ [e]) : gvF g obj (Al e) = false := by
 cases hq : gvF g obj (Al e) with
 | false => rfl
 | true =>
   unfold gvF at hq;simp only [Bool.and_eq_true, decide_eq_true_eq] at hq;rcases List.mem_append.1 hg with hg | hg
   · obtain ⟨a, b, rfl, h1, _, h3⟩ := h.mem hg;obtain ⟨_, _, f, hf, _, _, hi, _⟩ := J4 h1 h3 hq.1 _ hq.2.2;exact absurd hi (E9 h ha f (by simp [hf]))
   · rw [List.mem_singleton] at hg; subst hg;obtain ⟨_, _, f, hf, _, _, hi, _⟩ := J4 h ha hq.1 _ hq.2.2;exact absurd hi (E9 h ha f hf)
theorem Av2 {l : List Evt} {e : Evt} (h : Val l) (ha : Acc (Ac l) e) (obj : Bb) : gvG (l ++ [e]) obj (Al e) = fun _ => 0 := by
 unfold gvG;have : ∀ m : List Evt, (∀ g ∈ m, gvF g obj (Al e) = false) → m.foldl (fun a g => if gvF g obj (Al e) = true then A9 a g.rep g.seq else a) (fun _ => 0 : Vc) = fun _ => 0 := fun m hm => by
  induction m with
  | nil => rfl
  | cons g m ih =>
    rw [List.foldl_cons, if_neg (by rw [hm g List.mem_cons_self]; simp)];exact ih fun f hf => hm f (List.mem_cons_of_mem _ hf)
 exact this _ fun g hg => Auv h ha obj hg
theorem C8 {l : List Evt} (h : NodE l) (obj : Bb) : Cg (Ck l obj l) ∧ (Ck l obj l).length ≤ l.length ∧ ∀ v, v ∈ Ck l obj l ↔ ∃ e ∈ l, (Wg e = true ∧ Ar e = obj) ∧ v = Hc l l e := ⟨(J7 l.length l rfl h).1, (J7 l.length l rfl h).2, fun v => Mo l.length l rfl⟩
theorem Mn {l : List Evt} {e : Evt} (h : Val l) (ha : Acc (Ac l) e) {obj : Bb} (hx : ¬ (Wg e = true ∧ Ar e = obj)) : Ck (l ++ [e]) obj (l ++ [e]) = Ck l obj l := by
 obtain ⟨s1, _, m1⟩ := C8 h.nod obj;obtain ⟨s2, _, m2⟩ := C8 (Mp h ha) obj;refine Qm s2 s1 fun v => ?_;have key : ∀ g ∈ l, Wg g = true ∧ Ar g = obj → Hc (l ++ [e]) (l ++ [e]) g = Hc l l g := fun g hg ⟨hw, ho⟩ => by
  rw [Aah h hg hw, if_neg];unfold gvF;rw [ho];simp only [Bool.and_eq_true, decide_eq_true_eq];exact fun q => hx ⟨q.1, q.2.1⟩
 rw [m1, m2];constructor
 · rintro ⟨g, hg, hc, rfl⟩;rcases List.mem_append.1 hg with hg | hg
   · exact ⟨g, hg, hc, key g hg hc⟩
   · rw [List.mem_singleton] at hg; subst hg; exact absurd hc hx
 · rintro ⟨g, hg, hc, rfl⟩;exact ⟨g, List.mem_append_left _ hg, hc, (key g hg hc).symm⟩
theorem Alh {l : List Evt} {e : Evt} (h : Val l) (ha : Acc (Ac l) e) (hw : Wg e = true) : D7 (Ck l (Ar e) l) e = Rx e (Yj l e) := by
 have hd : ∀ v ∈ Ck l (Ar e) l, v.data.length ≤ 200 := fun v hv => by
  obtain ⟨g, hg, hc, rfl⟩ := ((C8 h.nod (Ar e)).2.2 v).1 hv;exact (Mq h g hg hc.1).1
 have hk := of_decide_eq_true hw;have hf := Vx ha.ck hk hd;have hwas : (C3 (Ck l (Ar e) l) (Dg e).1 (Dg e).2).1 = Yj l e := by
  unfold Dg Yj;cases hb : e.base.l with
  | nil => simp only; rw [Z3 ⟨rfl, rfl⟩]
  | cons b r =>
    simp only;obtain ⟨v, hv, f, hf, hfw, _, rfl, rfl⟩ := J4 h ha hw b (by rw [hb]; simp);obtain ⟨a, c, _, _, _, h3⟩ := h.mem hf;have hbp := Cd h3.ck;have hbp1 : 1 ≤ f.rep := hbp.1;rw [Z2 (fun q => by have := q.1; simp only at this; omega) hv];rfl
 have hwl : (C3 (Ck l (Ar e) l) (Dg e).1 (Dg e).2).1.length ≤ 200 := X0 hd _ _;unfold D7 Rx;rw [hwas] at hwl ⊢;by_cases h5 : e.kind = 5
 · rw [if_pos h5, if_pos h5]
 rw [if_neg h5, if_neg h5];obtain ⟨o1, o2⟩ := hf.off h5;by_cases h4 : e.kind = 4
 · rw [if_pos h4, if_pos h4];unfold A1y; rw [if_neg (by omega)]
 · rw [if_neg h4, if_neg h4];have hl := hf.len (by omega);unfold Ad6; rw [if_neg (by unfold E3; omega)]
theorem Amf {l : List Evt} {e : Evt} (h : Val l) (ha : Acc (Ac l) e) (hw : Wg e = true) : Ck (l ++ [e]) (Ar e) (l ++ [e]) = Fj (Ck l (Ar e) l) e.base.l (Qg e.rep e.seq (D7 (Ck l (Ar e) l) e)) := by
 obtain ⟨s1, _, m1⟩ := C8 h.nod (Ar e);obtain ⟨s2, _, m2⟩ := C8 (Mp h ha) (Ar e);have hnew : Cq (Ck l (Ar e) l) e.rep e.seq = none := Ky.2 fun v hv ⟨h1, h2⟩ => by
  obtain ⟨g, hg, _, rfl⟩ := (m1 v).1 hv;exact E9 h ha g hg (Prod.ext h1 h2)
 have hE : Hc (l ++ [e]) (l ++ [e]) e = Qg e.rep e.seq (D7 (Ck l (Ar e) l) e) := by
  unfold Hc Qg;rw [Alf h ha hw, Av2 h ha, Alh h ha hw]
 refine Qm s2 (Acz s1 hnew) fun v => ?_;rw [m2, Ao5, ← hE];have key : ∀ g ∈ l, Wg g = true ∧ Ar g = Ar e → Hc (l ++ [e]) (l ++ [e]) g = Nm e.base.l e.rep e.seq (Hc l l g) := fun g hg ⟨hgw, ho⟩ => by
  rw [Aah h hg hgw];unfold Nm;have : gvF e (Ar g) (Al g) = decide (((Hc l l g).rep, (Hc l l g).seq) ∈ e.base.l) := by
   unfold gvF;rw [hw, ho];simp; rfl
  rw [this];by_cases hin : ((Hc l l g).rep, (Hc l l g).seq) ∈ e.base.l
  · rw [if_pos (decide_eq_true hin), if_pos hin]
  · rw [if_neg (by simpa using hin), if_neg hin]
 constructor
 · rintro ⟨g, hg, hc, rfl⟩;rcases List.mem_append.1 hg with hg | hg
   · exact .inr ⟨Hc l l g, (m1 _).2 ⟨g, hg, hc, rfl⟩, key g hg hc⟩
   · rw [List.mem_singleton] at hg; subst hg; exact .inl rfl
 · rintro (rfl | ⟨y, hy, rfl⟩)
   · exact ⟨e, by simp, ⟨hw, rfl⟩, rfl⟩
   · obtain ⟨g, hg, hc, rfl⟩ := (m1 y).1 hy;exact ⟨g, List.mem_append_left _ hg, hc, (key g hg hc).symm⟩
theorem Adl (e f : Evt) (o : Obj) (v : List Ver) : D3 e { o with vers := v } f = { D3 e o f with vers := v } := by
 unfold D3;by_cases h1 : Ar f = Al e
 · rw [if_pos h1, if_pos h1];by_cases h7 : f.kind = 7
   · rw [if_pos h7, if_pos h7];by_cases hl : Ca o.last.1 o.last.2 f.rep f.seq = true
     · rw [if_pos hl, if_pos hl]
     · rw [if_neg hl, if_neg hl]
   · rw [if_neg h7, if_neg h7];by_cases h6 : f.kind = 6
     · rw [if_pos h6, if_pos h6]
     · rw [if_neg h6, if_neg h6]
 · rw [if_neg h1, if_neg h1]
theorem Auq (l L : List Evt) (e : Evt) : ∀ m : List Evt, Cz L m e = { Cz l m e with vers := Ck L (Al e) L } :=
 Hw rfl fun m f ih => by
  rw [Jo, Jo, ih, Adl]
theorem Aom (l : List Evt) (e f : Evt) : Cz (l ++ [e]) (l ++ [e]) f = { D3 f (Cz l l f) e with vers := Ck (l ++ [e]) (Al f) (l ++ [e]) } := by
 rw [Auq l, Jo]
theorem Adm (e f : Evt) (o : Obj) : (D3 e o f).id = o.id ∧ (D3 e o f).dir = o.dir ∧ (D3 e o f).vers = o.vers := by
 unfold D3;split
 · split
   · split <;> exact ⟨rfl, rfl, rfl⟩
   · split <;> exact ⟨rfl, rfl, rfl⟩
 · exact ⟨rfl, rfl, rfl⟩
theorem Abh {l : List Evt} {e : Evt} (h : Val l) (ha : Acc (Ac l) e) : Cz (l ++ [e]) (l ++ [e]) e = Ut e := by
 have hv : Ck (l ++ [e]) (Al e) (l ++ [e]) = [] := by
  refine List.eq_nil_iff_forall_not_mem.2 fun v hv => ?_;obtain ⟨g, hg, hc, _⟩ := ((C8 (Mp h ha) (Al e)).2.2 v).1 hv;exact Aot h ha hg hc.2
 unfold Cz Ut;rw [hv];have : ∀ (m : List Evt) (o : Obj), (∀ g ∈ m, Ar g ≠ Al e) → m.foldl (D3 e) o = o := fun m => by
  induction m with
  | nil => intro o _; rfl
  | cons g m ih =>
    intro o hm;rw [List.foldl_cons, show D3 e o g = o from if_neg (hm g List.mem_cons_self)];exact ih o fun f hf => hm f (List.mem_cons_of_mem _ hf)
 exact this _ _ fun g hg => Aot h ha hg
def GO (e : Evt) (x : Obj) : Obj :=
 if e.kind = 7 then Uu e x
 else if e.kind = 6 then { x with seen := Dn x.seen (A9 e.dep e.rep e.seq) }
 else { x with vers := Fj x.vers e.base.l (Qg e.rep e.seq (D7 x.vers e)) }
theorem Ao0 (e : Evt) (x : Obj) : (Uu e x).id = x.id := by unfold Uu; split <;> rfl
theorem A75 (e : Evt) (x : Obj) : (GO e x).id = x.id := by
 unfold GO;split
 · exact Ao0 e x
 · split <;> rfl
theorem Ani {l : List Obj} (hs : Dl l) {i : Bb} {o : Obj} (h : Dp l i = some o) (g : Obj → Obj) : l.set (Cb l i) (g o) = l.map fun x => if x.id = i then g x else x := by
 obtain ⟨h1, h2⟩ := Gc h;apply List.ext_getElem?;intro j;rw [List.getElem?_map];by_cases hj : Cb l i = j
 · subst hj;rw [List.getElem?_set_self (List.getElem?_eq_some_iff.1 h1).1, h1];simp only [Option.map_some];rw [if_pos h2]
 · rw [List.getElem?_set_ne hj];cases hy : l[j]? with
   | none => rfl
   | some y =>
     simp only [Option.map_some];rw [if_neg];intro q;rcases Nat.lt_or_gt_of_ne hj with k | k
     · have := F9 hs h1 hy k; rw [h2, q] at this; exact Dt this
     · have := F9 hs hy h1 k; rw [h2, q] at this; exact Dt this
theorem Awo {s : St} (hs : Dl s.objs) {e : Evt} (hk : e.kind = 3 ∨ e.kind = 4 ∨ e.kind = 5 ∨ e.kind = 6 ∨ e.kind = 7) {o : Obj} (h : Dp s.objs (Ar e) = some o) : (doS s e).objs = s.objs.map fun x => if x.id = Ar e then GO e x else x := by
 unfold doS;rw [if_neg (by omega), if_neg (by omega), if_neg (by omega), h, ← Ani hs h (GO e)];simp only;unfold GO;by_cases h7 : e.kind = 7
 · rw [if_pos h7, if_pos h7]; rfl
 rw [if_neg h7, if_neg h7];by_cases h6 : e.kind = 6
 · rw [if_pos h6, if_pos h6]; rfl
 · rw [if_neg h6, if_neg h6]; rfl
theorem Ait {l : List Obj} (hs : Dl l) {g : Obj → Obj} (hg : ∀ x, (g x).id = x.id) : Dl (l.map g) := by
 rw [T5] at *;rw [List.pairwise_map];exact hs.imp fun {a b} h => by rw [hg, hg]; exact h
theorem Azm {l : List Evt} (h : Val l) {f : Evt} (hf : f ∈ l) : Al f ≠ (0, 0) := fun q => by
 obtain ⟨a, b, _, _, _, h3⟩ := h.mem hf;have h1 : 1 ≤ f.rep := (Cd h3.ck).1;have h2 : f.rep = 0 := congrArg Prod.fst q;omega
theorem Ag4 {l : List Evt} {e : Evt} (h : Val l) (ha : Acc (Ac l) e) {f : Evt} (hf : f ∈ l) :
 Cz (l ++ [e]) (l ++ [e]) f = if (e.kind = 3 ∨ e.kind = 4 ∨ e.kind = 5 ∨ e.kind = 6 ∨ e.kind = 7) ∧ Al f = Ar e then GO e (Cz l l f) else Cz l l f := by
 rw [Aom];have hov := Mx l f l;by_cases hk : e.kind = 3 ∨ e.kind = 4 ∨ e.kind = 5 ∨ e.kind = 6 ∨ e.kind = 7;rotate_left
 · rw [if_neg fun q => hk q.1];have hw : Wg e = false := decide_eq_false (by omega);rw [Mn h ha (fun q => by rw [hw] at q; simp at q), ← hov];have h0 := Vv ha.ck hk;have : D3 f (Cz l l f) e = Cz l l f := if_neg (by rw [h0]; exact fun q => Azm h hf q.symm);rw [this]
 by_cases hi : Al f = Ar e;rotate_left
 · rw [if_neg fun q => hi q.2, Mn h ha (fun q => hi q.2.symm), ← hov];have : D3 f (Cz l l f) e = Cz l l f := if_neg fun q => hi q.symm;rw [this]
 rw [if_pos ⟨hk, hi⟩];unfold D3 GO;rw [if_pos hi.symm];by_cases h7 : e.kind = 7
 · have hw : Wg e = false := decide_eq_false (by omega);rw [if_pos h7, if_pos h7, Mn h ha (fun q => by rw [hw] at q; simp at q), ← hov];unfold Uu;split <;> rfl
 rw [if_neg h7, if_neg h7];by_cases h6 : e.kind = 6
 · have hw : Wg e = false := decide_eq_false (by omega);rw [if_pos h6, if_pos h6, Mn h ha (fun q => by rw [hw] at q; simp at q), ← hov]
 · rw [if_neg h6, if_neg h6];have hw : Wg e = true := decide_eq_true (by omega);rw [hi, Amf h ha hw, hov, hi]
theorem Ajg {l : List Evt} {e : Evt} (h : Val l) (ha : Acc (Ac l) e) : (Ac (l ++ [e])).objs = (Fx (Ac l) e).objs := by
 obtain ⟨s1, _, m1⟩ := Gu h.nod;obtain ⟨s2, _, m2⟩ := Gu (Mp h ha);have hkn : (Fp (Ac l) e).objs = (Ac l).objs := rfl;by_cases hk : e.kind = 3 ∨ e.kind = 4 ∨ e.kind = 5 ∨ e.kind = 6 ∨ e.kind = 7
 · obtain ⟨f0, hf0, _, _, ho, _⟩ := P8 h ha hk;have hd := Awo (s := Fp (Ac l) e) s1 hk ho;unfold Fx;rw [hd];refine Mv s2 (Ait s1 fun x => by split; exact A75 e x; rfl) fun x => ?_;rw [m2, List.mem_map];have key : ∀ f ∈ l, Cz (l ++ [e]) (l ++ [e]) f = if (Cz l l f).id = Ar e then GO e (Cz l l f) else Cz l l f := fun f hf => by
    rw [Ag4 h ha hf, My];by_cases hi : Al f = Ar e
    · rw [if_pos ⟨hk, hi⟩, if_pos hi]
    · rw [if_neg fun q => hi q.2, if_neg hi]
   constructor
   · rintro ⟨f, hf, hc, rfl⟩;rcases List.mem_append.1 hf with hf | hf
     · exact ⟨Cz l l f, (m1 _).2 ⟨f, hf, hc, rfl⟩, (key f hf).symm⟩
     · rw [List.mem_singleton] at hf; subst hf; omega
   · rintro ⟨y, hy, rfl⟩;obtain ⟨f, hf, hc, rfl⟩ := (m1 y).1 hy;exact ⟨f, List.mem_append_left _ hf, hc, (key f hf).symm⟩
 have key : ∀ f ∈ l, Cz (l ++ [e]) (l ++ [e]) f = Cz l l f := fun f hf => by
  rw [Ag4 h ha hf, if_neg fun q => hk q.1]
 have hb := Cd ha.ck;obtain ⟨_, _, _, _, _, b6, b7⟩ := hb;by_cases h12 : e.kind = 1 ∨ e.kind = 2
 · have hd : (Fx (Ac l) e).objs = Wq (Ac l).objs (Ut e) := by
    unfold Fx doS;rw [if_neg (by omega), if_neg (by omega), if_pos h12]; rfl
   rw [hd];have hne : ∀ x ∈ (Ac l).objs, x.id ≠ (Ut e).id := fun x hx q => by
    obtain ⟨f, hf, hc, rfl⟩ := (m1 x).1 hx;rw [My] at q;exact E9 h ha f hf q
   refine Mv s2 (W4 s1 hne) fun x => ?_;rw [m2, Abl];constructor
   · rintro ⟨f, hf, hc, rfl⟩;rcases List.mem_append.1 hf with hf | hf
     · exact .inr ((m1 _).2 ⟨f, hf, hc, key f hf⟩)
     · rw [List.mem_singleton] at hf; subst hf; exact .inl (Abh h ha)
   · rintro (rfl | hx)
     · exact ⟨e, by simp, h12, (Abh h ha).symm⟩
     · obtain ⟨f, hf, hc, rfl⟩ := (m1 x).1 hx;exact ⟨f, List.mem_append_left _ hf, hc, (key f hf).symm⟩
 · have hd : (Fx (Ac l) e).objs = (Ac l).objs := by
    unfold Fx doS;by_cases h8 : e.kind = 8
    · rw [if_pos h8]; rfl
    · rw [if_neg h8, if_pos (by omega)]; rfl
   rw [hd];refine Mv s2 s1 fun x => ?_;rw [m2, m1];constructor
   · rintro ⟨f, hf, hc, rfl⟩;rcases List.mem_append.1 hf with hf | hf
     · exact ⟨f, hf, hc, key f hf⟩
     · rw [List.mem_singleton] at hf; subst hf; exact absurd hc h12
   · rintro ⟨f, hf, hc, rfl⟩;exact ⟨f, List.mem_append_left _ hf, hc, (key f hf).symm⟩
end Go.Proofs.Ythmjebkldgdeiaa.Fw
namespace Go.Proofs.Ythmjebkldgdeiaa.Fw
open Go.RowKit Go.Proofs
theorem St.eq {a b : St} (h1 : a.known = b.known) (h2 : a.objs = b.objs) (h3 : a.ents = b.ents) (h4 : a.wards = b.wards) (h5 : a.ret = b.ret) : a = b := by
 cases a; cases b; simp only at h1 h2 h3 h4 h5; subst h1 h2 h3 h4 h5; rfl
theorem A64 (l l' : List Evt) : ∀ m : List Evt, (Ea l m).1.wards = (Ea l' m).1.wards ∧ (Ea l m).1.ret = (Ea l' m).1.ret ∧ (Ea l m).2 = (Ea l' m).2 :=
 Hw ⟨rfl, rfl, rfl⟩ fun m e ⟨h1, h2, h3⟩ => by
  rw [Hs, Hs];unfold J3;by_cases k12 : e.kind = 1 ∨ e.kind = 2
  · rw [if_pos k12, if_pos k12]; exact ⟨h1, h2, h3⟩
  rw [if_neg k12, if_neg k12];by_cases k8 : e.kind = 8
  · rw [if_pos k8, if_pos k8, h3];split
    · exact ⟨by simp only [Ld, h1], h2, by simp only [h3]⟩
    · exact ⟨h1, h2, h3⟩
  rw [if_neg k8, if_neg k8];by_cases k9 : e.kind = 9
  · rw [if_pos k9, if_pos k9]; exact ⟨h1, by simp only [Ue, h2], h3⟩
  rw [if_neg k9, if_neg k9]; exact ⟨h1, h2, h3⟩
theorem Ah8 {a b : Vc} {r : Int} {q : Nat} {i : Nat} (h : ∀ i, a i ≤ b i) : A9 a r q i ≤ A9 b r q i := by
 by_cases hr : 1 ≤ r ∧ r ≤ 8
 · rw [D2 hr, D2 hr]; have := h i; split <;> omega
 · unfold A9; rw [if_neg hr, if_neg hr]; exact h i
theorem Aj0 (L : List Evt) : ∀ (m : List Evt) (i : Nat), (Ea L m).2 i ≤ Af m i :=
 Hw (fun i => Nat.le_refl _) fun m e ih i => by
  rw [Hs, Iy];unfold J3;split
  · exact Nat.le_trans (ih i) (Sr i)
  · split
    · split
      · exact Ah8 ih
      · exact Nat.le_trans (ih i) (Sr i)
    · split <;> exact Nat.le_trans (ih i) (Sr i)
theorem Aq7 (s : St) (e : Evt) : (doS s e).known = s.known := by
 unfold doS;split
 · rfl
 · split
   · rfl
   · split
     · rfl
     · split
       · rfl
       · split
         · rfl
         · split <;> rfl
theorem K6 {l : List Evt} {e : Evt} (h : Val l) (ha : Acc (Ac l) e) : Ac (l ++ [e]) = Fx (Ac l) e := by
 obtain ⟨n1, n2, n3⟩ := Wb ha;obtain ⟨_, _, _, _, _, b6, b7⟩ := Cd ha.ck;rw [Be] at n3;have hb : Ac (l ++ [e]) = (J3 (l ++ [e]) (Ea (l ++ [e]) l) e).1 := by
  show (Ea (l ++ [e]) (l ++ [e])).1 = _;rw [Hs]
 obtain ⟨w1, w2, w3⟩ := A64 (l ++ [e]) l l;have hen := Aky h ha;rw [← Hr (l ++ [e]), ← Hr l] at hen;refine St.eq ?_ (Ajg h ha) ?_ ?_ ?_
 · rw [Be, Iy];unfold Fx; rw [Aq7];show _ = A9 (Ac l).known e.rep e.seq;rw [Be]
 · rw [hen];unfold Fx doS;by_cases h8 : e.kind = 8
   · rw [if_pos h8, if_neg (by omega), if_neg (by omega), if_neg (by omega)]; rfl
   rw [if_neg h8];by_cases h9 : e.kind = 9
   · rw [if_pos h9, if_neg (by omega), if_neg (by omega), if_neg (by omega)]; rfl
   rw [if_neg h9];by_cases h12 : e.kind = 1 ∨ e.kind = 2
   · rw [if_pos h12, if_pos h12]; rfl
   rw [if_neg h12, if_neg h12];obtain ⟨f0, hf0, _, _, ho, _⟩ := P8 h ha (by omega);rw [show Dp (Fp (Ac l) e).objs (Ar e) = some (Cz l l f0) from ho];simp only;by_cases h7 : e.kind = 7
   · rw [if_pos h7, if_pos h7]; rfl
   rw [if_neg h7, if_neg h7];by_cases h6 : e.kind = 6
   · rw [if_pos h6, if_pos h6]; rfl
   · rw [if_neg h6, if_neg h6]; rfl
 · rw [hb];unfold Fx doS J3;by_cases h8 : e.kind = 8
   · have hlt : Du (Ea (l ++ [e]) l).2 e.rep < e.seq := by
      unfold Du; rw [if_pos ⟨n1, n2⟩, w3];have := Aj0 l l (e.rep - 1).toNat;omega
     rw [if_pos h8, if_neg (by omega), if_pos h8, if_pos hlt];simp only [Ld, w1]; rfl
   rw [if_neg h8, if_neg h8];by_cases h9 : e.kind = 9
   · rw [if_pos h9, if_neg (by omega), if_pos h9];simp only [Ue, w1]; rfl
   rw [if_neg h9, if_neg h9];by_cases h12 : e.kind = 1 ∨ e.kind = 2
   · rw [if_pos h12, if_pos h12]; simp only [w1]; rfl
   rw [if_neg h12, if_neg h12];obtain ⟨f0, hf0, _, _, ho, _⟩ := P8 h ha (by omega);rw [show Dp (Fp (Ac l) e).objs (Ar e) = some (Cz l l f0) from ho];simp only;rw [w1];split
   · rfl
   · split <;> rfl
 · rw [hb];unfold Fx doS J3;by_cases h8 : e.kind = 8
   · rw [if_pos h8, if_neg (by omega), if_pos h8];split
     · simp only [Ld, w2]; rfl
     · simp only [Ld, w2]; rfl
   rw [if_neg h8, if_neg h8];by_cases h9 : e.kind = 9
   · rw [if_pos h9, if_neg (by omega), if_pos h9];simp only [Ue, w2]; rfl
   rw [if_neg h9, if_neg h9];by_cases h12 : e.kind = 1 ∨ e.kind = 2
   · rw [if_pos h12, if_pos h12]; simp only [w2]; rfl
   rw [if_neg h12, if_neg h12];obtain ⟨f0, hf0, _, _, ho, _⟩ := P8 h ha (by omega);rw [show Dp (Fp (Ac l) e).objs (Ar e) = some (Cz l l f0) from ho];simp only;rw [w2];split
   · rfl
   · split <;> rfl
theorem At7 {l : List Evt} {e : Evt} (h : Val l) (hw : Fk (Ac l) e = 0) : Yy (Ac l) e = Ac (l ++ [e]) := by
 unfold Yy; rw [if_pos hw, K6 h (Hm.1 hw)]
theorem Ll {l : List Evt} (h : Val l) (hn : l.length ≤ 400) : StIn (Ac l) := by
 obtain ⟨s1, l1, m1⟩ := Gu h.nod;have hv : ∀ o ∈ (Ac l).objs, ∃ f ∈ l, o.vers = Ck l (Al f) l := fun o ho => by
  obtain ⟨f, hf, _, rfl⟩ := (m1 o).1 ho;exact ⟨f, hf, Mx l f l⟩
 have hs := (Jr (l := l) l h.nod).1;refine ⟨⟨⟨by omega, fun o ho => ?_, ?_⟩, s1, ?_⟩, fun o ho => ?_, fun o ho v hq => ?_, fun o ho v hq => ?_⟩
 · obtain ⟨f, hf, e⟩ := hv o ho;rw [e]; have := (C8 h.nod (Al f)).2.1; omega
 · rw [Hr]; have := Xy l l.length l rfl; omega
 · rw [Hr]; exact hs
 · obtain ⟨f, hf, e⟩ := hv o ho;rw [e]; exact (C8 h.nod (Al f)).1
 · obtain ⟨f, hf, e⟩ := hv o ho;rw [e] at hq;obtain ⟨g, hg, hc, rfl⟩ := ((C8 h.nod (Al f)).2.2 v).1 hq;exact (Mq h g hg hc.1).1
 · obtain ⟨f, hf, e⟩ := hv o ho;rw [e] at hq;obtain ⟨g, hg, hc, rfl⟩ := ((C8 h.nod (Al f)).2.2 v).1 hq;rw [Be];exact h.has.2 ⟨g, hg, rfl⟩
theorem Af7 {l : List Evt} (h : Val l) : ∀ e ∈ l, 1 ≤ e.rep ∧ e.rep ≤ 8 := fun e he => by
 obtain ⟨a, c, _, _, hv, h3⟩ := h.mem he;exact ⟨(Cd h3.ck).1, (Cd h3.ck).2.1⟩
open Classical in
noncomputable def Qj (out : List Evt) (e : Evt) : List Evt := if Fk (Ac out) e = 0 then out ++ [e] else out
noncomputable def Hv (l : List Evt) : List Evt := l.foldl Qj []
theorem Nw (l : List Evt) (e : Evt) : Hv (l ++ [e]) = Qj (Hv l) e := by simp [Hv]
theorem Ot : ∀ l : List Evt, (∀ e ∈ l, ev e) → Val (Hv l) ∧ (Hv l).length ≤ l.length ∧ ∀ e ∈ Hv l, e ∈ l :=
 Hw (fun _ => ⟨Val.nil, Nat.le_refl _, fun e he => by cases he⟩) fun l e ih hl => by
  obtain ⟨h1, h2, h3⟩ := ih fun f hf => hl f (List.mem_append_left _ hf);rw [Nw];unfold Qj;split
  · rename_i hw;refine ⟨Val.snoc h1 (hl e (by simp)) hw, by simp only [List.length_append, List.length_singleton]; omega, fun f hf => ?_⟩;rcases List.mem_append.1 hf with hf | hf
    · exact List.mem_append_left _ (h3 f hf)
    · exact List.mem_append_right _ hf
  · exact ⟨h1, by simp only [List.length_append, List.length_singleton]; omega, fun f hf => List.mem_append_left _ (h3 f hf)⟩
theorem Aqo (x : Ent) : C6 [K1.int .i64, K1.int .u32, K1.int .i64, K1.int .u32, .str, K1.int .i64, K1.int .u32, .int .u32, .int .u32, .int .u32, .int .u32, .int .u32, .int .u32, .int .u32, .int .u32] (Bm x) = True := eq_true rfl
theorem E2 (c : List PV) : Wn c c = true := by simp [Wn]
def T1 (f g : Bool) (l m : List Ent) (k : Nat) : FS := mk [(5, .pv (.i .i64 k)), (0, .pv (.sl f 15 (l.map Bm))), (1, .pv (.sl g 15 (m.map Bm)))] []
theorem An2 {x y : SV} {f g : Bool} {l m : List Ent} {h d} (hx : Da h [x, y] = [.pv (.sl f 15 (l.map Bm)), .pv (.sl g 15 (m.map Bm))]) (hl : Bh [x, y] = true) (he : l = m) (hn : l.length ≤ 1000) :
 FunOk Try.prog 37 [x, y] h d (.pv (.b true)) [] := by
 refine Dd An fn37 (by simp) hl rfl fun F => ?_;subst he;rw [hx];simp (disch := omega) only [ir37, List.length_map, go_sem];refine Bc An (T1 f g l l) (fun k => k ≤ l.length) (fun k => l.length - k) 0 (by simp) (A2 ?_ ?_) fun k hk => ?_
 · simp (disch := omega) only [go_sem]
 · simp (disch := omega) only [go_sem]
 by_cases hlt : k < l.length
 · have h2 : (l.map Bm)[k]? = some (Bm l[k]) := by simp [hlt]
   generalize l[k] = v at *;have hp := E2 (Bm v);have hf := Aqo v;simp (disch := omega) only [T1, List.length_map, h2, L4, hp, hf, go_sem];refine Av (k + 1) _ _ rfl (by omega) (by omega) ?_ ?_
   · simp (disch := omega) only [go_sem]
   · simp (disch := omega) only [go_sem]
 · simp (disch := omega) only [T1, List.length_map, go_sem]
theorem Vj (v : Vc) : C6 [K1.int .u32, .int .u32, .int .u32, .int .u32, .int .u32, .int .u32, .int .u32, .int .u32] (vE v) = True := eq_true rfl
theorem A1i (v : Nat → Int) : C6 [K1.int .i64, .int .i64, .int .i64, .int .i64, .int .i64, .int .i64, .int .i64, .int .i64] (iE v) = True := eq_true rfl
theorem A1h (v : Nat → Bool) : C6 [K1.bool, .bool, .bool, .bool, .bool, .bool, .bool, .bool] (wE v) = True := eq_true rfl
theorem Awe (i : Bb) : C6 [K1.int .i64, .int .u32] [.i .i64 i.1, .i .u32 i.2] = True := eq_true rfl
def Adn (s : St) (k : Nat) : FS := mk [(5, .pv (.i .i64 k)), (2, .p 2 0), (3, .p 3 0)] [(2, some (.var (.agg (Bl s)))), (3, some (.var (.agg (Bl s))))]
set_option maxHeartbeats 2000000 in
theorem An3 {s : St} (hs : Fine s) {h d} : FunOk Try.prog 18 [.agg (Bl s), .agg (Bl s)] h d (.pv (.b true)) [] := by
 refine Ax An fn18 (by simp) rfl rfl fun F => ?_;have p1 := E2 (vE s.known);have p2 := E2 (iE s.wards);have p3 := E2 (wE s.ret);have f1 := Vj s.known;have f2 := A1i s.wards;have f3 := A1h s.ret;simp (disch := omega) only [ir18, Bl, A7, p1, p2, p3, f1, f2, f3, go_sem];refine Aa (An2 (l := s.ents) rfl rfl rfl (Nat.le_trans hs.en (by omega))) ?_;simp (disch := omega) only [List.length_map, go_sem];refine Bc An (Adn s) (fun k => k ≤ s.objs.length) (fun k => s.objs.length - k) 0 (by simp) (A2 ?_ ?_) fun k hk => ?_
 · simp (disch := omega) only [go_sem]
 · simp (disch := omega) only [Bl, A7, go_sem]
 by_cases hlt : k < s.objs.length
 · have h2 : (s.objs.map A1)[k]? = some (A1 s.objs[k]) := by simp [hlt]
   have hvk := hs.ov _ (List.getElem_mem hlt);have hon := hs.on;generalize s.objs[k] = o at *;have hol := Uq o;have q1 := E2 [.i .i64 o.id.1, .i .u32 o.id.2];have q2 := E2 [.i .i64 o.last.1, .i .u32 o.last.2];have q3 := E2 (vE o.seen);have q4 := Vj o.seen;simp (disch := omega) only [Adn, Bl, A7, List.length_map, go_sem];refine V7 ?_;simp (disch := omega) only [h2, List.length_map, Q1, hol, U5, Ge, U4, Aen, U3, Ei, Awe, q1, q2, q3, q4, go_sem];refine Aa (Az0 (l := o.vers) (m := o.vers) rfl rfl rfl (by omega)) ?_;simp (disch := omega) only [go_sem];refine Av (k + 1) _ _ rfl (by omega) (by omega) ?_ ?_
   · simp (disch := omega) only [go_sem]
   · simp (disch := omega) only [Bl, A7, go_sem]
 · obtain rfl : k = s.objs.length := by omega
   simp (disch := omega) only [Adn, Bl, A7, List.length_map, go_sem]
structure EvIn (e : Evt) : Prop where
 ev : ev e
 dep : ∀ i, i < 8 → e.dep i < 4294967296
def Axq (e : Evt) : Prop := e.name.length ≤ 30 ∧ e.data.length ≤ 250 ∧ e.gone.l.length ≤ 10 ∧ e.base.l.length ≤ 10
theorem Lm (s : St) : Aw (Bl s) = [] := by simp [Bl, A7, Aw, tn]
abbrev Aau : Sh := .st [Aat, .arr 8 (.int .u32), .int .i64, Aat, Aat, .str, .sl Aat, .sl Aat, .int .i64, .str, .int .i64]
theorem Axo {cs : List PV} (h : GC Aau cs) : ∃ e : Evt, cs = Bo e ∧ (∀ i, i < 8 → e.dep i < 4294967296) ∧ e.gone = ⟨false, 2, e.gone.l⟩ ∧ e.base = ⟨false, 2, e.base.l⟩ := by
 simp only [GC] at h;simp only [GCL] at h;obtain ⟨c0, r0, rfl, g0, c1, r1, rfl, g1, c2, r2, rfl, ⟨n2, rfl, w2⟩, c3, r3, rfl, g3, c4, r4, rfl, g4, c5, r5, rfl, ⟨s5, rfl, w5⟩, c6, r6, rfl, g6, c7, r7, rfl, g7, c8, r8, rfl, ⟨n8, rfl, w8⟩, c9, r9, rfl, ⟨s9, rfl, w9⟩, c10, r10, rfl, ⟨n10, rfl, w10⟩, rfl⟩ := h;obtain ⟨b0, rfl, hb0⟩ := Ac5 (by simp only [GC]; exact g0);obtain ⟨a, rfl, ha⟩ := Ass (by simp only [GC]; exact g1);obtain ⟨b3, rfl, hb3⟩ := Ac5 (by simp only [GC]; exact g3);obtain ⟨b4, rfl, hb4⟩ := Ac5 (by simp only [GC]; exact g4);obtain ⟨e6, rfl, l6, g6⟩ := Ast (s := Aat) (by simp only [GC]; exact g6);obtain ⟨e7, rfl, l7, g7⟩ := Ast (s := Aat) (by simp only [GC]; exact g7);obtain ⟨m6, rfl, _⟩ := Z1 (f := H5) Ac5 g6;obtain ⟨m7, rfl, _⟩ := Z1 (f := H5) Ac5 g7;exact ⟨⟨b0.1, b0.2, a, n2, b3.1, b3.2, b4.1, b4.2, s5, ⟨false, 2, m6⟩, ⟨false, 2, m7⟩, n8, s9, n10⟩, by simp [Bo, H5, SlI.pv]; rfl, ha, rfl, rfl⟩
structure EvRaw (e : Evt) : Prop where
 dep : ∀ i, i < 8 → e.dep i < 4294967296
 gone : e.gone.ok
 base : e.base.ok
theorem Azr {e : Evt} (h : EvRaw e) (k : Axq e) : EvIn e := by
 obtain ⟨k1, k2, k3, k4⟩ := k;exact ⟨⟨h.gone, h.base, by omega, by omega, by omega⟩, h.dep⟩
structure GrewO (x y : Obj) : Prop where
 id : y.id = x.id
 dir : y.dir = x.dir
 seen : Mr x.seen y.seen
 len : x.vers.length ≤ y.vers.length
theorem GrewO.trans {x y z : Obj} (h : GrewO x y) (k : GrewO y z) : GrewO x z := ⟨k.id.trans h.id, k.dir.trans h.dir, fun i hi => Nat.le_trans (h.seen i hi) (k.seen i hi), Nat.le_trans h.len k.len⟩
theorem Mm (v : Vc) (a b : Bb) : A9 (A9 v a.1 a.2) b.1 b.2 = A9 (A9 v b.1 b.2) a.1 a.2 := by
 rw [Jh, Jh, Jh, Jh, Gp, Tr (Auh a), ← Gp]
theorem Jy {α β : Type} {f : β → α → β} {l m : List α} (h : l.Perm m) (b : β) (hc : ∀ x ∈ l, ∀ y ∈ l, ∀ z, f (f z x) y = f (f z y) x) : l.foldl f b = m.foldl f b := h.foldl_eq' hc b
theorem Aeo {l m : List Evt} (h : l.Perm m) : Af l = Af m := Jy h _ fun x _ y _ z => Mm z (Al x) (Al y)
theorem Aro {l m : List Evt} (h : l.Perm m) (obj id : Bb) : byG l obj id = byG m obj id := Jy h _ fun x _ y _ z => by
 by_cases h1 : goF x obj id = true <;> by_cases h2 : goF y obj id = true <;> simp only [h1, h2, if_true, if_false, Bool.false_eq_true];exact Mm z (Al x) (Al y)
theorem Ap6 {l m : List Evt} (h : l.Perm m) (obj id : Bb) : gvG l obj id = gvG m obj id := Jy h _ fun x _ y _ z => by
 by_cases h1 : gvF x obj id = true <;> by_cases h2 : gvF y obj id = true <;> simp only [h1, h2, if_true, if_false, Bool.false_eq_true];exact Mm z (Al x) (Al y)
theorem Sv {l : List Evt} (hn : NodE l) {e f : Evt} (he : e ∈ l) (hf : f ∈ l) (h : Al e = Al f) : e = f := by
 have h1 := Hq hn he;have h2 := Hq hn hf;rw [h] at h1; rw [h1] at h2; exact Option.some.inj h2
theorem Eh {l : List Evt} (hn : NodE l) : l.Nodup := by
 unfold NodE List.Nodup at *;rw [List.pairwise_map] at hn;exact hn.imp fun h q => h (by rw [q])
theorem Aku {l m : List Evt} (hl : NodE l) (hm : NodE m) (h : l.Perm m) (i : Bb) : Lg l i = Lg m i := by
 cases h1 : Lg l i with
 | some e =>
   have he := List.mem_of_find?_eq_some h1;have hi : Al e = i := by simpa using List.find?_some h1
   rw [← hi, Hq hm (h.mem_iff.1 he)]
 | none =>
   cases h2 : Lg m i with
   | none => rfl
   | some e =>
     have he := List.mem_of_find?_eq_some h2;have hi : Al e = i := by simpa using List.find?_some h2
     rw [← hi, Hq hl (h.mem_iff.2 he)] at h1; cases h1
theorem Vz {l m : List Evt} (hl : NodE l) (hm : NodE m) (h : l.Perm m) : ∀ (n : Nat) (i : Bb), E0 l n i = E0 m n i
 | 0, i => rfl
 | n + 1, i => by
   simp only [E0];rw [Aku hl hm h i];cases Lg m i with
   | none => rfl
   | some e =>
     simp only;congr 1;cases e.base.l with
     | nil => rfl
     | cons b t => exact Vz hl hm h n b
theorem Wy {l m : List Evt} (hl : NodE l) (hm : NodE m) (h : l.Perm m) (e : Evt) : Hc l l e = Hc m m e := by
 unfold Hc;rw [Vz hl hm h, Ap6 h, h.length_eq]
theorem Ah9 {l m : List Evt} (hl : NodE l) (hm : NodE m) (h : l.Perm m) (obj : Bb) : Ck l obj l = Ck m obj m := by
 obtain ⟨s1, _, m1⟩ := C8 hl obj;obtain ⟨s2, _, m2⟩ := C8 hm obj;refine Qm s1 s2 fun v => ?_;rw [m1, m2];constructor
 · rintro ⟨g, hg, hc, rfl⟩; exact ⟨g, h.mem_iff.1 hg, hc, Wy hl hm h g⟩
 · rintro ⟨g, hg, hc, rfl⟩; exact ⟨g, h.mem_iff.2 hg, hc, (Wy hl hm h g).symm⟩
theorem Akz {l m : List Evt} (hl : NodE l) (hm : NodE m) (h : l.Perm m) : Cr l l = Cr m m := by
 obtain ⟨s1, m1⟩ := Jr (l := l) l hl;obtain ⟨s2, m2⟩ := Jr (l := m) m hm;have hB : ∀ e, F4 l e = F4 m e := fun e => by unfold F4; rw [Aro h]
 refine Jj s1 s2 fun x => ?_;rw [m1, m2];constructor
 · rintro ⟨g, hg, hc, rfl⟩; exact ⟨g, h.mem_iff.1 hg, hc, hB g⟩
 · rintro ⟨g, hg, hc, rfl⟩; exact ⟨g, h.mem_iff.2 hg, hc, (hB g).symm⟩
theorem Aim (e : Evt) (o : Obj) (f g : Evt) (hne : Al f ≠ Al g) : D3 e (D3 e o f) g = D3 e (D3 e o g) f := by
 by_cases hf : Ar f = Al e;rotate_left
 · have h1 : ∀ o, D3 e o f = o := fun o => if_neg hf;rw [h1, h1]
 by_cases hg : Ar g = Al e;rotate_left
 · have h1 : ∀ o, D3 e o g = o := fun o => if_neg hg;rw [h1, h1]
 have sf : ∀ o, D3 e o f = if f.kind = 7 then (if Ca o.last.1 o.last.2 f.rep f.seq = true then { o with last := Al f, name := f.name } else o)
  else if f.kind = 6 then { o with seen := Dn o.seen (A9 f.dep f.rep f.seq) } else o := fun o => if_pos hf
 have sg : ∀ o, D3 e o g = if g.kind = 7 then (if Ca o.last.1 o.last.2 g.rep g.seq = true then { o with last := Al g, name := g.name } else o)
  else if g.kind = 6 then { o with seen := Dn o.seen (A9 g.dep g.rep g.seq) } else o := fun o => if_pos hg
 rw [sf, sg, sg, sf];by_cases f7 : f.kind = 7
 · by_cases g7 : g.kind = 7
   · simp only [f7, g7, if_true];have key : ∀ a b : Bb, Ca a.1 a.2 b.1 b.2 = G1 a b := fun _ _ => rfl;by_cases c1 : G1 o.last (Al f) = true <;> by_cases c2 : G1 o.last (Al g) = true
     · have c1' : Ca o.last.1 o.last.2 f.rep f.seq = true := c1;have c2' : Ca o.last.1 o.last.2 g.rep g.seq = true := c2;simp only [c1', c2', if_true];by_cases c3 : Ca f.rep f.seq g.rep g.seq = true
       · have c4 : ¬ Ca g.rep g.seq f.rep f.seq = true := Va (a := Al f) (b := Al g) c3;simp only [c3, c4, if_true, if_false, Bool.false_eq_true]
       · have c4 : Ca g.rep g.seq f.rep f.seq = true := Pq (a := Al f) (b := Al g) c3 hne;simp only [c3, c4, if_true, if_false, Bool.false_eq_true]
     · have c1' : Ca o.last.1 o.last.2 f.rep f.seq = true := c1;have c2' : ¬ Ca o.last.1 o.last.2 g.rep g.seq = true := c2;have c3 : ¬ Ca f.rep f.seq g.rep g.seq = true := fun q => c2 (D5 c1 q);simp only [c1', c2', c3, if_true, if_false, Bool.false_eq_true]
     · have c1' : ¬ Ca o.last.1 o.last.2 f.rep f.seq = true := c1;have c2' : Ca o.last.1 o.last.2 g.rep g.seq = true := c2;have c3 : ¬ Ca g.rep g.seq f.rep f.seq = true := fun q => c1 (D5 c2 q);simp only [c1', c2', c3, if_true, if_false, Bool.false_eq_true]
     · have c1' : ¬ Ca o.last.1 o.last.2 f.rep f.seq = true := c1;have c2' : ¬ Ca o.last.1 o.last.2 g.rep g.seq = true := c2;simp only [c1', c2', if_false, Bool.false_eq_true]
   · simp only [if_pos f7, if_neg g7];by_cases g6 : g.kind = 6
     · simp only [if_pos g6];by_cases c1 : Ca o.last.1 o.last.2 f.rep f.seq = true
       · simp only [if_pos c1]
       · simp only [if_neg c1]
     · simp only [if_neg g6]
 · simp only [if_neg f7];by_cases f6 : f.kind = 6
   · simp only [if_pos f6];by_cases g7 : g.kind = 7
     · simp only [if_pos g7];by_cases c1 : Ca o.last.1 o.last.2 g.rep g.seq = true
       · simp only [if_pos c1]
       · simp only [if_neg c1]
     · simp only [if_neg g7];by_cases g6 : g.kind = 6
       · simp only [if_pos g6];rw [Gp, Tr (A9 f.dep f.rep f.seq), ← Gp]
       · simp only [if_neg g6]
   · simp only [if_neg f6]
theorem Xf {l m : List Evt} (hl : NodE l) (hm : NodE m) (h : l.Perm m) (e : Evt) : Cz l l e = Cz m m e := by
 unfold Cz;rw [Ah9 hl hm h];refine Jy h _ fun x hx y hy z => ?_;by_cases q : Al x = Al y
 · rw [Sv hl hx hy q]
 · exact Aim e z x y q
theorem Ajh {l m : List Evt} (hl : NodE l) (hm : NodE m) (h : l.Perm m) : (Ac l).objs = (Ac m).objs := by
 obtain ⟨s1, _, m1⟩ := Gu hl;obtain ⟨s2, _, m2⟩ := Gu hm;refine Mv s1 s2 fun x => ?_;rw [m1, m2];constructor
 · rintro ⟨g, hg, hc, rfl⟩; exact ⟨g, h.mem_iff.1 hg, hc, Xf hl hm h g⟩
 · rintro ⟨g, hg, hc, rfl⟩; exact ⟨g, h.mem_iff.2 hg, hc, (Xf hl hm h g).symm⟩
structure Wd where
 w : Nat → Int
 v : Vc
 r : Nat → Bool
def Fe (p : Wd) (e : Evt) : Wd :=
 if e.kind = 8 then (if Du p.v e.rep < e.seq then ⟨C4 p.w (e.rep - 1).toNat e.ward, A9 p.v e.rep e.seq, p.r⟩ else p)
 else if e.kind = 9 then ⟨p.w, p.v, C4 p.r (e.rep - 1).toNat true⟩ else p
def wG (m : List Evt) : Wd := m.foldl Fe ⟨fun _ => 0, fun _ => 0, fun _ => false⟩
theorem Adb (L : List Evt) : ∀ m : List Evt, (Ea L m).1.wards = (wG m).w ∧ (Ea L m).2 = (wG m).v ∧ (Ea L m).1.ret = (wG m).r :=
 Hw ⟨rfl, rfl, rfl⟩ fun m e ⟨h1, h2, h3⟩ => by
  rw [Hs, show wG (m ++ [e]) = Fe (wG m) e by simp [wG]];unfold J3 Fe;by_cases k12 : e.kind = 1 ∨ e.kind = 2
  · rw [if_pos k12, if_neg (by omega), if_neg (by omega)]; exact ⟨h1, h2, h3⟩
  rw [if_neg k12];by_cases k8 : e.kind = 8
  · rw [if_pos k8, if_pos k8, h2];split
    · exact ⟨by simp only [Ld, h1], by simp only [h2], h3⟩
    · exact ⟨h1, h2, h3⟩
  rw [if_neg k8, if_neg k8];by_cases k9 : e.kind = 9
  · rw [if_pos k9, if_pos k9]; exact ⟨h1, h2, by simp only [Ue, h3]⟩
  rw [if_neg k9, if_neg k9]; exact ⟨h1, h2, h3⟩
theorem W6 {α : Type} (g : Nat → α) {i j : Nat} (h : i ≠ j) (x y : α) : C4 (C4 g i x) j y = C4 (C4 g j y) i x := by
 funext k; unfold C4;by_cases h1 : k = i <;> by_cases h2 : k = j <;> simp_all
theorem W5 {α : Type} (g : Nat → α) (i : Nat) (x y : α) : C4 (C4 g i x) i y = C4 g i y := by
 funext k; unfold C4; split <;> simp_all
theorem Gg {v : Vc} {r : Int} {q : Nat} (hr : 1 ≤ r ∧ r ≤ 8) (r' : Int) : Du (A9 v r q) r' = if r' = r then max (Du v r) q else Du v r' := by
 unfold Du;by_cases h : r' = r
 · rw [h, if_pos hr, if_pos rfl, if_pos hr, D2 hr, if_pos rfl]
 · rw [if_neg h];by_cases h8 : 1 ≤ r' ∧ r' ≤ 8
   · rw [if_pos h8, if_pos h8, D2 hr, if_neg (by omega)]
   · rw [if_neg h8, if_neg h8]
theorem Ada (p : Wd) {e f : Evt} (he : 1 ≤ e.rep ∧ e.rep ≤ 8) (hf : 1 ≤ f.rep ∧ f.rep ≤ 8) (hne : Al e ≠ Al f) : Fe (Fe p e) f = Fe (Fe p f) e := by
 obtain ⟨w, v, r⟩ := p;by_cases e8 : e.kind = 8
 · by_cases f8 : f.kind = 8
   · have se : ∀ p, Fe p e = if Du p.v e.rep < e.seq then ⟨C4 p.w (e.rep - 1).toNat e.ward, A9 p.v e.rep e.seq, p.r⟩ else p := fun p => if_pos e8
     have sf : ∀ p, Fe p f = if Du p.v f.rep < f.seq then ⟨C4 p.w (f.rep - 1).toNat f.ward, A9 p.v f.rep f.seq, p.r⟩ else p := fun p => if_pos f8
     rw [se, sf, sf, se];simp only;by_cases hr : e.rep = f.rep
     · have hs : e.seq ≠ f.seq := fun q => hne (Prod.ext hr q);have hr' : (f.rep : Int) = e.rep := hr.symm;by_cases c1 : Du v e.rep < e.seq <;> by_cases c2 : Du v e.rep < f.seq
       · simp only [hr', c1, c2, if_true, Gg he];by_cases c3 : e.seq < f.seq
         · have d1 : max (Du v e.rep) e.seq < f.seq := by omega
           have d2 : ¬ max (Du v e.rep) f.seq < e.seq := by omega
           simp only [d1, d2, if_true, if_false, W5];congr 1;funext i;rw [D2 he, D2 he, D2 he];have : Du v e.rep = v (e.rep - 1).toNat := if_pos he;split
           · rename_i hi; rw [hi]; omega
           · rfl
         · have d1 : ¬ max (Du v e.rep) e.seq < f.seq := by omega
           have d2 : max (Du v e.rep) f.seq < e.seq := by omega
           simp only [d1, d2, if_true, if_false, W5];congr 1;funext i;rw [D2 he, D2 he, D2 he];have : Du v e.rep = v (e.rep - 1).toNat := if_pos he;split
           · rename_i hi; rw [hi]; omega
           · rfl
       · have d1 : ¬ max (Du v e.rep) e.seq < f.seq := by omega
         simp only [hr', c1, c2, d1, if_true, if_false, Gg he]
       · have d1 : ¬ max (Du v e.rep) f.seq < e.seq := by omega
         simp only [hr', c1, c2, d1, if_true, if_false, Gg he]
       · simp only [hr', c1, c2, if_false]
     · have hr' : ¬ f.rep = e.rep := fun q => hr q.symm;have hi : (e.rep - 1).toNat ≠ (f.rep - 1).toNat := by omega
       by_cases c1 : Du v e.rep < e.seq <;> by_cases c2 : Du v f.rep < f.seq
       · simp only [c1, c2, if_true, Gg he, Gg hf, if_neg hr, if_neg hr'];congr 1
         · exact W6 _ hi _ _
         · exact Mm v (Al e) (Al f)
       · simp only [c1, c2, if_true, if_false, Gg he, if_neg hr']
       · simp only [c1, c2, if_true, if_false, Gg hf, if_neg hr]
       · simp only [c1, c2, if_false]
   · by_cases f9 : f.kind = 9
     · unfold Fe;simp only [if_pos e8, if_neg f8, if_pos f9];split <;> rfl
     · have sf : ∀ p, Fe p f = p := fun p => by unfold Fe; rw [if_neg f8, if_neg f9]
       rw [sf, sf]
 by_cases e9 : e.kind = 9
 · by_cases f8 : f.kind = 8
   · unfold Fe;simp only [if_neg e8, if_pos e9, if_pos f8];split <;> rfl
   · by_cases f9 : f.kind = 9
     · unfold Fe;simp only [if_neg e8, if_pos e9, if_neg f8, if_pos f9];congr 1;by_cases hi : (e.rep - 1).toNat = (f.rep - 1).toNat
       · rw [hi]
       · exact W6 _ hi _ _
     · have sf : ∀ p, Fe p f = p := fun p => by unfold Fe; rw [if_neg f8, if_neg f9]
       rw [sf, sf]
 · have se : ∀ p, Fe p e = p := fun p => by unfold Fe; rw [if_neg e8, if_neg e9]
   rw [se, se]
theorem As1 {l m : List Evt} (hl : NodE l) (hr : ∀ e ∈ l, 1 ≤ e.rep ∧ e.rep ≤ 8) (h : l.Perm m) : wG l = wG m := by
 refine Jy h _ fun x hx y hy z => ?_;by_cases q : Al x = Al y
 · rw [Sv hl hx hy q]
 · exact Ada z (hr x hx) (hr y hy) q
theorem Afj {l m : List Evt} (hl : Val l) (hm : Val m) (h : l.Perm m) : Ac l = Ac m := by
 obtain ⟨a1, a2, a3⟩ := Adb l l;obtain ⟨b1, b2, b3⟩ := Adb m m;have hw := As1 hl.nod (Af7 hl) h;refine St.eq ?_ (Ajh hl.nod hm.nod h) ?_ ?_ ?_
 · rw [Be, Be, Aeo h]
 · rw [Hr, Hr, Akz hl.nod hm.nod h]
 · show (Ea l l).1.wards = (Ea m m).1.wards;rw [a1, b1, hw]
 · show (Ea l l).1.ret = (Ea m m).1.ret;rw [a3, b3, hw]
theorem Agn (L : List Evt) (i : Nat) : ∀ m : List Evt, (Ea L m).1.ret i = true ↔ ∃ e ∈ m, e.kind = 9 ∧ (e.rep - 1).toNat = i := by
 intro m;rw [(Adb L m).2.2];refine Hw (P := fun m => (wG m).r i = true ↔ ∃ e ∈ m, e.kind = 9 ∧ (e.rep - 1).toNat = i) (by simp [wG]) (fun m e ih => ?_) m;rw [show wG (m ++ [e]) = Fe (wG m) e by simp [wG]];have grow : (∃ f ∈ m ++ [e], f.kind = 9 ∧ (f.rep - 1).toNat = i) ↔ (∃ f ∈ m, f.kind = 9 ∧ (f.rep - 1).toNat = i) ∨ (e.kind = 9 ∧ (e.rep - 1).toNat = i) := by
  simp only [List.mem_append, List.mem_singleton];constructor
  · rintro ⟨f, hf | rfl, h⟩
    · exact .inl ⟨f, hf, h⟩
    · exact .inr h
  · rintro (⟨f, hf, h⟩ | h)
    · exact ⟨f, .inl hf, h⟩
    · exact ⟨e, .inr rfl, h⟩
 rw [grow, ← ih];unfold Fe;by_cases h8 : e.kind = 8
 · rw [if_pos h8];have : ¬ e.kind = 9 := by omega
   split <;> simp [this]
 rw [if_neg h8];by_cases h9 : e.kind = 9
 · rw [if_pos h9];simp only [C4];by_cases hi : i = (e.rep - 1).toNat
   · rw [if_pos hi]; simp [h9, hi]
   · rw [if_neg hi]; exact ⟨.inl, fun q => q.resolve_right fun q => hi q.2.symm⟩
 · rw [if_neg h9]; simp [h9]
theorem Aj1 {l m : List Evt} (hl : Val l) (hm : Val m) (h : ∀ x ∈ l, x ∈ m) {i : Bb} (k : A4 (Af l) i.1 i.2 = true) : A4 (Af m) i.1 i.2 = true := by
 obtain ⟨e, he, hi⟩ := hl.has.1 k;exact hm.has.2 ⟨e, h e he, hi⟩
theorem Aby {l m : List Evt} (hl : Val l) (hm : Val m) (h : ∀ x ∈ l, x ∈ m) : Mr (Af l) (Af m) := fun i hi => by
 by_cases h0 : Af l i = 0
 · omega
 · have h1 : A4 (Af l) ((i : Int) + 1, Af l i).1 ((i : Int) + 1, Af l i).2 = true := by
    rw [Fs];simp only;have : ((i : Int) + 1 - 1).toNat = i := by omega
    rw [this]; omega
   have h2 := Aj1 hl hm h h1;rw [Fs] at h2;simp only at h2;have : ((i : Int) + 1 - 1).toNat = i := by omega
   rw [this] at h2; omega
theorem Xg {l m : List Evt} (hl : Val l) (hm : Val m) (h : ∀ x ∈ l, x ∈ m) {i : Bb} {o : Obj} (ho : Dp (Ac l).objs i = some o) : ∃ o', Dp (Ac m).objs i = some o' ∧ o'.dir = o.dir ∧ ∃ f ∈ l, o = Cz l l f ∧ o' = Cz m m f := by
 obtain ⟨h1, h2⟩ := Ur ho;obtain ⟨f, hf, hk, rfl⟩ := ((Gu hl.nod).2.2 o).1 h1;obtain ⟨s2, _, m2⟩ := Gu hm.nod;have := Aji s2 ((m2 _).2 ⟨f, h f hf, hk, rfl⟩);rw [My] at h2 this;rw [h2] at this;have hd : ∀ (L : List Evt), ∀ m : List Evt, (Cz L m f).dir = decide (f.kind = 2) := fun L => Hw rfl fun m g ih => by
  rw [Jo, (Adm f g _).2.1, ih]
 exact ⟨_, this, by rw [hd, hd], f, hf, rfl, rfl⟩
theorem Ach {l m : List Evt} (hl : Val l) (hm : Val m) (h : ∀ x ∈ l, x ∈ m) {i : Bb} (k : H8 (Ac l).objs i = 0) : H8 (Ac m).objs i = 0 := by
 rw [Afc] at k ⊢;by_cases h0 : i = (0, 0)
 · rw [if_pos h0]
 rw [if_neg h0] at k ⊢;cases ho : Dp (Ac l).objs i with
 | none => rw [ho] at k; cases k
 | some o =>
   rw [ho] at k;obtain ⟨o', h1, h2, _⟩ := Xg hl hm h ho;rw [h1];simp only at k ⊢;rw [h2]; exact k
theorem Axl {l m : List Evt} {e : Evt} (hl : Val l) (hm : Val m) (h : ∀ x ∈ l, x ∈ m) (ha : Acc (Ac l) e) (hnew : ∀ f ∈ m, Al f ≠ Al e) (hret : ∀ f ∈ m, f.kind = 9 → f.rep = e.rep → f ∈ l) : Acc (Ac m) e := by
 refine ⟨ha.ck, ?_, fun i hi => ?_, ?_, ?_⟩
 · cases hq : A4 (Ac m).known e.rep e.seq with
   | false => rfl
   | true =>
     rw [Be] at hq;obtain ⟨f, hf, hi⟩ := (hm.has (i := Al e)).1 hq;exact absurd hi (hnew f hf)
 · have h1 := ha.dep i hi;rw [Be] at h1 ⊢;exact Nat.le_trans h1 (Aby hl hm h i hi)
 · cases hq : (Ac m).ret (e.rep - 1).toNat with
   | false => rfl
   | true =>
     obtain ⟨f, hf, hk, hi⟩ := (Agn m _ m).1 hq;have hb := Cd ha.ck;have hfr := Af7 hm f hf;have hr : f.rep = e.rep := by have := hb.1; have := hb.2.1; omega
     have := (Agn l (e.rep - 1).toNat l).2 ⟨f, hret f hf hk hr, hk, hi⟩;have h4 : (Ea l l).1.ret (e.rep - 1).toNat = false := ha.ret;rw [h4] at this; cases this
 · have hw := ha.why;unfold Tm at hw ⊢;by_cases h89 : e.kind = 8 ∨ e.kind = 9
   · rw [if_pos h89]
   rw [if_neg h89] at hw ⊢;by_cases h12 : e.kind = 1 ∨ e.kind = 2
   · rw [if_pos h12] at hw ⊢; exact Ach hl hm h hw
   rw [if_neg h12] at hw ⊢;cases ho : Dp (Ac l).objs (Ar e) with
   | none => rw [ho] at hw; cases hw
   | some o =>
     rw [ho] at hw;obtain ⟨o', h1, h2, f, hf, rfl, rfl⟩ := Xg hl hm h ho;rw [h1];simp only at hw ⊢;by_cases h7 : e.kind = 7
     · rw [if_pos h7] at hw ⊢; exact Ach hl hm h hw
     rw [if_neg h7] at hw ⊢;by_cases h6 : e.kind = 6
     · rw [if_pos h6]
     rw [if_neg h6, h2];rw [if_neg h6] at hw;by_cases hd : (Cz l l f).dir = true
     · rw [if_pos hd] at hw; cases hw
     rw [if_neg hd] at hw ⊢;by_cases hmi : Ds (Cz l l f).vers e.base.l
     · rw [if_pos hmi] at hw; cases hw
     rw [if_neg];rintro ⟨b, hb, hn⟩;refine hmi ⟨b, hb, ?_⟩;rw [Ky] at hn ⊢;intro v hv hs;rw [Mx] at hv hn;obtain ⟨g, hg, hc, rfl⟩ := ((C8 hl.nod (Al f)).2.2 v).1 hv;exact hn (Hc m m g) (((C8 hm.nod (Al f)).2.2 _).2 ⟨g, h g hg, hc, rfl⟩) hs
theorem Hp {α : Type} : ∀ {l m : List α}, l.Nodup → (∀ x ∈ l, x ∈ m) → l.length ≤ m.length
 | [], m, _, _ => Nat.zero_le _
 | x :: l, m, h, hs => by
   obtain ⟨h1, h2⟩ := List.nodup_cons.1 h;obtain ⟨a, b, rfl⟩ := List.append_of_mem (hs x List.mem_cons_self);have := Hp (m := a ++ b) h2 fun y hy => by
    have := hs y (List.mem_cons_of_mem _ hy);rcases List.mem_append.1 this with h | h
    · exact List.mem_append_left _ h
    · rcases List.mem_cons.1 h with h | h
      · subst h; exact absurd hy h1
      · exact List.mem_append_right _ h
   simp only [List.length_append, List.length_cons] at this ⊢;omega
theorem Aug {l m : List Evt} (hl : Val l) (hm : Val m) (h : ∀ x, x ∈ l ↔ x ∈ m) : l.Perm m := (List.perm_ext_iff_of_nodup (Eh hl.nod) (Eh hm.nod)).2 h
end Go.Proofs.Ythmjebkldgdeiaa.Fw
namespace Go.Proofs.Ythmjebkldgdeiaa.Fw
open Go.RowKit Go.Proofs
variable {P : Program}
theorem Aqh (hm : P.follows .mixedOrders = true) {f N' : Nat} {rs : List Rv} {c : C} (hf : A6 P f = some (N', rs, c)) {args : List SV} {h : Nat → Option Blk} {d : Nat} {x : SV} (hlen : args.length ≤ N')
 (hargs : SV.closedL args = true) (hx : x.closed = true) (hrun : ∀ F, sx (Oc P F N') c (Alz rs fun y g => ∃ n, y = .p n 0 ∧ g.h n = some (.var x)) (mk (Cp 0 args) [])) :
 FunOk P f args h d (.p d 0) [.new d (.var x)] := by
 obtain ⟨h1, h2, h3⟩ := Bx hargs;refine ⟨Cc hf, fun F N ρ s a w hR hh vs hc => ?_⟩;refine Calls.mono (De hm hf (h := h) hlen h2 Yx (by rw [h3]; exact hrun) hR hh hc) fun e w' he => ?_;obtain ⟨v, rfl, hg, N'', ρ', s', a', y, hR', hy, n, rfl, hn⟩ := he;rw [h1, C7] at hR' hy;simp only [Conc] at hy;obtain ⟨b0, hy1, hy2⟩ := hy;obtain ⟨b, vs', ty, fr, u, g1, g2, g3, g4, g5, g6, g7⟩ := hR'.own n _ hn;have hown : ∀ b, B0 (ρ' n) = some b → w.heap.size ≤ b ∧ b < w'.heap.size := fun b hb => by
  have ho : Bu ρ' s'.h b := ⟨n, _, hn, hb⟩
  exact ⟨(hR'.may b ho).resolve_right id, hR'.lt ho⟩
 have hle : (vw ⟨w, fun _ => False, F.out ρ s.h, fun _ => undef, []⟩ w' ρ' s').le (Ap w' (F.out (upd ρ d (ρ' n)) ((s.kill d).seth d (some (.var x))).h)) := A8 fun b' c' hno hc' => ⟨fun hb' => hno (by
  rcases hb' with ⟨m, z, hm1, hm2⟩ | hb'
  · simp only [FS.seth, FS.kill] at hm1;by_cases hmd : m = d
    · subst hmd;rw [Aq] at hm2;exact .inl ⟨n, _, hn, hm2⟩
    · rw [Bd hmd] at hm2;simp only [hmd, if_false] at hm1;obtain ⟨z', hz', _⟩ := Option.map_eq_some_iff.1 hm1;exact .inr (.inl ⟨m, z', hz', hm2⟩)
  · exact .inr (.inr hb')), hc'⟩
 have hnew := hR.adopt hg d (.var x) (ρ' n) hown fun hV => ⟨b, vs', ty, fr, u, by rw [Aq]; exact g1, g2, g3, Bj hle hx g4, g5, g6, g7⟩
 refine ⟨v, _, rfl, hnew.1, ?_⟩;simp only [Conc];exact ⟨b0, by rw [Aq]; exact hy1, hy2⟩
end Go.Proofs.Ythmjebkldgdeiaa.Fw
namespace Go.Proofs.Ythmjebkldgdeiaa.Fw
open Go.RowKit Go.Proofs
theorem Xd {f : Bool} {z : Nat} {es : List (List PV)} {h d} (hz : es = [] ∨ z = 2) (hb : es.length ≤ 1000) : FunOk Try.prog 51 [.pv (.sl f z es)] h d (.pv (.sl false 2 es)) [] := by
 refine Vi An fn51 (by simp) rfl fun F => ?_;simp (disch := omega) only [ir51, go_sem];intro b hb';cases b
 · simp (disch := omega) only [go_sem]
 · have he : es = [] := by
    cases es with
    | nil => rfl
    | cons c l => exact absurd (hb' (by simp)) (by simp)
   subst he
   (try simp only [Ii, Ih, Ig, Ie, Ic, Ib, Ia, H9]); simp (disch := omega) only [go_sem]
   decide
theorem Abf {f : Bool} {z : Nat} {es : List (List PV)} (hz : es = [] ∨ z = 21) {h d} : FunOk Try.prog 30 [.pv (.sl f z es)] h d (.pv (.sl true z es)) [] := by
 refine Ax An fn30 (by simp) rfl rfl fun F => ?_;have e := List.take_length (l := es);simp (disch := omega) only [ir30, hz, e, List.drop_zero, go_sem]
def En (e : Evt) : Evt := { e with gone := ⟨false, 2, e.gone.l⟩, base := ⟨false, 2, e.base.l⟩ }
theorem Ahz {e : Evt} (h : ev e) : ev (En e) := ⟨.inr rfl, .inr rfl, h.2.2.1, h.2.2.2.1, h.2.2.2.2⟩
theorem Am0 (e : Evt) (g : SlI) : splice (Bo e) 16 [g.pv] = Bo { e with gone := g } := by
 simp only [splice, Bo, vE, Br]; rfl
theorem Am2 (e : Evt) (g : SlI) : splice (Bo e) 17 [g.pv] = Bo { e with base := g } := by
 simp only [splice, Bo, vE, Br]; rfl
theorem Qw (e : Evt) (he : ev e) {h d} : FunOk Try.prog 31 [.vec 21 (Bo e)] h d (.vec 21 (Bo (En e))) [] := by
 refine Ax An fn31 (by simp) rfl rfl fun F => ?_;obtain ⟨h1, h2, h3, h4, h5⟩ := he;have hg : e.gone.pv = .sl e.gone.f e.gone.z (e.gone.l.map H5) := rfl;have hb : e.base.pv = .sl e.base.f e.base.z (e.base.l.map H5) := rfl;have hel := Bn e;have s1 := Am0 e ⟨false, 2, e.gone.l⟩;have s2 := Am2 { e with gone := ⟨false, 2, e.gone.l⟩ } ⟨false, 2, e.base.l⟩;simp only [SlI.pv] at s1 s2;simp (disch := omega) only [ir31, Kq, Hi, hg, hb, go_sem];refine Aa (Xd (es := e.gone.l.map H5) (h1.imp (fun q => by rw [q]; rfl) id) (by rw [List.length_map]; omega)) ?_;simp (disch := omega) only [Hi, hb, go_sem];refine Aa (Xd (es := e.base.l.map H5) (h2.imp (fun q => by rw [q]; rfl) id) (by rw [List.length_map]; omega)) ?_;simp (disch := omega) only [hel, s1, s2, Bq, go_sem];rfl
def Anl (S : St) (fl : Vc) (f : Bool) (z : Nat) (L : List Evt) : List SV := Bl S ++ [.vec 8 (vE fl), .pv (.sl f z (L.map Bo))]
def Lk (S : St) (fl : Vc) (L : List Evt) : SV := .agg (Anl S fl false 21 L)
theorem Pa {S : St} (hS : Fine S) {h d} : FunOk Try.prog 9 [.agg (Bl S)] h d (.p d 0) [.new d (.var (Lk S S.known []))] := by
 refine Aqh An fn9 (by simp) rfl rfl fun F => ?_;simp (disch := omega) only [ir9, Bl, A7, go_sem];refine Aa (Xc (s := S) hS) ?_;simp (disch := omega) only [Bl, A7, go_sem];have hi : Imp (.agg (Bl S ++ [.vec 8 (vE S.known), .pv (.sl true 0 [])])) (Lk S S.known []) :=
  U9 (l := [.vec 8 (vE S.known), .pv (.sl false 15 (S.objs.map A1)), .pv (.sl false 15 (S.ents.map Bm)), .vec 8 (iE S.wards), .vec 8 (wE S.ret), .vec 8 (vE S.known), .pv (.sl true 0 [])]) (m := [.vec 8 (vE S.known), .pv (.sl false 15 (S.objs.map A1)), .pv (.sl false 15 (S.ents.map Bm)), .vec 8 (iE S.wards), .vec 8 (wE S.ret), .vec 8 (vE S.known), .pv (.sl false 21 [])]) ⟨⟨Imp.refl _, rfl⟩, ⟨Imp.refl _, rfl⟩, ⟨Imp.refl _, rfl⟩, ⟨Imp.refl _, rfl⟩, ⟨Imp.refl _, rfl⟩, ⟨Imp.refl _, rfl⟩, ⟨U7 (Hg (fun q => by cases q) (.inl rfl) (.refl _)), rfl⟩, trivial⟩
 refine ⟨mk [(2, .p 8 0)] [(8, some (.var (Lk S S.known [])))], A2 ?_ ?_, ?_⟩
 · simp (disch := omega) only [go_sem]
 · simp (disch := omega) only [go_sem];exact ⟨hi, rfl⟩
 (try simp only [Ii, Ih, Ig, Ie, Ic, Ib, Ia, H9]); simp (disch := omega) only [go_sem]
 exact ⟨8, rfl, if_pos rfl⟩
end Go.Proofs.Ythmjebkldgdeiaa.Fw
namespace Go.Proofs.Ythmjebkldgdeiaa.Fw
open Go.RowKit Go.Proofs
theorem Jm {S : St} {fl : Vc} {L : List Evt}  {g : Nat} {h d} (hg : h g = some (.var (Lk S fl L))) : FunOk Try.prog 12 [.p g 0] h d (.vec 8 (vE S.known)) [] := by
 refine FunOk.quiet (g := g) (blk := .var (Lk S fl L)) ?_ hg (by simp [Aw, tn]);refine FunOk.io (fun h d hg => ?_) rfl rfl rfl rfl hg;refine Hj (g := 900) An fn12 (by simp) (by simp [Aw, tn]) (by simp [Aw, tn]) hg rfl (by simp [Blk.ptr, SV.kill]) rfl (fun _ => rfl) fun F => ?_;simp (disch := omega) only [ir12, Lk, Anl, Bl, A7, Blk.ptr, List.length_map, List.cons_append, List.nil_append, go_sem]
 skip
 refine ⟨_, .same _, ?_⟩
 (try simp only [Ii, Ih, Ig, Ie, Ic, Ib, Ia, H9]); simp (disch := omega) only [go_sem]
 exact ⟨900, rfl, rfl⟩
theorem O9 {S : St} {fl : Vc} {L : List Evt} (hS : Fine S) {g : Nat} {h d} (hg : h g = some (.var (Lk S fl L))) : FunOk Try.prog 19 [.p g 0] h d (.agg (Bl S)) [] := by
 refine FunOk.quiet (g := g) (blk := .var (Lk S fl L)) ?_ hg (by simp [Aw, tn]);refine FunOk.io (fun h d hg => ?_) rfl rfl rfl rfl hg;refine Hj (g := 900) An fn19 (by simp) (by simp [Aw, tn]) (by simp [Aw, tn]) hg rfl (by simp [Blk.ptr, SV.kill]) rfl (fun _ => rfl) fun F => ?_;simp (disch := omega) only [ir19, Lk, Anl, Bl, A7, Blk.ptr, List.cons_append, List.nil_append, go_sem];refine Aa (Xc (s := S) hS) ?_;simp (disch := omega) only [Bl, A7, go_sem];refine ⟨_, .same _, ?_⟩
 (try simp only [Ii, Ih, Ig, Ie, Ic, Ib, Ia, H9]); simp (disch := omega) only [go_sem]
 exact ⟨900, rfl, rfl⟩
def A2z (m : Nat) (v : Vc) (L : List Evt) : SV := .fn (.func m) [.pi 1 [[.sl true 21 (L.map Bo)]] 0 0, .pi 8 [vE v] 0 0]
theorem An1 {S : St} {fl : Vc} {L : List Evt} (v : Vc) (hv : Mr fl v) {g : Nat} {h d} (hg : h g = some (.var (Lk S fl L))) : FunOk Try.prog 13 [.p g 0, .vec 8 (vE v)] h d (.tup [A2z 33 v L, .pv (.i .i64 0)]) [] := by
 refine FunOk.quiet (g := g) (blk := .var (Lk S fl L)) ?_ hg (by simp [Aw, tn]);refine FunOk.io (fun h d hg => ?_) rfl rfl rfl rfl hg;refine Hj (g := 900) An fn13 (by simp) (by simp [Aw, tn]) (by simp [Aw, tn]) hg rfl (by simp [Blk.ptr, SV.kill]) rfl (fun _ => rfl) fun F => ?_;have hv' := decide_eq_true hv;simp (disch := omega) only [ir13, Lk, Anl, Bl, A7, Blk.ptr, List.cons_append, List.nil_append, go_sem];refine Aa (Axy _ _) ?_;simp (disch := omega) only [hv', go_sem];refine Aa (Abf (.inr rfl)) ?_;simp (disch := omega) only [A2z, go_sem];refine ⟨_, Af4 6 (x := .pv (.sl true 21 (L.map Bo))) (cs := [.sl true 21 (L.map Bo)]) rfl rfl (Af4 3 (x := .vec 8 (vE v)) (cs := vE v) rfl rfl (.same _)), ?_⟩
 (try simp only [Ii, Ih, Ig, Ie, Ic, Ib, Ia, H9]); simp (disch := omega) only [go_sem]
 exact ⟨900, rfl, rfl⟩
noncomputable def Nr (S : St) (e : Evt) : St := if Fk S e = 0 then Fx S e else S
open Classical in
noncomputable def P7 (S : St) (L : List Evt) (e : Evt) : List Evt := if Fk S e = 0 then L ++ [En e] else L
set_option maxHeartbeats 2000000 in
theorem Uo {S : St} {fl : Vc} {L : List Evt} {e : Evt} (hs : StIn S) (he : ev e) (hn : L.length ≤ 1000) {g : Nat} {h d} (hg : h g = some (.var (Lk S fl L))) : FunOk Try.prog 10 [.p g 0, .vec 21 (Bo e)] h d (.pv (.i .i64 (Fk S e))) [.upd g (.var (Lk (Nr S e) fl (P7 S L e)))] := by
 refine FunOk.io (fun h d hg => ?_) rfl rfl rfl rfl hg;refine Hj (g := 900) An fn10 (by simp) (by simp [Aw, tn]) (by simp [Aw, tn]) hg rfl (by simp [Blk.ptr, SV.kill]) rfl (fun _ => rfl) fun F => ?_;have hel := Bn e;have hel2 := Bn (En e);simp (disch := omega) only [ir10, Lk, Anl, Bl, A7, Blk.ptr, List.cons_append, List.nil_append, Bq, hel, go_sem];refine Aa (Ag3 (s := S) hs he) ?_;by_cases hw : Fk S e = 0
 · have e1 : Yy S e = Nr S e := by unfold Yy Nr; rw [if_pos hw, if_pos hw]
   have e2 : P7 S L e = L ++ [En e] := if_pos hw;rw [e1, hw];simp (disch := omega) only [Bl, A7, go_sem];refine Aa (Abf (.inr rfl)) ?_;simp (disch := omega) only [Bq, hel, go_sem];refine Aa (Qw e he) ?_;simp (disch := omega) only [hel2, go_sem];refine ⟨fun q => (by cases q), _, I7 34 rfl (.same _), ?_⟩
   (try simp only [Ii, Ih, Ig, Ie, Ic, Ib, Ia, H9]); simp (maxSteps := 10000000) (disch := omega) only [e2, List.map_append, List.map_cons, List.map_nil, go_sem]
   exact ⟨900, rfl, rfl⟩
 · have e1 : Nr S e = S := if_neg hw;have e2 : P7 S L e = L := if_neg hw;rw [e1, e2];simp (disch := omega) only [Bl, A7, hw, go_sem];refine ⟨_, .same _, ?_⟩
   (try simp only [Ii, Ih, Ig, Ie, Ic, Ib, Ia, H9]); simp (disch := omega) only [go_sem]
   exact ⟨900, rfl, rfl⟩
def M8 : Evt := ⟨1, 1, fun _ => 0, 1, 0, 0, 0, 0, [97], .nil, .nil, 0, [], 0⟩
theorem A9p : Bz M8 = true := by
 have h1 : Wf M8 := ⟨by decide, by decide, by decide, by decide, rfl, by decide, by decide⟩
 have h2 : Al1 M8 := fun i _ => by simp [M8]
 rw [Arj h1 h2, A3e rfl, Ahb rfl];decide
theorem A1u : ev M8 := ⟨.inl rfl, .inl rfl, by decide, by decide, by decide⟩
theorem Ax6 : Acc (Ac []) M8 := ⟨A9p, rfl, fun i _ => Nat.le_refl _, rfl, rfl⟩
theorem Af5 : Fk (Ac []) M8 = 0 := Hm.2 Ax6
theorem A65 : Ac [M8] = Fx (Ac []) M8 := K6 (l := []) Val.nil Ax6
theorem A74 : Nr (Ac []) M8 = Ac [M8] := by unfold Nr; rw [if_pos Af5, A65]
theorem A20 : P7 (Ac []) [] M8 = [En M8] := by unfold P7; rw [if_pos Af5]; rfl
theorem Vk : Fine (Ac []) := (Ll Val.nil (by simp)).fine
theorem A87 (n : Nat) (S : St) (fl : Vc) (L : List Evt) : SV.kill n (Lk S fl L) = Lk S fl L := rfl
theorem A8l (S : St) (fl : Vc) (L : List Evt) : SV.width (Lk S fl L) = 35 := rfl
theorem A9i (n : Nat) (p : PV) (S : St) (fl : Vc) (L : List Evt) : SV.frz n p (Lk S fl L) = Lk S fl L := rfl
attribute [go_sem] A87 A8l A9i
theorem Zj : (Ac []).known = fun _ => 0 := rfl
theorem A0n (es : List (List PV)) (f : Bool) (z : Nat) (K : KK) : LoadK (some [.sl f z es]) 0 1 false K = K (.pv (.sl f z es)) [] := by
 simp only [LoadK, Fz, eq_iff_iff];exact ⟨fun h => h.2.2, fun h => ⟨by simp, .inr trivial, h⟩⟩
theorem A33 (p : Nat) (hp : p < 1000) : ∀ q ∈ [p], q < Gz := by
 intro q hq;have : Gz = 1000000 := rfl;simp at hq; omega
end Go.Proofs.Ythmjebkldgdeiaa.Fw
namespace Go.Proofs.Ythmjebkldgdeiaa.Fw
open Go.RowKit Go.Proofs
def Ah5 (l : List Evt) : Prop := l.length ≤ 25 ∧ ∀ e ∈ l, Axq e
open Classical in
noncomputable def Xv (l : List Evt) : Bool := decide (Ah5 l)
theorem Ahu {l : List Evt} (h : Ah5 l) : Xv l = true := by simp [Xv, h]
theorem Zw {l : List Evt} (h : ¬ Ah5 l) : Xv l = false := by simp [Xv, h]
def Nx (f : Bool) (l : List Evt) (k : Nat) : FS := mk [(10, .pv (.i .i64 k)), (9, .pv (.i .i64 l.length)), (8, .pv (.sl f 21 (l.map Bo)))] []
theorem Atb {T : List Evt} {e : Evt} (h : Val T) (he : ev e) : Val (Qj T e) ∧ (Qj T e).length ≤ T.length + 1 := by
 unfold Qj;split
 · rename_i hw; exact ⟨Val.snoc h he hw, by simp⟩
 · exact ⟨h, by omega⟩
end Go.Proofs.Ythmjebkldgdeiaa.Fw
namespace Go.Proofs.Ythmjebkldgdeiaa.Fw
open Go.RowKit
variable {P : Program} {F : Fr} {N : Nat} {ρ ρ' : Nat → Value} {s : FS} {a : Act} {w w' : World} {V V' : View}
end Go.Proofs.Ythmjebkldgdeiaa.Fw
namespace Go.Proofs.Ythmjebkldgdeiaa.Fw
open Go.RowKit Go.Proofs
def Iz (P : Evt → Bool) (l : List Evt) : List Evt := l.filter fun v => !P v
theorem Aeu {P : Evt → Bool} {l : List Evt} {k : Nat} {v : Evt} (hv : l[k]? = some v) : Iz P (l.take (k + 1)) = Iz P (l.take k) ++ if P v = true then [] else [v] := by
 unfold Iz;rw [List.take_add_one, hv, List.filter_append];congr 1;cases hp : P v <;> simp [hp]
def Bt (v : Vc) (T : List Evt) : List Evt := Iz (fun e => A4 v e.rep e.seq) T
structure HAct where
 kind : Int
 v : Vc
 stop : Int
abbrev Tb := Nat → Vc
def Cs (t : Tb) (rep : Int) (v : Vc) : Tb := fun i => if (i : Int) + 1 = rep then Dn (t i) v else t i
def La (a b : Tb) : Tb := fun i => Dn (a i) (b i)
theorem Ec (t : Tb) (rep : Int) (v : Vc) (i j : Nat) : Cs t rep v i j = if (i : Int) + 1 = rep then max (t i j) (v j) else t i j := by
 unfold Cs Dn; split <;> rfl
theorem Mu (a b : Tb) (i j : Nat) : La a b i j = max (a i j) (b i j) := rfl
theorem Amk (t : Tb) (rep : Int) (v : Vc) (k : Nat) (h : rep = k + 1) : tE (C4 t k (Dn (t k) v)) = tE (Cs t rep v) :=
 Tx fun i hi j hj => by
  unfold C4 Cs;by_cases e : i = k
  · subst e; rw [if_pos rfl, if_pos (by omega)]
  · rw [if_neg e, if_neg (by omega)]
theorem Rw (t : Tb) (rep : Int) (v : Vc) (h : rep < 1 ∨ 8 < rep) : tE (Cs t rep v) = tE t :=
 Tx fun i hi j hj => by unfold Cs; rw [if_neg (by omega)]
theorem Agx (t : Tb) (rep : Int) (v : Vc) (hr : -9223372036854775808 ≤ rep ∧ rep < 9223372036854775808) {h d} : FunOk Try.prog 44 [.vec 64 (tE t), .pv (.i .i64 rep), .vec 8 (vE v)] h d (.vec 64 (tE (Cs t rep v))) [] := by
 refine Ax An fn44 (by simp) rfl rfl fun F => ?_;by_cases h1 : 1 ≤ rep ∧ rep ≤ 8
 · obtain ⟨k, rfl⟩ : ∃ k : Nat, rep = k + 1 := ⟨rep.toNat - 1, by omega⟩
   have e1 : ((k : Int) + 1 - 1) = k := by omega
   simp (disch := omega) only [ir44, e1, go_sem];refine Aa (Aec _ _) ?_;simp (disch := omega) only [e1, go_sem];rw [Amk _ _ _ _ rfl]
 · by_cases h2 : rep < 1
   · simp (disch := omega) only [ir44, Rw, go_sem]
   · simp (disch := omega) only [ir44, Rw, go_sem]
def Yn (a b : Tb) (k : Nat) : FS := mk [(8, .pv (.i .i64 k)), (7, .vec 64 (tE b)), (4, .p 4 0), (2, .p 2 0)] [(2, some (.var (.vec 64 (tE fun i => if i < k then La a b i else a i)))), (4, some (.var (.vec 64 (tE fun _ _ => 0))))]
theorem Auk (a b : Tb) {h d} : FunOk Try.prog 45 [.vec 64 (tE a), .vec 64 (tE b)] h d (.vec 64 (tE (La a b))) [] := by
 refine Ax An fn45 (by simp) rfl rfl fun F => ?_;simp (disch := omega) only [ir45, go_sem];refine Bc An (Yn a b) (fun k => k ≤ 8) (fun k => 8 - k) 0 (by simp) (A2 ?_ ?_) fun k hk => ?_
 · simp (disch := omega) only [go_sem]
 · simp (disch := omega) only [Atc, go_sem]
 by_cases hlt : k < 8
 · simp (disch := omega) only [Yn, go_sem];refine Aa (Aec _ _) ?_;simp (disch := omega) only [go_sem];refine Av (k + 1) _ _ rfl (by omega) (by omega) ?_ ?_
   · simp (disch := omega) only [go_sem]
   · simp (disch := omega) only [go_sem];exact Ahf (Adk _ _ _ fun i hi => by simp [La])
 · simp (disch := omega) only [Yn, Ayk, go_sem]
end Go.Proofs.Ythmjebkldgdeiaa.Fw
namespace Go.Proofs.Ythmjebkldgdeiaa.Fw
open Go.RowKit Go.Proofs
structure Msg where
 k : Int
 fr : Int
 to : Int
 kn : Vc
 tb : Nat → Vc
 f : Bool
 z : Nat
 evs : List Evt
def H7 (m : Msg) : List PV := [.i .i64 m.k, .i .i64 m.fr, .i .i64 m.to] ++ vE m.kn ++ tE m.tb ++ [.sl m.f m.z (m.evs.map Bo)]
def Qn (m : Msg) (x : SV) : List SV := [.pv (.i .i64 m.k), .pv (.i .i64 m.fr), .pv (.i .i64 m.to), .vec 8 (vE m.kn), .vec 64 (tE m.tb), x]
def Jb (m : Msg) : List SV := Qn m (.pv (.sl m.f m.z (m.evs.map Bo)))
theorem Abk (m : Msg) : (H7 m).length = 76 := by simp [H7, vE, tE, Br]
theorem Ad0 (m : Msg) : SV.cellsL? (Jb m) = some (H7 m) := rfl
theorem A0s (m : Msg) (K : KK) : LoadK (some (H7 m)) 0 1 false K = K (.pv (.i .i64 m.k)) [] := by
 simp only [LoadK, Fz, eq_iff_iff];exact ⟨fun h => h.2.2, fun h => ⟨by simp [H7, vE, tE, Br], .inr trivial, h⟩⟩
theorem A0r (m : Msg) (K : KK) : LoadK (some (H7 m)) 1 1 false K = K (.pv (.i .i64 m.fr)) [] := by
 simp only [LoadK, Fz, eq_iff_iff];exact ⟨fun h => h.2.2, fun h => ⟨by simp [H7, vE, tE, Br], .inr trivial, h⟩⟩
theorem A0q (m : Msg) (K : KK) : LoadK (some (H7 m)) 2 1 false K = K (.pv (.i .i64 m.to)) [] := by
 simp only [LoadK, Fz, eq_iff_iff];exact ⟨fun h => h.2.2, fun h => ⟨by simp [H7, vE, tE, Br], .inr trivial, h⟩⟩
theorem Ave (m : Msg) (K : KK) : LoadK (some (H7 m)) 75 1 false K = K (.pv (.sl m.f m.z (m.evs.map Bo))) [] := by
 simp only [LoadK, Fz, eq_iff_iff];exact ⟨fun h => h.2.2, fun h => ⟨by simp [H7, vE, tE, Br], .inr trivial, h⟩⟩
theorem A0p (m : Msg) (K : KK) : LoadK (some (H7 m)) 3 8 true K = K (.vec 8 (vE m.kn)) [] := by
 simp only [LoadK, Fz, eq_iff_iff];exact ⟨fun h => h.2.2, fun h => ⟨by simp [H7, vE, tE, Br], .inl trivial, h⟩⟩
theorem A0o (m : Msg) (K : KK) : LoadK (some (H7 m)) 11 64 true K = K (.vec 64 (tE m.tb)) [] := by
 simp only [LoadK, Fz, eq_iff_iff];exact ⟨fun h => h.2.2, fun h => ⟨by simp [H7, vE, tE, Br], .inl trivial, h⟩⟩
attribute [go_sem] A0s A0r A0q Ave A0p A0o Abk
theorem U8 (m : Msg) : Imp (.agg (Jb m)) (.vec 76 (H7 m)) := Pp (Ad0 m) (Abk m)
theorem Oo (m : Msg) : Aw (Jb m) = [] := by simp [Jb, Qn, Aw, tn]
def Ac4 (m : Msg) : Prop := (m.k = 1 ∨ m.k = 2) ∧ (1 ≤ m.fr ∧ m.fr ≤ 8) ∧ (1 ≤ m.to ∧ m.to ≤ 8) ∧ m.fr ≠ m.to ∧ m.evs.length ≤ 8 ∧ (m.k = 1 → m.evs.length = 0)
open Classical in
noncomputable def Ab4 (m : Msg) : Bool := decide (Ac4 m)
theorem Ahk {m : Msg} (h : Ac4 m) : Ab4 m = true := by simp [Ab4, h]
theorem Pt {m : Msg} (h : ¬ Ac4 m) : Ab4 m = false := by simp [Ab4, h]
def Qp (n : Int) : Bool := decide (1 ≤ n ∧ n ≤ 8)
theorem An4 (n : Int) {h d} : FunOk Try.prog 54 [.pv (.i .i64 n)] h d (.pv (.b (Qp n))) [] := by
 refine Ax An fn54 (by simp) rfl rfl fun F => ?_;by_cases h1 : 1 ≤ n
 · have e : Qp n = decide (n ≤ 8) := by simp [Qp, h1]
   simp (disch := omega) only [ir54, h1, e, go_sem]
 · have e : Qp n = false := by simp [Qp, h1]
   simp (disch := omega) only [ir54, h1, e, go_sem]
theorem Ai9 {f : Bool} {z : Nat} {h d} : FunOk Try.prog 53 [.pv (.sl f z []), .fn (.func 56) []] h d (.pv (.i .i64 (-1))) [] := by
 refine Ax An fn53 (by simp) rfl rfl fun F => ?_;simp (disch := omega) only [ir53, List.length_nil, go_sem];refine Bc An (fun _ : Nat => mk [(8, .pv (.i .i64 0)), (7, .pv (.i .i64 0)), (0, .pv (.sl f z [])), (1, .fn (.func 56) [])] []) (fun _ => True) (fun _ => 0) 0 trivial (A2 ?_ ?_) fun k hk => ?_
 · simp (disch := omega) only [go_sem]
 · simp (disch := omega) only [go_sem]
 simp (disch := omega) only [go_sem]
theorem Aoh {f : Bool} {z : Nat} {h d} :
 FunOk Try.prog 55 [.pv (.sl f z []), .fn (.func 56) []] h d (.pv (.b false)) [] := by
 refine Ax An fn55 (by simp) rfl rfl fun F => ?_;simp (disch := omega) only [ir55, go_sem];refine Aa Ai9 ?_;simp (disch := omega) only [go_sem]
set_option maxHeartbeats 8000000 in
theorem Aoj (m : Msg) (hk : m.k = 1) {h d} : FunOk Try.prog 43 [.vec 76 (H7 m)] h d (.pv (.b (Ab4 m))) [] := by
 refine Ax An fn43 (by simp) rfl rfl fun F => ?_;simp (disch := omega) only [ir43, List.length_map, hk, go_sem];refine Aa (An4 m.fr) ?_;by_cases r1 : 1 ≤ m.fr ∧ m.fr ≤ 8;rotate_left
 · have e := Pt (m := m) fun h => r1 h.2.1;have er : Qp m.fr = false := by simp only [Qp, r1, decide_false]
   simp (disch := omega) only [er, e, go_sem]
 have er : Qp m.fr = true := by simp only [Qp, r1, and_self, decide_true]
 simp (disch := omega) only [er, go_sem];refine Aa (An4 m.to) ?_;by_cases r2 : 1 ≤ m.to ∧ m.to ≤ 8;rotate_left
 · have e := Pt (m := m) fun h => r2 h.2.2.1;have er : Qp m.to = false := by simp only [Qp, r2, decide_false]
   simp (disch := omega) only [er, e, go_sem]
 have er : Qp m.to = true := by simp only [Qp, r2, and_self, decide_true]
 by_cases r3 : m.fr = m.to
 · have e := Pt (m := m) fun h => h.2.2.2.1 r3;simp (disch := omega) only [er, r3, e, go_sem]
 by_cases r4 : (8 : Int) < (m.evs.length : Int)
 · have e := Pt (m := m) fun h => by have := h.2.2.2.2.1; omega
   simp (disch := omega) only [er, r3, r4, e, go_sem]
 by_cases r5 : (0 : Int) < (m.evs.length : Int)
 · have e := Pt (m := m) fun h => by have := h.2.2.2.2.2 hk; omega
   simp (disch := omega) only [er, r3, r4, hk, r5, e, List.length_map, go_sem]
 have e := Ahk (m := m) ⟨.inl hk, r1, r2, r3, by omega, fun _ => by omega⟩;have e0 : m.evs = [] := List.eq_nil_of_length_eq_zero (by omega);simp (disch := omega) only [er, r3, r4, hk, r5, List.length_map, e0, List.map_nil, go_sem];refine Aa Aoh ?_;simp (disch := omega) only [e, go_sem]
theorem A8m (v : Vc) : vE v ++ (vE v ++ (vE v ++ (vE v ++ (vE v ++ (vE v ++ (vE v ++ vE v)))))) = tE fun _ => v := Aib fun _ => v
def Wv (t : Nat → Vc) (self to : Int) (v : Vc) : Msg := ⟨1, self, to, v, Cs t self v, true, 0, []⟩
theorem Y9 {S : St} {fl : Vc} {L : List Evt} (t : Nat → Vc) (self to : Int) (hr : -9223372036854775808 ≤ self ∧ self < 9223372036854775808) {g : Nat} {h d} (hg : h g = some (.var (Lk S fl L))) : FunOk Try.prog 24 [.p g 0, .vec 64 (tE t), .pv (.i .i64 self), .pv (.i .i64 to)] h d (.agg (Jb (Wv t self to S.known))) [] := by
 refine FunOk.quiet (g := g) (blk := .var (Lk S fl L)) ?_ hg (by simp [Aw, tn]);refine FunOk.io (fun h d hg => ?_) rfl rfl rfl rfl hg;refine Hj (g := 900) An fn24 (by simp) (by simp [Aw, tn]) (by simp [Aw, tn]) hg rfl (by simp [Blk.ptr, SV.kill]) rfl (fun _ => rfl) fun F => ?_;simp (disch := omega) only [ir24, Blk.ptr, go_sem];refine Aa (Jm (S := S) (L := L) rfl) ?_;simp (disch := omega) only [go_sem];refine Aa (Agx t self S.known hr) ?_;simp (disch := omega) only [go_sem];refine ⟨_, .same _, ?_⟩
 (try simp only [Ii, Ih, Ig, Ie, Ic, Ib, Ia, H9]); simp (disch := omega) only [Jb, Qn, Wv, List.map_nil, go_sem]
 exact ⟨900, rfl, rfl⟩
noncomputable def Ol (T l : List Evt) : List Evt := l.foldl Qj T
noncomputable def R6 (T l : List Evt) : List Evt := (Ol T l).drop T.length
theorem L7 (T l : List Evt) (e : Evt) : Ol T (l ++ [e]) = Qj (Ol T l) e := by simp [Ol]
theorem Ahr (T : List Evt) : ∀ l : List Evt, Ol T l = T ++ R6 T l ∧ (R6 T l).length ≤ l.length ∧ ∀ e ∈ R6 T l, e ∈ l :=
 Hw ⟨by simp [Ol, R6], by simp [Ol, R6], fun e he => by simp [Ol, R6] at he⟩ fun l e ih => by
  obtain ⟨h1, h2, h3⟩ := ih;have hs := L7 T l e;unfold Qj at hs;split at hs
  · have e1 : R6 T (l ++ [e]) = R6 T l ++ [e] := by
     unfold R6 at h1 ⊢;rw [hs, h1, List.append_assoc, List.drop_left];simp
    refine ⟨by rw [e1, hs, ← List.append_assoc, ← h1], by rw [e1]; simp only [List.length_append, List.length_singleton]; omega, fun f hf => ?_⟩;rw [e1] at hf;rcases List.mem_append.1 hf with hf | hf
    · exact List.mem_append_left _ (h3 f hf)
    · exact List.mem_append_right _ hf
  · have e1 : R6 T (l ++ [e]) = R6 T l := by unfold R6; rw [hs]
    rw [e1, hs];exact ⟨h1, by simp only [List.length_append, List.length_singleton]; omega, fun f hf => List.mem_append_left _ (h3 f hf)⟩
theorem Ahq {T : List Evt} (hT : Val T) : ∀ l : List Evt, (∀ e ∈ l, ev e) → Val (Ol T l) :=
 Hw (fun _ => hT) fun l e ih hl => by
  have h1 := ih fun f hf => hl f (List.mem_append_left _ hf);rw [L7];exact (Atb h1 (hl e (by simp))).1
theorem Aqm {T l : List Evt} {e : Evt} (hT : Val T) (hl : ∀ f ∈ l, ev f) : (Fk (Ac (Ol T l)) e = 0 → Yy (Ac (Ol T l)) e = Ac (Ol T (l ++ [e])) ∧ R6 T (l ++ [e]) = R6 T l ++ [e] ∧ Ol T (l ++ [e]) = Ol T l ++ [e]) ∧ (Fk (Ac (Ol T l)) e ≠ 0 → R6 T (l ++ [e]) = R6 T l ∧ Ol T (l ++ [e]) = Ol T l) := by
 have hv := Ahq hT l hl;have h1 := (Ahr T l).1;refine ⟨fun hw => ?_, fun hw => ?_⟩
 · have hs : Ol T (l ++ [e]) = Ol T l ++ [e] := by rw [L7]; exact if_pos hw
   refine ⟨by rw [At7 hv hw, hs], ?_, hs⟩;unfold R6 at h1 ⊢;rw [hs, h1, List.append_assoc, List.drop_left];simp
 · have hs : Ol T (l ++ [e]) = Ol T l := by rw [L7]; exact if_neg hw
   exact ⟨by unfold R6; rw [hs], hs⟩
theorem An5 (t : Nat → Vc) (m : Msg) (hr : -9223372036854775808 ≤ m.fr ∧ m.fr < 9223372036854775808) {h d} : FunOk Try.prog 26 [.vec 64 (tE t), .vec 76 (H7 m)] h d (.vec 64 (tE (Cs (La t m.tb) m.fr m.kn))) [] := by
 refine Ax An fn26 (by simp) rfl rfl fun F => ?_;simp (disch := omega) only [ir26, go_sem];refine Aa (Auk _ _) ?_;simp (disch := omega) only [go_sem];refine Aa (Agx _ _ _ hr) ?_;simp (disch := omega) only [go_sem]
noncomputable def Ayu (T : List Evt) (m : Msg) (k : Nat) : FS := mk [(14, .pv (.i .i64 k)), (13, .pv (.i .i64 m.evs.length)), (12, .pv (.sl m.f m.z (m.evs.map Bo))), (6, .os 40), (2, .p 2 0), (5, .p 5 0)] [(2, some (.var (.agg (Bl (Ac (Ol T (m.evs.take k))))))), (5, some (.var (.agg [.vec 8 (vE fun _ => 0), .pv (.sl true 0 []), .pv (.sl true 0 []), .vec 8 (iE fun _ => 0), .vec 8 (wE fun _ => false)]))), (40, some (.row 21 ((R6 T (m.evs.take k)).map Bo)))]
set_option maxHeartbeats 4000000 in
theorem Ag0 {T : List Evt} {m : Msg} (hT : Val T) (hn : T.length + m.evs.length ≤ 400) (hz : m.z = 21) (hev : ∀ e ∈ m.evs, ev e) {h d} : FunOk Try.prog 42 [.agg (Bl (Ac T)), .vec 76 (H7 m)] h d (.tup [.pv (.sl false 21 ((R6 T m.evs).map Bo)), .agg (Bl (Ac (Ol T m.evs)))]) [] := by
 refine Xt An fn42 (by simp) rfl rfl fun F => ?_;simp (disch := omega) only [ir42, List.length_map, Bl, A7, go_sem];refine Bc An (Ayu T m) (fun k => k ≤ m.evs.length) (fun k => m.evs.length - k) 0 (by simp) (Ax9 6 40 21 rfl (by omega) (A2 ?_ ?_)) fun k hk => ?_
 · simp (disch := omega) only [go_sem]
 · simp (disch := omega) only [List.take_zero, R6, Ol, List.foldl_nil, List.drop_length, List.map_nil, Bl, A7, go_sem]
 by_cases hlt : k < m.evs.length
 · have hx : m.evs[k]? = some m.evs[k] := List.getElem?_eq_getElem hlt;have he : (m.evs.map Bo)[k]? = some (Bo m.evs[k]) := by rw [List.getElem?_map, hx]; rfl
   have ht := F8 hx;have hee := hev _ (List.getElem_mem hlt);have hpre : ∀ f ∈ m.evs.take k, ev f := fun f hf => hev f (List.mem_of_mem_take hf);obtain ⟨s1, s2⟩ := Aqm (e := m.evs[k]) hT hpre;rw [← ht] at s1 s2;have hv := Ahq hT _ hpre;obtain ⟨a1, a2, _⟩ := Ahr T (m.evs.take k);have hkl : (m.evs.take k).length ≤ k := List.length_take_le _ _;have hWl : (Ol T (m.evs.take k)).length ≤ 400 := by rw [a1, List.length_append]; omega
   have hi := Ll hv hWl;have hfl : (R6 T (m.evs.take k)).length ≤ 400 := by omega
   generalize hee' : m.evs[k] = e at *;have hel := Bn e;simp (disch := omega) only [Ayu, hz, List.length_map, he, Bq, hel, Bl, A7, go_sem];refine Aa (Ag3 (s := Ac (Ol T (m.evs.take k))) hi hee) ?_;by_cases hw : Fk (Ac (Ol T (m.evs.take k))) e = 0
   · obtain ⟨r1, r2, r3⟩ := s1 hw;rw [r1, hw];simp (disch := omega) only [Bl, A7, go_sem];refine V7 ?_;simp (disch := omega) only [Bq, hel, Bl, A7, List.length_map, go_sem];refine ⟨k + 1, by omega, by omega, J6 29 40 (by decide) rfl (A2 ?_ ?_)⟩
     · simp (disch := omega) only [hz, go_sem]
     · simp (disch := omega) only [r2, List.map_append, List.map_cons, List.map_nil, Bl, A7, go_sem]
   · obtain ⟨r2, r3⟩ := s2 hw;simp (disch := omega) only [hw, Bl, A7, go_sem];refine Av (k + 1) _ _ rfl (by omega) (by omega) ?_ ?_
     · simp (disch := omega) only [hz, go_sem]
     · simp (disch := omega) only [r2, r3, Bl, A7, go_sem]
 · obtain rfl : k = m.evs.length := by omega
   have htk : m.evs.take m.evs.length = m.evs := List.take_length;simp (disch := omega) only [Ayu, List.length_map, htk, Bl, A7, go_sem]
def Wr (t : Nat → Vc) (self to : Int) (v : Vc) (l : List Evt) : Msg := ⟨2, self, to, v, Cs t self v, false, 21, l⟩
def gvS (k : Nat) : SV := if k = 0 then .pv (.sl true 0 []) else .os 60
def gvK (l : List Evt) : Option Blk := if l.length = 0 then none else some (.row 21 (l.map Bo))
theorem A6b : gvS 0 = .pv (.sl true 0 []) := rfl
theorem Ahm {k : Nat} (h : k ≠ 0) : gvS k = .os 60 := if_neg h
theorem Ax3 {l : List Evt} (h : l.length = 0) : gvK l = none := if_pos h
theorem Ahn {l : List Evt} (h : l.length ≠ 0) : gvK l = some (.row 21 (l.map Bo)) := if_neg h
def Lc : SV := .agg [.pv (.i .i64 0), .pv (.i .i64 0), .pv (.i .i64 0), .vec 8 (List.replicate 8 (.i .u32 0)), .vec 64 (List.replicate 64 (.i .u32 0)), .pv (.sl true 0 [])]
def H6 (t : Nat → Vc) (self to : Int) (v : Vc) (x : SV) : List SV := [.pv (.i .i64 2), .pv (.i .i64 self), .pv (.i .i64 to), .vec 8 (vE v), .vec 64 (tE (Cs t self v)), x]
theorem A04 {t : Nat → Vc} {self to : Int} {v : Vc} : Imp (.agg (H6 t self to v (.pv (.sl true 0 [])))) (.agg (H6 t self to v (.pv (.sl false 21 [])))) :=
 U9 (l := H6 t self to v (.pv (.sl true 0 []))) (m := H6 t self to v (.pv (.sl false 21 []))) ⟨⟨Imp.refl _, rfl⟩, ⟨Imp.refl _, rfl⟩, ⟨Imp.refl _, rfl⟩, ⟨Imp.refl _, rfl⟩, ⟨Imp.refl _, rfl⟩, ⟨U7 (Hg (fun q => by cases q) (.inl rfl) (.refl _)), rfl⟩, trivial⟩
theorem A8s (a b : Nat) (S : St) (fl : Vc) (L : List Evt) : SV.ren a b (Lk S fl L) = Lk S fl L := rfl
attribute [go_sem] A8s
noncomputable def Adq (l0 : Nat) (S : St) (fl v : Vc) (L : List Evt) (t : Nat → Vc) (self to : Int) (j : Nat) : FS := mk [(8, .pv (.i .i64 j)), (7, .pv (.i .i64 L.length)), (6, .pv (.sl true 21 (L.map Bo))), (0, .fn (.yield l0) []), (2, .pi 8 [vE v] 0 0), (1000000, .pv (.i .i64 0)), (1000009, .p 8 0), (1000013, .p 12 0), (2000001, .p 900 0)] [(8, some (.var Lc)), (12, some (.var (.agg (H6 t self to S.known (gvS (Bt v (L.take j)).length))))), (60, gvK (Bt v (L.take j))), (900, some (.var (Lk S fl L)))]
set_option maxHeartbeats 8000000 in
theorem An9 {S : St} {fl : Vc} {L : List Evt} (t : Nat → Vc) (m : Msg) (hk : m.k = 1) (hh : Ac4 m) (hv : Mr fl m.kn) (hL : ∀ e ∈ L, ev e ∧ En e = e) (hn : L.length ≤ 100) {g : Nat} {h d} (hg : h g = some (.var (Lk S fl L))) : FunOk Try.prog 23 [.p g 0, .vec 64 (tE t), .pv (.i .i64 m.to), .vec 76 (H7 m)] h d (.tup [.agg (Jb (Wr t m.to m.fr S.known ((Bt m.kn L).take 8))), .pv (.i .i64 0)]) [] := by
 refine FunOk.quiet (g := g) (blk := .var (Lk S fl L)) ?_ hg (by simp [Aw, tn]);refine FunOk.io (fun h d hg => ?_) rfl rfl rfl rfl hg;refine Hj (g := 900) An fn23 (by simp) (by simp [Aw, tn]) (by simp [Aw, tn]) hg rfl (by simp [Blk.ptr, SV.kill]) rfl (fun _ => rfl) fun F => ?_;have hb := Ahk hh;obtain ⟨_, hfr, hto, _⟩ := id hh;simp (disch := omega) only [ir23, Blk.ptr, hk, go_sem];refine Aa (Aoj m hk) ?_;simp (disch := omega) only [hb, go_sem];refine Aa (An1 (S := S) (L := L) m.kn hv rfl) ?_;simp (disch := omega) only [A2z, go_sem];refine Aa (Y9 (S := S) (L := L) (fl := fl) t m.to m.fr (by omega) rfl) ?_;simp (disch := omega) only [Jb, Qn, Wv, List.map_nil, go_sem];refine Azd An fn33 (by simp) fun l0 XI hc => ?_;rw [Aqy _ _ _ (by show 3 ≤ 1000000; omega)];simp (disch := omega) only [ir33, List.getElem?_cons_zero, A0n, List.length_map, go_sem];refine Bc An (Adq l0 S fl m.kn L t m.to m.fr) (fun k => k ≤ L.length ∧ (Bt m.kn (L.take k)).length ≤ 8) (fun k => L.length - k) 0 ⟨by simp, by simp [Bt, Iz]⟩ (A2 ?_ ?_) fun j hj => ?_
 · simp (disch := omega) only [go_sem]
 · simp (disch := omega) only [List.take_zero, show Bt m.kn [] = [] from rfl, show gvK [] = none from rfl, List.length_nil, A6b, H6, Lc, go_sem]
 obtain ⟨hj1, hj2⟩ := hj;by_cases hlt : j < L.length
 · have hx : L[j]? = some L[j] := List.getElem?_eq_getElem hlt;have he : (L.map Bo)[j]? = some (Bo L[j]) := by rw [List.getElem?_map, hx]; rfl
   have hmem := List.getElem_mem hlt;have hsn : Bt m.kn (L.take (j + 1)) = Bt m.kn (L.take j) ++ if A4 m.kn L[j].rep L[j].seq = true then [] else [L[j]] := Aeu hx
   have hdr : Bt m.kn L = Bt m.kn (L.take j) ++ Bt m.kn (L.drop j) := by
    conv => lhs; rw [← List.take_append_drop j L]
    unfold Bt Iz; rw [List.filter_append]
   obtain ⟨hev, hce⟩ := hL _ hmem;generalize L[j] = e at *;have hel := Bn e;generalize hSS : Bt m.kn (L.take j) = SS at *;by_cases h0 : SS.length = 0
   · have gS : gvS SS.length = .pv (.sl true 0 []) := by rw [h0]; rfl
     have gK : gvK SS = none := Ax3 h0;have e0 : SS = [] := List.eq_nil_of_length_eq_zero h0;by_cases hh' : A4 m.kn e.rep e.seq = true
     · rw [if_pos hh', List.append_nil] at hsn;simp (disch := omega) only [Adq, hSS, gS, gK, H6, Lc, List.length_map, he, Bq, hel, List.getElem?_cons_zero, E4, Bv, go_sem];refine Aa (Fb _ _ _) ?_;rw [hh'];simp (disch := omega) only [go_sem];refine Av (j + 1) _ _ rfl ⟨by omega, by rw [hsn]; exact hj2⟩ (by omega) ?_ ?_
       · simp (disch := omega) only [go_sem]
       · simp (disch := omega) only [hsn, gS, gK, H6, Lc, go_sem]
     rw [if_neg hh'] at hsn;have hhf : A4 m.kn e.rep e.seq = false := by simpa using hh'
     have hln : (Bt m.kn (L.take (j + 1))).length = SS.length + 1 := by rw [hsn]; simp
     have gS' : gvS (SS.length + 1) = .os 60 := Ahm (by omega);have gK' : gvK (SS ++ [e]) = some (.row 21 ((SS ++ [e]).map Bo)) := Ahn (by simp);simp (disch := omega) only [Adq, hSS, gS, gK, H6, Lc, List.length_map, he, Bq, hel, List.getElem?_cons_zero, E4, Bv, go_sem];refine Aa (Fb _ _ _) ?_;rw [hhf];simp (disch := omega) only [Bq, hel, go_sem];refine Aa (Qw e hev) ?_;rw [hce];simp (disch := omega) only [go_sem];refine Ama An hc ?_ rfl fun XA XB => ?_
     · simp (disch := omega) only [go_sem]
     rw [Aa0 _ _ _ _ (A33 48 (by decide))];simp (disch := omega) only [Bq, hel, List.length_nil, go_sem];refine ⟨fun q => (by cases q), j + 1, ⟨by omega, by rw [hln]; omega⟩, by omega, J6 57 60 (by decide) rfl (A2 ?_ ?_)⟩
     · simp (disch := omega) only [go_sem]
     · simp (disch := omega) only [hsn, show gvS 1 = .os 60 from rfl, show gvK [e] = some (.row 21 [Bo e]) from rfl, H6, Lc, e0, List.nil_append, List.length_singleton, List.map_cons, List.map_nil, go_sem]
   · have gS : gvS SS.length = .os 60 := Ahm h0;have gK : gvK SS = some (.row 21 (SS.map Bo)) := Ahn h0;by_cases hh' : A4 m.kn e.rep e.seq = true
     · rw [if_pos hh', List.append_nil] at hsn;simp (disch := omega) only [Adq, hSS, gS, gK, H6, Lc, List.length_map, he, Bq, hel, List.getElem?_cons_zero, E4, Bv, go_sem];refine Aa (Fb _ _ _) ?_;rw [hh'];simp (disch := omega) only [go_sem];refine Av (j + 1) _ _ rfl ⟨by omega, by rw [hsn]; exact hj2⟩ (by omega) ?_ ?_
       · simp (disch := omega) only [go_sem]
       · simp (disch := omega) only [hsn, gS, gK, H6, Lc, go_sem]
     rw [if_neg hh'] at hsn;have hhf : A4 m.kn e.rep e.seq = false := by simpa using hh'
     have hln : (Bt m.kn (L.take (j + 1))).length = SS.length + 1 := by rw [hsn]; simp
     have gS' : gvS (SS.length + 1) = .os 60 := Ahm (by omega);have gK' : gvK (SS ++ [e]) = some (.row 21 ((SS ++ [e]).map Bo)) := Ahn (by simp);simp (disch := omega) only [Adq, hSS, gS, gK, H6, Lc, List.length_map, he, Bq, hel, List.getElem?_cons_zero, E4, Bv, go_sem];refine Aa (Fb _ _ _) ?_;rw [hhf];simp (disch := omega) only [Bq, hel, go_sem];refine Aa (Qw e hev) ?_;rw [hce];simp (disch := omega) only [go_sem];refine Ama An hc ?_ rfl fun XA XB => ?_
     · simp (disch := omega) only [go_sem]
     rw [Aa0 _ _ _ _ (A33 48 (by decide))];by_cases h8 : SS.length = 8
     · have h8' : (SS.length : Int) = 8 := by omega
       have ht8 : (Bt m.kn L).take 8 = SS := by rw [hdr, ← h8, List.take_left]
       simp (disch := omega) only [Bq, hel, List.length_map, h8', ht8, go_sem];refine ⟨_, I7 60 rfl (.same _), ?_⟩
       (try simp only [Ii, Ih, Ig, Ie, Ic, Ib, Ia, H9]); simp (maxSteps := 10000000) (disch := omega) only [Jb, Qn, Wr, H6, go_sem]
       exact ⟨900, rfl, rfl⟩
     · have h8' : ¬ (SS.length : Int) = 8 := by omega
       simp (disch := omega) only [Bq, hel, List.length_map, h8', go_sem];refine ⟨j + 1, ⟨by omega, by rw [hln]; omega⟩, by omega, J6 57 60 (by decide) rfl (A2 ?_ ?_)⟩
       · simp (disch := omega) only [go_sem]
       · simp (disch := omega) only [hsn, List.length_append, List.length_singleton, gS', gK', H6, Lc, List.map_append, List.map_cons, List.map_nil, go_sem]
 · obtain rfl : j = L.length := by omega
   have htk : L.take L.length = L := List.take_length;rw [htk] at hj2;have ht8 : (Bt m.kn L).take 8 = Bt m.kn L := List.take_of_length_le hj2;by_cases h0 : (Bt m.kn L).length = 0
   · have gS : gvS (Bt m.kn L).length = .pv (.sl true 0 []) := by rw [h0]; rfl
     have gK : gvK (Bt m.kn L) = none := Ax3 h0;have e0 : Bt m.kn L = [] := List.eq_nil_of_length_eq_zero h0;simp (disch := omega) only [Adq, List.length_map, htk, gS, gK, H6, Lc, go_sem];have hi : Imp (.agg (H6 t m.to m.fr S.known (.pv (.sl true 0 [])))) (.agg (H6 t m.to m.fr S.known (.pv (.sl false 21 [])))) := A04;refine ⟨mk [(9, .pv (.i .i64 0)), (8, .p 8 0), (1000000, .p 900 0)] [(8, some (.var (.agg (H6 t m.to m.fr S.known (.pv (.sl false 21 [])))))), (900, some (.var (Lk S fl L)))], A2 ?_ ?_, ?_⟩
     · simp (disch := omega) only [go_sem]
     · simp (disch := omega) only [go_sem];exact ⟨hi, rfl⟩
     (try simp only [Ii, Ih, Ig, Ie, Ic, Ib, Ia, H9]); simp (disch := omega) only [Jb, Qn, Wr, H6, e0, List.take_nil, List.map_nil, go_sem]
     exact ⟨900, rfl, rfl⟩
   · have gS : gvS (Bt m.kn L).length = .os 60 := Ahm h0;have gK : gvK (Bt m.kn L) = some (.row 21 ((Bt m.kn L).map Bo)) := Ahn h0;simp (disch := omega) only [Adq, List.length_map, htk, gS, gK, H6, Lc, ht8, go_sem];refine ⟨_, I7 60 rfl (.same _), ?_⟩
     (try simp only [Ii, Ih, Ig, Ie, Ic, Ib, Ia, H9]); simp (disch := omega) only [Jb, Qn, Wr, H6, go_sem]
     exact ⟨900, rfl, rfl⟩
set_option maxHeartbeats 2000000 in
theorem Aoa {x : SV} {f : Bool} {l : List Evt} {h d} (hx : Da h [x] = [.pv (.sl f 21 (l.map Bo))]) (hl : Bh [x] = true) :
 FunOk Try.prog 22 [x] h d (.pv (.b (Xv l))) [] := by
 refine Dd An fn22 (by simp) hl rfl fun F => ?_;rw [hx];by_cases h30 : 25 < (l.length : Int)
 · have hf := Zw (l := l) fun h => by have := h.1; omega
   simp (disch := omega) only [ir22, List.length_map, hf, go_sem]
 simp (disch := omega) only [ir22, List.length_map, go_sem];refine Bc An (Nx f l) (fun k => k ≤ l.length ∧ ∀ j e, j < k → l[j]? = some e → Axq e) (fun k => l.length - k) 0 ⟨by simp, fun j e hj => absurd hj (Nat.not_lt_zero j)⟩ (A2 ?_ ?_) fun k hk => ?_
 · simp (disch := omega) only [List.length_map, go_sem]
 · simp (disch := omega) only [go_sem]
 obtain ⟨hk1, hk2⟩ := hk;by_cases hlt : k < l.length
 · have hx' : l[k]? = some l[k] := List.getElem?_eq_getElem hlt;have he : (l.map Bo)[k]? = some (Bo l[k]) := by rw [List.getElem?_map, hx']; rfl
   have hm := List.getElem_mem hlt;generalize l[k] = e at *;have hel := Bn e;have hg : e.gone.pv = .sl e.gone.f e.gone.z (e.gone.l.map H5) := rfl;have hb : e.base.pv = .sl e.base.f e.base.z (e.base.l.map H5) := rfl;have hno : ¬ Axq e → Xv l = false := fun q => Zw fun h => q (h.2 e hm);by_cases c1 : 30 < (e.name.length : Int)
   · have hf := hno fun q => by have := q.1; omega
     simp (disch := omega) only [Nx, List.length_map, he, Bq, hel, E8, c1, hf, go_sem]
   by_cases c2 : 250 < (e.data.length : Int)
   · have hf := hno fun q => by have := q.2.1; omega
     simp (disch := omega) only [Nx, List.length_map, he, Bq, hel, E8, c1, Ix, c2, hf, go_sem]
   by_cases c3 : 10 < (e.gone.l.length : Int)
   · have hf := hno fun q => by have := q.2.2.1; omega
     simp (disch := omega) only [Nx, List.length_map, he, Bq, hel, E8, c1, Ix, c2, Kq, hg, c3, hf, go_sem]
   by_cases c4 : 10 < (e.base.l.length : Int)
   · have hf := hno fun q => by have := q.2.2.2; omega
     simp (disch := omega) only [Nx, List.length_map, he, Bq, hel, E8, c1, Ix, c2, Kq, hg, c3, Hi, hb, c4, hf, go_sem]
   simp (disch := omega) only [Nx, List.length_map, he, Bq, hel, E8, c1, Ix, c2, Kq, hg, c3, Hi, hb, c4, go_sem];refine Av (k + 1) _ _ rfl ⟨by omega, fun j x hj hjx => ?_⟩ (by omega) ?_ ?_
   · by_cases ej : j = k
     · subst ej; rw [hx'] at hjx; cases hjx; exact ⟨by omega, by omega, by omega, by omega⟩
     · exact hk2 j x (by omega) hjx
   · simp (disch := omega) only [go_sem]
   · simp (disch := omega) only [go_sem]
 · obtain rfl : k = l.length := by omega
   have hf := Ahu (l := l) ⟨by omega, fun e he => by
    obtain ⟨j, hj⟩ := List.mem_iff_getElem?.1 he;exact hk2 j e (List.getElem?_eq_some_iff.1 hj).1 hj⟩
   simp (disch := omega) only [Nx, hf, go_sem]
theorem Ax4 : Ol [] [En M8] = [En M8] := by
 have hw : Fk (Ac []) (En M8) = 0 := Af5;show Qj [] (En M8) = _;unfold Qj;rw [if_pos hw]; rfl
theorem A6h : R6 [] [En M8] = [En M8] := by unfold R6; rw [Ax4]; rfl
set_option maxHeartbeats 4000000 in
theorem Xb {h d} : FunOk Try.prog 21 [] h d (.pv (.b true)) [] := by
 refine Ax An fn21 (by simp) rfl rfl fun F => ?_;simp (disch := omega) only [ir21, go_sem];refine Aa (FunOk.imp (Pa (S := Ac []) Vk) ⟨Lr, trivial⟩ (by simp [Aw, tn, Lm])) ?_;simp (disch := omega) only [Zj, go_sem];refine Aa (FunOk.imp (Pa (S := Ac []) Vk) ⟨Lr, trivial⟩ (by simp [Aw, tn, Lm])) ?_;simp (disch := omega) only [Zj, go_sem];refine Aa (FunOk.imp (Uo (S := Ac []) (L := []) (e := M8) (Ll Val.nil (by simp)) A1u (by simp) rfl) ⟨Imp.refl _, Pp (cs := Bo M8) rfl (Bn _), trivial⟩ (by simp [Aw, tn])) ?_;rw [Af5, A74, A20];simp (disch := omega) only [A8m, go_sem];refine Aa (FunOk.imp (Y9 (S := Ac []) (L := []) (fl := fun _ => 0) (fun _ _ => 0) 2 1 (by omega) rfl) ⟨Imp.refl _, Imp.refl _, Imp.refl _, Imp.refl _, trivial⟩ (by simp [Aw, tn])) ?_;simp (disch := omega) only [go_sem];have hkn : (Ac [M8]).known = Af [M8] := Be _;have hA : ∀ e ∈ [En M8], ev e := fun e he => by simp at he; subst he; exact Ahz A1u
 refine Aa (FunOk.imp (An9 (S := Ac [M8]) (L := [En M8]) (fl := fun _ => 0) (fun _ _ => 0) (Wv (fun _ _ => 0) 2 1 (Ac []).known) rfl ⟨.inl rfl, by decide, by decide, by decide, by decide, fun _ => rfl⟩ (fun i _ => Nat.zero_le _) (fun e he => by simp at he; subst he; exact ⟨Ahz A1u, rfl⟩) (by simp) rfl) ⟨Imp.refl _, Imp.refl _, Imp.refl _, U8 _, trivial⟩ (by simp [Aw, tn, Oo])) ?_;have hg : (List.take 8 (Bt (Wv (fun _ _ => 0) 2 1 (Ac []).known).kn [En M8])) = [En M8] := rfl;rw [hg];generalize hmm : Wr (fun _ _ => 0) (Wv (fun _ _ => 0) 2 1 (Ac []).known).to (Wv (fun _ _ => 0) 2 1 (Ac []).known).fr (Ac [M8]).known [En M8] = mm;have me : mm.evs = [En M8] := by rw [← hmm]; rfl
 have mz : mm.z = 21 := by rw [← hmm]; rfl
 have mt : mm.to = 2 := by rw [← hmm]; rfl
 simp (disch := omega) only [Jb, Qn, go_sem];refine Aa (O9 (S := Ac []) (L := []) Vk rfl) ?_;simp (disch := omega) only [Bl, A7, Jb, Qn, go_sem];refine Aa (FunOk.imp (Ag0 (T := []) (m := mm) Val.nil (by rw [me]; simp) mz (by rw [me]; exact hA)) ⟨Imp.refl _, U8 _, trivial⟩ (by simp [Aw, tn, Oo, Lm])) ?_;rw [me, A6h, Ax4];have hv1 : vE (Ac [En M8]).known = [.i .u32 1, .i .u32 0, .i .u32 0, .i .u32 0, .i .u32 0, .i .u32 0, .i .u32 0, .i .u32 0] := by rw [Be]; rfl
 have hpq : Wn (vE (Ac [En M8]).known) [.i .u32 1, .i .u32 0, .i .u32 0, .i .u32 0, .i .u32 0, .i .u32 0, .i .u32 0, .i .u32 0] = true := by rw [hv1]; exact E2 _
 have hfi := Vj (Ac [En M8]).known;have hf2 : C6 [K1.int .u32, .int .u32, .int .u32, .int .u32, .int .u32, .int .u32, .int .u32, .int .u32] [.i .u32 1, .i .u32 0, .i .u32 0, .i .u32 0, .i .u32 0, .i .u32 0, .i .u32 0, .i .u32 0] = True := eq_true rfl;simp (disch := omega) only [Bl, A7, List.map_cons, List.map_nil, List.length_cons, List.length_nil, me, mz, mt, hpq, hfi, hf2, go_sem]
end Go.Proofs.Ythmjebkldgdeiaa.Fw
namespace Go.Proofs.Ythmjebkldgdeiaa.Fw
open Go.RowKit Go.Proofs
variable {P : Program} {F : Fr} {N : Nat} {ρ ρ' : Nat → Value} {s : FS} {a : Act} {w w' : World} {V V' : View}
end Go.Proofs.Ythmjebkldgdeiaa.Fw
namespace Go.Proofs.Ythmjebkldgdeiaa.Fw
open Go.RowKit Go.Proofs
def Qz (Y X : List Evt) : List Evt := Y ++ X.filter fun e => !A4 (Af Y) e.rep e.seq
theorem Ajo (Y X : List Evt) (e : Evt) : Qz Y (X ++ [e]) = if A4 (Af Y) e.rep e.seq = true then Qz Y X else Qz Y X ++ [e] := by
 unfold Qz;rw [List.filter_append, List.filter_cons];by_cases h : A4 (Af Y) e.rep e.seq = true
 · rw [if_pos h, if_neg (by rw [h]; simp)]; simp
 · rw [if_neg h, if_pos (by simpa using h)]; simp
def Ac1 (X Y : List Evt) : Prop := ∀ e ∈ X, ∀ f ∈ Y, Al e = Al f → e = f
theorem Uw {X Y : List Evt} (hY : Val Y) (hU : Ac1 X Y) {e : Evt} : e ∈ Qz Y X ↔ e ∈ Y ∨ e ∈ X := by
 unfold Qz;rw [List.mem_append, List.mem_filter];constructor
 · rintro (h | h)
   · exact .inl h
   · exact .inr h.1
 · rintro (h | h)
   · exact .inl h
   · by_cases hk : A4 (Af Y) e.rep e.seq = true
     · obtain ⟨f, hf, hi⟩ := (hY.has (i := Al e)).1 hk;have := hU e h f hf hi.symm;subst this; exact .inl hf
     · exact .inr ⟨h, by simpa using hk⟩
theorem Asp {X Y A B : List Evt} {e : Evt} (hX : Val X) (hY : Val Y) (hU : Ac1 X Y) (hs : X = A ++ e :: B) (hW : Val (Qz Y A)) (hk : ¬ A4 (Af Y) e.rep e.seq = true) : Acc (Ac (Qz Y A)) e := by
 subst hs;have hv : Val ((A ++ [e]) ++ B) := by rw [List.append_assoc]; exact hX
 obtain ⟨hA, he, hw⟩ := hv.pre.inv;have ha := Hm.1 hw;have hUA : Ac1 A Y := fun x hx => hU x (by simp [hx]);refine Axl hA hW (fun x hx => (Uw hY hUA).2 (.inr hx)) ha (fun f hf q => ?_) fun f hf hk9 hr => ?_
 · rcases (Uw hY hUA).1 hf with h | h
   · exact hk ((hY.has (i := Al e)).2 ⟨f, h, q⟩)
   · exact E9 hA ha f h q
 · rcases (Uw hY hUA).1 hf with h | h
   rotate_left
   · exact h
   have h1 : A4 (Af Y) (Al f).1 (Al f).2 = true := hY.has.2 ⟨f, h, rfl⟩;obtain ⟨n1, n2, n3⟩ := Wb ha;rw [Be] at n3;have h2 : ¬ A4 (Af Y) (Al e).1 (Al e).2 = true := hk;rw [Fs] at h1 h2;simp only at h1 h2;rw [hr] at h1;have h3 : A4 (Af A) (Al f).1 (Al f).2 = true := by
    rw [Fs]; simp only; rw [hr]; omega
   obtain ⟨g, hg, hi⟩ := hA.has.1 h3;have := hU g (by simp [hg]) f h hi;subst this; exact hg
theorem Amg {X Y : List Evt} (hX : Val X) (hY : Val Y) (hU : Ac1 X Y) : ∀ A B, X = A ++ B → Val (Qz Y A) := by
 refine Hw (P := fun A => ∀ B, X = A ++ B → Val (Qz Y A)) (fun B _ => by simpa [Qz] using hY) fun A e ih B hB => ?_;have hW := ih (e :: B) (by rw [hB]; simp);rw [Ajo];split
 · exact hW
 · rename_i hk;have ha := Asp hX hY hU (B := B) (by rw [hB]; simp) hW hk;obtain ⟨_, _, _, _, he, _⟩ := hX.mem (e := e) (by rw [hB]; simp);exact Val.snoc hW he (Hm.2 ha)
theorem Ahs (X : List Evt) : ∀ E : List Evt, Val (X ++ E) → Ol X E = X ++ E :=
 Hw (fun _ => by simp [Ol]) fun E e ih h => by
  rw [← List.append_assoc] at h;obtain ⟨h1, _, hw⟩ := h.inv;rw [L7, ih h1, ← List.append_assoc];exact if_pos hw
theorem Awb {X E : List Evt} (h : Val (X ++ E)) : R6 X E = E := by
 unfold R6; rw [Ahs X E h, List.drop_left]
def Ok (X Y : List Evt) : List Evt := (Bt (Af X) Y).take 8
theorem Aas (v : Vc) (Y : List Evt) : ∀ n : Nat, ∃ p, (Bt v Y).take n = Bt v (Y.take p)
 | 0 => ⟨0, by simp [Bt, Iz]⟩
 | n + 1 => by
   induction Y with
   | nil => exact ⟨0, by simp [Bt, Iz]⟩
   | cons e Y ih =>
     by_cases h : A4 v e.rep e.seq = true
     · obtain ⟨p, hp⟩ := ih;refine ⟨p + 1, ?_⟩;have h1 : Bt v (e :: Y) = Bt v Y := by unfold Bt Iz; rw [List.filter_cons, if_neg (by simp [h])]
       have h2 : Bt v ((e :: Y).take (p + 1)) = Bt v (Y.take p) := by unfold Bt Iz; rw [List.take_succ_cons, List.filter_cons, if_neg (by simp [h])]
       rw [h1, h2, hp]
     · obtain ⟨p, hp⟩ := Aas v Y n;refine ⟨p + 1, ?_⟩;have h1 : Bt v (e :: Y) = e :: Bt v Y := by unfold Bt Iz; rw [List.filter_cons, if_pos (by simpa using h)]
       have h2 : Bt v ((e :: Y).take (p + 1)) = e :: Bt v (Y.take p) := by unfold Bt Iz; rw [List.take_succ_cons, List.filter_cons, if_pos (by simpa using h)]
       rw [h1, h2, List.take_succ_cons, hp]
theorem Aez {X Y : List Evt} (hX : Val X) (hY : Val Y) (hU : Ac1 Y X) : Val (X ++ Ok X Y) := by
 obtain ⟨p, hp⟩ := Aas (Af X) Y 8;have : X ++ Ok X Y = Qz X (Y.take p) := by unfold Ok Qz; rw [hp]; rfl
 rw [this];exact Amg hY hX hU (Y.take p) (Y.drop p) (List.take_append_drop _ _).symm
theorem Ra {X Y : List Evt} {e : Evt} (h : e ∈ Ok X Y) : e ∈ Y := (List.mem_filter.1 (List.mem_of_mem_take h)).1
theorem Ace {l : List Evt} (hn : l.Nodup) (n : Nat) (p : Evt → Bool) (hp : ∀ e ∈ l, p e = true ↔ e ∉ l.take n) : l.filter p = l.drop n := by
 conv => lhs; rw [← List.take_append_drop n l]
 rw [List.filter_append];have h1 : (l.take n).filter p = [] := by
  rw [List.filter_eq_nil_iff];intro e he q;exact (hp e (List.mem_of_mem_take he)).1 q he
 have hd : ∀ e ∈ l.drop n, e ∉ l.take n := fun e he q => by
  rw [← List.take_append_drop n l, List.nodup_append] at hn;exact hn.2.2 e q e he rfl
 have h2 : (l.drop n).filter p = l.drop n := by
  rw [List.filter_eq_self];intro e he;exact (hp e (List.mem_of_mem_drop he)).2 (hd e he)
 rw [h1, h2, List.nil_append]
theorem Ahl {X Y : List Evt} (hX : Val X) (hY : Val Y) (hU : Ac1 Y X) : Bt (Af (X ++ Ok X Y)) Y = (Bt (Af X) Y).drop 8 := by
 have hW := Aez hX hY hU;have hD : (Bt (Af X) Y).Nodup := (Eh hY.nod).filter _;rw [← Ace hD 8 (fun e => !A4 (Af (X ++ Ok X Y)) e.rep e.seq)]
 · unfold Bt Iz;rw [List.filter_filter];refine List.filter_congr fun e he => ?_;by_cases hx : A4 (Af X) e.rep e.seq = true
   · have h1 : A4 (Af (X ++ Ok X Y)) (Al e).1 (Al e).2 = true := Ab5 (i := Al e) (fun i hi => N7 X _ i hi) hx;have h2 : A4 (Af (X ++ Ok X Y)) e.rep e.seq = true := h1;simp [hx, h2]
   · have hx' : A4 (Af X) e.rep e.seq = false := by simpa using hx
     simp [hx']
 · intro e he;obtain ⟨heY, hne⟩ := List.mem_filter.1 he;have hne' : A4 (Af X) e.rep e.seq = false := by simpa using hne
   constructor
   · intro q hin;have : A4 (Af (X ++ Ok X Y)) (Al e).1 (Al e).2 = true := hW.has.2 ⟨e, List.mem_append_right _ hin, rfl⟩;have h2 : A4 (Af (X ++ Ok X Y)) e.rep e.seq = true := this;simp [h2] at q
   · intro hnin;cases hq : A4 (Af (X ++ Ok X Y)) e.rep e.seq with
     | false => rfl
     | true =>
       obtain ⟨f, hf, hi⟩ := (hW.has (i := Al e)).1 hq;rcases List.mem_append.1 hf with hf | hf
       · have : A4 (Af X) (Al e).1 (Al e).2 = true := (hX.has (i := Al e)).2 ⟨f, hf, hi⟩;have h2 : A4 (Af X) e.rep e.seq = true := this;rw [h2] at hne'; cases hne'
       · have := Sv hY.nod (Ra hf) heY hi;subst this;exact absurd hf hnin
theorem Ab6 {X Y : List Evt} (hY : Val Y) : Bt (Af Y) (X ++ Ok X Y) = Bt (Af Y) X := by
 unfold Bt Iz;rw [List.filter_append];have : (Ok X Y).filter (fun e => !A4 (Af Y) e.rep e.seq) = [] := by
  rw [List.filter_eq_nil_iff];intro e he;have : A4 (Af Y) (Al e).1 (Al e).2 = true := hY.has.2 ⟨e, Ra he, rfl⟩;have h2 : A4 (Af Y) e.rep e.seq = true := this;simp [h2]
 rw [this, List.append_nil]
theorem Xl {X Y : List Evt} (hX : Val X) (hU : Ac1 Y X) (h : Bt (Af X) Y = []) : ∀ e ∈ Y, e ∈ X := fun e he => by
 have h1 : A4 (Af X) e.rep e.seq = true := by
  cases hq : A4 (Af X) e.rep e.seq with
  | true => rfl
  | false =>
    have : e ∈ Bt (Af X) Y := List.mem_filter.2 ⟨he, by simp [hq]⟩;rw [h] at this; cases this
 obtain ⟨f, hf, hi⟩ := (hX.has (i := Al e)).1 h1;have := hU e he f hf hi.symm;subst this; exact hf
theorem Axk {T : List Evt} {e : Evt} (h : Val T) (hc : En e = e) (hw : Fk (Ac T) e = 0) : Nr (Ac T) e = Ac (T ++ [e]) ∧ P7 (Ac T) T e = T ++ [e] := by
 unfold Nr P7;rw [if_pos hw, if_pos hw, K6 h (Hm.1 hw), hc];exact ⟨rfl, rfl⟩
noncomputable def Ays (X : List Evt) (fl : Vc) (m : Msg) (j : Nat) : FS := mk [(18, .pv (.i .i64 j)), (17, .pv (.i .i64 m.evs.length)), (16, .pv (.sl false 21 (m.evs.map Bo))), (5, .pv (.sl false 21 (m.evs.map Bo))), (0, .p 900 0), (3, .p 3 0), (6, .p 6 0), (1000000, .p 900 0)] [(3, some (.var (.vec 76 (H7 m)))), (6, some (.var (.agg (Bl (Ac (X ++ m.evs)))))), (900, some (.var (Lk (Ac (X ++ m.evs.take j)) fl (X ++ m.evs.take j))))]
set_option maxHeartbeats 8000000 in
theorem Auj {X : List Evt} {fl : Vc} {m : Msg} (hW : Val (X ++ m.evs)) (hz : m.z = 21) (hc : ∀ e ∈ m.evs, ev e ∧ En e = e) (hn : X.length + m.evs.length ≤ 200) {g : Nat} {h d} (hg : h g = some (.var (Lk (Ac X) fl X))) :
 FunOk Try.prog 25 [.p g 0, .vec 76 (H7 m)] h d (.pv (.b true)) [.upd g (.var (Lk (Ac (X ++ m.evs)) fl (X ++ m.evs)))] := by
 refine FunOk.io (fun h d hg => ?_) rfl rfl rfl rfl hg;refine Hj (g := 900) An fn25 (by simp) (by simp [Aw, tn]) (by simp [Aw, tn]) hg rfl (by simp [Blk.ptr, SV.kill]) rfl (fun _ => rfl) fun F => ?_;have hX := hW.pre;have hfi := (Ll hX (by omega)).fine;have hk : (Ac (X ++ m.evs)).known = Af (X ++ m.evs) := Be _;simp (disch := omega) only [ir25, Blk.ptr, go_sem];refine Aa (O9 (S := Ac X) (L := X) hfi rfl) ?_;simp (disch := omega) only [Bl, A7, go_sem];refine Aa (Ag0 (T := X) (m := m) hX (by omega) hz (fun e he => (hc e he).1)) ?_;rw [Awb hW, Ahs X m.evs hW];simp (disch := omega) only [Bl, A7, List.length_map, go_sem];refine Bc An (Ays X fl m) (fun j => j ≤ m.evs.length) (fun j => m.evs.length - j) 0 (Nat.zero_le _) (A2 ?_ ?_) fun j hj => ?_
 · simp (disch := omega) only [go_sem]
 · simp (disch := omega) only [Bl, A7, List.take_zero, List.append_nil, go_sem]
 by_cases hlt : j < m.evs.length
 · have hx : m.evs[j]? = some m.evs[j] := List.getElem?_eq_getElem hlt;have he : (m.evs.map Bo)[j]? = some (Bo m.evs[j]) := by rw [List.getElem?_map, hx]; rfl
   have ht := F8 hx;have hce := hc _ (List.getElem_mem hlt);have hVj : ∀ n, Val (X ++ m.evs.take n) := fun n => Val.pre (m := m.evs.drop n) (by rw [List.append_assoc, List.take_append_drop]; exact hW);have hV1 := hVj (j + 1);have hV0 := hVj j;rw [ht, ← List.append_assoc] at hV1;obtain ⟨_, _, hwy⟩ := hV1.inv;have hts : X ++ m.evs.take (j + 1) = (X ++ m.evs.take j) ++ [m.evs[j]] := by rw [ht, List.append_assoc]
   have hWl : (X ++ m.evs.take j).length ≤ 200 := by rw [List.length_append, List.length_take]; omega
   generalize m.evs[j] = e at *;have hel := Bn e;generalize hWW : X ++ m.evs.take j = W at *;obtain ⟨q1, q2⟩ := Axk hV0 hce.2 hwy;simp (disch := omega) only [Ays, hWW, Bl, A7, List.length_map, he, Bq, hel, go_sem];refine Aa (Uo (S := Ac W) (L := W) (Ll hV0 (by omega)) hce.1 (by omega) rfl) ?_;rw [q1, q2, hwy];simp (disch := omega) only [go_sem];refine Av (j + 1) _ _ rfl (by omega) (by omega) ?_ ?_
   · simp (disch := omega) only [go_sem]
   · simp (disch := omega) only [hts, Bl, A7, go_sem]
 · obtain rfl : j = m.evs.length := by omega
   have htk : m.evs.take m.evs.length = m.evs := List.take_length;have p1 := E2 (vE (Af (X ++ m.evs)));have p2 := Vj (Af (X ++ m.evs));simp (disch := omega) only [Ays, htk, Bl, A7, hk, List.length_map, go_sem];refine Aa (Jm (S := Ac (X ++ m.evs)) (L := X ++ m.evs) rfl) ?_;simp (disch := omega) only [hk, p1, p2, go_sem];refine ⟨_, .same _, ?_⟩
   (try simp only [Ii, Ih, Ig, Ie, Ic, Ib, Ia, H9]); simp (disch := omega) only [go_sem]
   exact ⟨900, rfl, rfl⟩
theorem A3p {t u : Nat → Vc} {v : Vc} (ht : Mr (t 1) v) (hu : Mr (u 1) v) : vE (Cs (La t (Cs u 2 v)) 2 v 1) = vE v := Ts fun j hj => by
 have h1 := ht j hj; have h2 := hu j hj;rw [Ec, Mu, Ec, if_pos (by decide), if_pos (by decide)]; omega
theorem A3q {t u : Nat → Vc} {v w : Vc} (ht : Mr (t 0) w) (hu : Mr (u 0) w) : Mr (Cs (La t (Cs u 2 v)) 2 v 0) w := fun j hj => by
 have h1 := ht j hj; have h2 := hu j hj;rw [Ec, Mu, Ec, if_neg (by decide), if_neg (by decide)]; omega
theorem Axu {t u : Nat → Vc} {v : Vc} (ht : Mr (t 0) v) (hu : Mr (u 0) v) : vE (Cs (La u (Cs t 1 v)) 1 v 0) = vE v := Ts fun j hj => by
 have h1 := ht j hj; have h2 := hu j hj;rw [Ec, Mu, Ec, if_pos (by decide), if_pos (by decide)]; omega
theorem A3o {t u : Nat → Vc} {v w : Vc} (ht : Mr (t 1) w) (hu : Mr (u 1) w) : Mr (Cs (La u (Cs t 1 v)) 1 v 1) w := fun j hj => by
 have h1 := ht j hj; have h2 := hu j hj;rw [Ec, Mu, Ec, if_neg (by decide), if_neg (by decide)]; omega
theorem Amh {a b : Vc} (h : vE a = vE b) : Mr a b := fun i hi => by
 have h1 : (vE a)[i]? = (vE b)[i]? := by rw [h]
 unfold vE at h1;rw [E7 hi, E7 hi] at h1;simp at h1; omega
theorem Tq {a b c : Vc} (h : Mr a b) (k : Mr b c) : Mr a c := fun i hi => Nat.le_trans (h i hi) (k i hi)
theorem A5n (t : Nat → Vc) (K : KK) : LoadK (some (tE t)) 8 8 true K = K (.vec 8 (vE (t 1))) [] := by
 simp only [LoadK, Fz, eq_iff_iff];exact ⟨fun h => h.2.2, fun h => ⟨by simp [vE, tE, Br], .inl trivial, h⟩⟩
theorem A5o (t : Nat → Vc) (K : KK) : LoadK (some (tE t)) 0 8 true K = K (.vec 8 (vE (t 0))) [] := by
 simp only [LoadK, Fz, eq_iff_iff];exact ⟨fun h => h.2.2, fun h => ⟨by simp [vE, tE, Br], .inl trivial, h⟩⟩
structure PmP where
 i : Nat
 X : List Evt
 Y : List Evt
 t : Nat → Vc
 u : Nat → Vc
structure PmI (l : List Evt) (p : PmP) : Prop where
 le : p.i ≤ l.length / 8 + 2
 vx : Val p.X
 vy : Val p.Y
 sx : ∀ e ∈ p.X, e ∈ l
 sy : ∀ e ∈ p.Y, e ∈ l
 mx : (Bt (Af p.X) p.Y).length ≤ l.length - 8 * p.i
 my : (Bt (Af p.Y) p.X).length ≤ l.length - 8 * p.i
 t1 : Mr (p.t 1) (Af p.Y)
 u1 : Mr (p.u 1) (Af p.Y)
 t0 : Mr (p.t 0) (Af p.X)
 u0 : Mr (p.u 0) (Af p.X)
 fin : l.length / 8 + 2 ≤ p.i → vE (p.t 1) = vE (Af p.Y) ∧ vE (p.u 0) = vE (Af p.X)
def Lj (p : PmP) : List Evt := p.X ++ Ok p.X p.Y
def pmT (p : PmP) : Nat → Vc := Cs (La p.t (Cs p.u 2 (Af p.Y))) 2 (Af p.Y)
def pmN (p : PmP) : PmP := ⟨p.i + 1, Lj p, p.Y ++ Ok p.Y (Lj p), pmT p, Cs (La p.u (Cs (pmT p) 1 (Af (Lj p)))) 1 (Af (Lj p))⟩
theorem Ms {l X Y : List Evt} (hn : NodE l) (hx : ∀ e ∈ X, e ∈ l) (hy : ∀ e ∈ Y, e ∈ l) : Ac1 X Y := fun e he f hf q => Sv hn (hx e he) (hy f hf) q
theorem A34 {l : List Evt} {p : PmP} (hn : NodE l) (h : PmI l p) : Val (Lj p) ∧ (∀ e ∈ Lj p, e ∈ l) ∧ Val (p.Y ++ Ok p.Y (Lj p)) := by
 have h1 : Val (Lj p) := Aez h.vx h.vy (Ms hn h.sy h.sx);have h2 : ∀ e ∈ Lj p, e ∈ l := fun e he => (List.mem_append.1 he).elim (h.sx e) fun q => h.sy e (Ra q);exact ⟨h1, h2, Aez h.vy h1 (Ms hn h2 h.sy)⟩
theorem Aud {l : List Evt} {p : PmP} (hn : NodE l) (h : PmI l p) (hi : p.i < l.length / 8 + 2) : PmI l (pmN p) := by
 obtain ⟨h1, h2, h3⟩ := A34 hn h;have hU := Ms hn h.sy h.sx;have hU2 := Ms hn h2 h.sy;have e1 : Bt (Af (Lj p)) p.Y = (Bt (Af p.X) p.Y).drop 8 := Ahl h.vx h.vy hU;have e2 : Bt (Af (Lj p)) (p.Y ++ Ok p.Y (Lj p)) = Bt (Af (Lj p)) p.Y := Ab6 h1;have e3 : Bt (Af (p.Y ++ Ok p.Y (Lj p))) (Lj p) = (Bt (Af p.Y) (Lj p)).drop 8 := Ahl h.vy h1 hU2;have e4 : Bt (Af p.Y) (Lj p) = Bt (Af p.Y) p.X := Ab6 h.vy;have m1 := h.mx;have m2 := h.my;have kx : Mr (Af p.X) (Af (Lj p)) := fun i hi => N7 _ _ i hi;have ky : Mr (Af p.Y) (Af (p.Y ++ Ok p.Y (Lj p))) := fun i hi => N7 _ _ i hi;have a1 : vE (pmT p 1) = vE (Af p.Y) := A3p h.t1 h.u1;have a0 : Mr (pmT p 0) (Af (Lj p)) := Tq (A3q h.t0 h.u0) kx;refine ⟨hi, h1, h3, h2, fun e he => (List.mem_append.1 he).elim (h.sy e) fun q => h2 e (Ra q), ?_, ?_, Tq (Amh a1) ky, ?_, a0, ?_, fun hR => ?_⟩
 · show (Bt (Af (Lj p)) (p.Y ++ Ok p.Y (Lj p))).length ≤ l.length - 8 * (p.i + 1);rw [e2, e1, List.length_drop]; omega
 · show (Bt (Af (p.Y ++ Ok p.Y (Lj p))) (Lj p)).length ≤ l.length - 8 * (p.i + 1);rw [e3, e4, List.length_drop]; omega
 · exact Tq (A3o (Amh a1) h.u1) ky
 · exact Amh (Axu a0 (Tq h.u0 kx))
 · have hR' : l.length / 8 + 2 ≤ p.i + 1 := hR;have hz : (Bt (Af p.Y) (Lj p)).length = 0 := by rw [e4]; omega
   have hg : Ok p.Y (Lj p) = [] := by unfold Ok; rw [List.eq_nil_of_length_eq_zero hz]; rfl
   refine ⟨?_, Axu a0 (Tq h.u0 kx)⟩;show vE (pmT p 1) = vE (Af (p.Y ++ Ok p.Y (Lj p)));rw [hg, List.append_nil]; exact a1
theorem Azu {l : List Evt} {p : PmP} (hn : NodE l) (h : PmI l p) (hi : p.i = l.length / 8 + 2) : Ac p.X = Ac p.Y ∧ vE (p.t 1) = vE (Af p.Y) ∧ vE (p.u 0) = vE (Af p.X) := by
 have m1 := h.mx;have m2 := h.my;have h1 := Xl h.vx (Ms hn h.sy h.sx) (List.eq_nil_of_length_eq_zero (by omega));have h2 := Xl h.vy (Ms hn h.sx h.sy) (List.eq_nil_of_length_eq_zero (by omega));exact ⟨Afj h.vx h.vy (Aug h.vx h.vy fun e => ⟨h2 e, h1 e⟩), h.fin (by omega)⟩
theorem Axn {cs : List PV} (hc : GC Aau cs) : ∃ e : Evt, cs = Bo e ∧ (EvRaw e ∧ En e = e) := by
 obtain ⟨e, h1, h2, h3, h4⟩ := Axo hc;refine ⟨e, h1, ⟨h2, by rw [h3]; exact .inr rfl, by rw [h4]; exact .inr rfl⟩, ?_⟩;unfold En;rw [← h3, ← h4]
theorem Axp {cs : List PV} (h : GC (.sl Aau) cs) : ∃ l : List Evt, cs = [.sl false 21 (l.map Bo)] ∧ ∀ e ∈ l, EvRaw e ∧ En e = e := by
 obtain ⟨es, rfl, _, g⟩ := Ast h;obtain ⟨l, rfl, hl⟩ := Z1 (f := Bo) (p := fun e => EvRaw e ∧ En e = e) Axn g;exact ⟨l, rfl, hl⟩
def Ja (a : Vc) (l : List Evt) : List Evt := l.filter fun e => A4 a e.rep e.seq
theorem W7 (a : Vc) (l : List Evt) (e : Evt) : Ja a (l ++ [e]) = if A4 a e.rep e.seq = true then Ja a l ++ [e] else Ja a l := by
 unfold Ja;rw [List.filter_append, List.filter_cons];by_cases h : A4 a e.rep e.seq = true
 · rw [if_pos h, if_pos h]; simp
 · rw [if_neg h, if_neg h]; simp
theorem Jk {a : Vc} {l : List Evt} {e : Evt} (h : e ∈ Ja a l) : e ∈ l := (List.mem_filter.1 h).1
theorem Ox (a : Vc) (l : List Evt) : (Ja a l).length ≤ l.length := List.length_filter_le _ _
def Ams (l : List Evt) (a b : Vc) (k : Nat) : FS := mk [(29, .pv (.i .i64 k)), (28, .pv (.i .i64 l.length)), (27, .pv (.sl false 21 (l.map Bo))), (0, .pv (.sl false 21 (l.map Bo))), (4, .p 4 0), (5, .p 5 0)] [(4, some (.var (.vec 8 (vE a)))), (5, some (.var (.vec 8 (vE b))))]
def Agc (l : List Evt) (a b : Vc) (k : Nat) (e : Evt) (s : List (List PV)) (f : Bool) (j : Nat) : FS := mk [(38, .pv (.i .i64 j)), (37, .pv (.i .i64 k)), (36, .pv (.sl f 21 s)), (8, .p 8 0), (29, .pv (.i .i64 k)), (28, .pv (.i .i64 l.length)), (27, .pv (.sl false 21 (l.map Bo))), (0, .pv (.sl false 21 (l.map Bo))), (4, .p 4 0), (5, .p 5 0)] [(8, some (.var (.vec 21 (Bo e)))), (4, some (.var (.vec 8 (vE a)))), (5, some (.var (.vec 8 (vE b))))]
noncomputable def hiT (T : List Evt) : SV := Lk (Ac T) (fun _ => 0) T
noncomputable def Amr (l : List Evt) (a b : Vc) (k : Nat) : FS := mk [(55, .pv (.i .i64 k)), (54, .pv (.i .i64 l.length)), (53, .pv (.sl false 21 (l.map Bo))), (0, .pv (.sl false 21 (l.map Bo))), (11, .p 50 0), (12, .p 52 0), (4, .p 4 0), (5, .p 5 0)] [(4, some (.var (.vec 8 (vE a)))), (5, some (.var (.vec 8 (vE b)))), (50, some (.var (hiT (Hv (Ja a (l.take k)))))), (52, some (.var (hiT (Hv (Ja b (l.take k))))))]
theorem Ah2 {T : List Evt} {e : Evt} (h : Val T) (hc : En e = e) : Lk (Nr (Ac T) e) (fun _ => 0) (P7 (Ac T) T e) = hiT (Qj T e) := by
 unfold hiT Qj Nr P7;by_cases hw : Fk (Ac T) e = 0
 · rw [if_pos hw, if_pos hw, if_pos hw, K6 h (Hm.1 hw), hc]
 · rw [if_neg hw, if_neg hw, if_neg hw]
theorem A5z (n : Nat) (T : List Evt) : SV.kill n (hiT T) = hiT T := rfl
theorem A3g (T : List Evt) : SV.width (hiT T) = 35 := rfl
theorem A6p (n : Nat) (p : PV) (T : List Evt) : SV.frz n p (hiT T) = hiT T := rfl
attribute [go_sem] A5z A3g A6p
theorem Ap2 (t : Nat → Vc) {a b : Int} (v : Vc) (ha : 1 ≤ a ∧ a ≤ 8) (hb : 1 ≤ b ∧ b ≤ 8) (hn : a ≠ b) : Ac4 (Wv t a b v) := ⟨.inl rfl, ha, hb, hn, Nat.zero_le _, fun _ => rfl⟩
theorem Agz {X Y : List Evt} (t u : Nat → Vc) {a b : Int} (ha : 1 ≤ a ∧ a ≤ 8) (hb : 1 ≤ b ∧ b ≤ 8) (hn : a ≠ b) (hY : ∀ e ∈ Y, ev e ∧ En e = e) (hl : Y.length ≤ 100) {g : Nat} {h d} (hg : h g = some (.var (Lk (Ac Y) (fun _ => 0) Y))) :
 FunOk Try.prog 23 [.p g 0, .vec 64 (tE u), .pv (.i .i64 b), .agg (Jb (Wv t a b (Af X)))] h d (.tup [.agg (Jb (Wr u b a (Af Y) (Ok X Y))), .pv (.i .i64 0)]) [] := by
 have h1 := An9 (S := Ac Y) (L := Y) (fl := fun _ => 0) u (Wv t a b (Af X)) (h := h) (d := d) rfl (Ap2 t _ ha hb hn) (fun i _ => Nat.zero_le _) hY hl hg;rw [Be] at h1;exact h1.imp ⟨Imp.refl _, Imp.refl _, Imp.refl _, U8 _, trivial⟩ (by simp [Aw, tn, Oo])
theorem Agv {X E : List Evt} {fl : Vc} (t : Nat → Vc) (a b : Int) (v : Vc) (hW : Val (X ++ E)) (hc : ∀ e ∈ E, ev e ∧ En e = e) (hn : X.length + E.length ≤ 200) {g : Nat} {h d} (hg : h g = some (.var (Lk (Ac X) fl X))) :
 FunOk Try.prog 25 [.p g 0, .agg (Jb (Wr t a b v E))] h d (.pv (.b true)) [.upd g (.var (Lk (Ac (X ++ E)) fl (X ++ E)))] :=
 (Auj (m := Wr t a b v E) hW rfl hc hn hg).imp ⟨Imp.refl _, U8 _, trivial⟩ (by simp [Aw, tn, Oo])
theorem Abb (t u : Nat → Vc) {a b : Int} (v : Vc) (E : List Evt) (ha : 1 ≤ a ∧ a ≤ 8) {h d} :
 FunOk Try.prog 26 [.vec 64 (tE t), .agg (Jb (Wr u a b v E))] h d (.vec 64 (tE (Cs (La t (Cs u a v)) a v))) [] :=
 (An5 t (Wr u a b v E) (by show _ ≤ a ∧ a < _; omega)).imp ⟨Imp.refl _, U8 _, trivial⟩ (by simp [Aw, tn, Oo])
noncomputable def Ayt (l : List Evt) (p : PmP) : FS := mk [(78, .pv (.i .i64 p.i)), (77, .pv (.i .i64 (l.length / 8 + 2 : Nat))), (11, .p 50 0), (12, .p 52 0), (15, .p 15 0), (16, .p 16 0)] [(15, some (.var (.vec 64 (tE p.t)))), (16, some (.var (.vec 64 (tE p.u)))), (50, some (.var (hiT p.X))), (52, some (.var (hiT p.Y)))]
set_option maxHeartbeats 16000000 in
theorem Ajz {l : List Evt} (a b : Vc) (hl : ∀ e ∈ l, EvRaw e ∧ En e = e) {h d} :
 FunOk Try.prog 6 [.pv (.sl false 21 (l.map Bo)), .vec 8 (vE a), .vec 8 (vE b)] h d (.pv (.b true)) [] := by
 refine Ax An fn6 (by simp) rfl rfl fun F => ?_;simp (disch := omega) only [ir6, go_sem];refine Aa Xb ?_;simp (disch := omega) only [go_sem];refine Aa (Aoa (l := l) rfl rfl) ?_;by_cases hf' : Ah5 l;rotate_left
 · have hf := Zw hf';simp (disch := omega) only [hf, go_sem];refine Aa Xb ?_;simp (disch := omega) only [go_sem]
 have hf := Ahu hf';have hin : ∀ e ∈ l, EvIn e := fun x hx => Azr (hl x hx).1 (hf'.2 x hx);have hl25 := hf'.1;simp (disch := omega) only [hf, List.length_map, go_sem];refine Bc An (Ams l a b) (fun k => k ≤ l.length ∧ NodE (l.take k)) (fun k => l.length - k) 0 ⟨by simp, List.nodup_nil⟩ (A2 ?_ ?_) fun k hk => ?_
 · simp (disch := omega) only [go_sem]
 · simp (disch := omega) only [go_sem]
 obtain ⟨hk1, hk2⟩ := hk;by_cases hlt : k < l.length
 · have hx : l[k]? = some l[k] := List.getElem?_eq_getElem hlt;have he : (l.map Bo)[k]? = some (Bo l[k]) := by rw [List.getElem?_map, hx]; rfl
   have ht := F8 hx;generalize l[k] = e at *;have hel := Bn e;have htl : (l.map Bo).take k = (l.take k).map Bo := by rw [List.map_take]
   have hkl : (l.take k).length = k := by rw [List.length_take]; omega
   simp (disch := omega) only [Ams, List.length_map, he, Bq, hel, htl, hkl, go_sem];refine Bc An (Agc l a b k e ((l.take k).map Bo) false) (fun j => j ≤ k ∧ ∀ i x, i < j → (l.take k)[i]? = some x → Al x ≠ Al e) (fun j => k - j) 0 ⟨by omega, fun i x hi => absurd hi (Nat.not_lt_zero i)⟩ (A2 ?_ ?_) fun j hj => ?_
   · simp (disch := omega) only [go_sem]
   · simp (disch := omega) only [go_sem]
   obtain ⟨hj1, hj2⟩ := hj;by_cases hjl : j < k
   · have hjl' : j < (l.take k).length := by omega
     have hxj : (l.take k)[j]? = some (l.take k)[j] := List.getElem?_eq_getElem hjl';have hej : ((l.take k).map Bo)[j]? = some (Bo (l.take k)[j]) := by rw [List.getElem?_map, hxj]; rfl
     generalize (l.take k)[j] = y at *;have hely := Bn y;by_cases hne : Al y = Al e
     · have hp := Y2 hne;simp (disch := omega) only [Agc, List.length_map, hkl, hej, Bq, hely, Bv, Am, M7, hp, go_sem]
     · have hp := Y3 hne;simp (disch := omega) only [Agc, List.length_map, hkl, hej, Bq, hely, Bv, Am, M7, hp, go_sem];refine Av (j + 1) _ _ rfl ⟨by omega, fun i x hi hix => ?_⟩ (by omega) ?_ ?_
       · by_cases eij : i = j
         · subst eij; rw [hxj] at hix; cases hix; exact hne
         · exact hj2 i x (by omega) hix
       · simp (disch := omega) only [go_sem]
       · simp (disch := omega) only [go_sem]
   · obtain rfl : j = k := by omega
     simp (disch := omega) only [Agc, go_sem];refine Av (j + 1) _ _ rfl ⟨by omega, ?_⟩ (by omega) ?_ ?_
     · rw [ht];unfold NodE at hk2 ⊢;rw [List.map_append, List.nodup_append];refine ⟨hk2, by simp, fun x hx y hy q => ?_⟩;obtain ⟨g, hg, rfl⟩ := List.mem_map.1 hx;simp at hy;obtain ⟨i, hi⟩ := List.mem_iff_getElem?.1 hg;have hil := (List.getElem?_eq_some_iff.1 hi).1;exact hj2 i g (by omega) hi (by rw [q, hy])
     · simp (disch := omega) only [go_sem]
     · simp (disch := omega) only [go_sem]
 obtain rfl : k = l.length := by omega
 have htk : l.take l.length = l := List.take_length;rw [htk] at hk2;simp (disch := omega) only [Ams, List.length_map, go_sem];refine Aa (FunOk.imp (Pa (S := Ac []) Vk) ⟨Lr, trivial⟩ (by simp [Aw, tn, Lm])) ?_;simp (disch := omega) only [Zj, go_sem];refine Aa (FunOk.imp (Pa (S := Ac []) Vk) ⟨Lr, trivial⟩ (by simp [Aw, tn, Lm])) ?_;simp (disch := omega) only [Zj, List.length_map, go_sem];refine Bc An (Amr l a b) (fun k => k ≤ l.length) (fun k => l.length - k) 0 (by simp) (A2 ?_ ?_) fun k hk => ?_
 · simp (disch := omega) only [go_sem]
 · simp (disch := omega) only [Hv, Ja, List.take_zero, List.filter_nil, List.foldl_nil, hiT, go_sem]
 by_cases hlt : k < l.length
 · have hx : l[k]? = some l[k] := List.getElem?_eq_getElem hlt;have he : (l.map Bo)[k]? = some (Bo l[k]) := by rw [List.getElem?_map, hx]; rfl
   have ht := F8 hx;have hmem := List.getElem_mem hlt;have hek := hin _ hmem;have hcan := (hl _ hmem).2;have sa := W7 a (l.take k) l[k];have sb := W7 b (l.take k) l[k];rw [← ht] at sa sb;obtain ⟨ta, la, _⟩ := Ot (Ja a (l.take k)) fun e he => (hin e (List.mem_of_mem_take (Jk he))).ev;obtain ⟨tb, lb, _⟩ := Ot (Ja b (l.take k)) fun e he => (hin e (List.mem_of_mem_take (Jk he))).ev;have la2 := Ox a (l.take k);have lb2 := Ox b (l.take k);have lk := List.length_take_le k l;have ka := Nw (Ja a (l.take k)) l[k];have kb := Nw (Ja b (l.take k)) l[k];generalize hSA : Ja a (l.take k) = SA at *;generalize hSB : Ja b (l.take k) = SB at *;generalize hTA : Hv SA = TA at *;generalize hTB : Hv SB = TB at *;generalize l[k] = e at *;have hel := Bn e;have ia := Ll ta (by omega);have ib := Ll tb (by omega);have qa := Ah2 ta hcan;have qb := Ah2 tb hcan;simp (disch := omega) only [Amr, hSA, hSB, hTA, hTB, List.length_map, he, Bq, hel, Bv, go_sem];refine Aa (Aed _ _ _) ?_;by_cases hA : A4 a e.rep e.seq = true
   · rw [if_pos hA] at sa;simp (disch := omega) only [hA, Bq, hel, go_sem];refine Aa (Uo (S := Ac TA) (L := TA) ia hek.ev (by omega) rfl) ?_;rw [qa];simp (disch := omega) only [Bv, go_sem];refine Aa (Aed _ _ _) ?_;by_cases hb : A4 b e.rep e.seq = true
     · rw [if_pos hb] at sb;simp (disch := omega) only [hb, Bq, hel, go_sem];refine Aa (Uo (S := Ac TB) (L := TB) ib hek.ev (by omega) rfl) ?_;rw [qb];simp (disch := omega) only [go_sem];refine Av (k + 1) _ _ rfl (by omega) (by omega) ?_ ?_
       · simp (disch := omega) only [go_sem]
       · simp (disch := omega) only [sa, sb, ka, kb, hSA, hSB, hTA, hTB, go_sem]
     · rw [if_neg hb] at sb;have hb' : A4 b e.rep e.seq = false := by simpa using hb
       simp (disch := omega) only [hb', go_sem];refine Av (k + 1) _ _ rfl (by omega) (by omega) ?_ ?_
       · simp (disch := omega) only [go_sem]
       · simp (disch := omega) only [sa, sb, ka, kb, hSA, hSB, hTA, hTB, go_sem]
   · rw [if_neg hA] at sa;have hA' : A4 a e.rep e.seq = false := by simpa using hA
     simp (disch := omega) only [hA', Bv, go_sem];refine Aa (Aed _ _ _) ?_;by_cases hb : A4 b e.rep e.seq = true
     · rw [if_pos hb] at sb;simp (disch := omega) only [hb, Bq, hel, go_sem];refine Aa (Uo (S := Ac TB) (L := TB) ib hek.ev (by omega) rfl) ?_;rw [qb];simp (disch := omega) only [go_sem];refine Av (k + 1) _ _ rfl (by omega) (by omega) ?_ ?_
       · simp (disch := omega) only [go_sem]
       · simp (disch := omega) only [sa, sb, ka, kb, hSA, hSB, hTA, hTB, go_sem]
     · rw [if_neg hb] at sb;have hb' : A4 b e.rep e.seq = false := by simpa using hb
       simp (disch := omega) only [hb', go_sem];refine Av (k + 1) _ _ rfl (by omega) (by omega) ?_ ?_
       · simp (disch := omega) only [go_sem]
       · simp (disch := omega) only [sa, sb, ka, kb, hSA, hSB, hTA, hTB, go_sem]
 obtain rfl : k = l.length := by omega
 obtain ⟨ta, la, ma⟩ := Ot (Ja a l) fun e he => (hin e (Jk he)).ev;obtain ⟨tb, lb, mb⟩ := Ot (Ja b l) fun e he => (hin e (Jk he)).ev;have la2 := Ox a l;have lb2 := Ox b l;have ma' : ∀ e ∈ Hv (Ja a l), e ∈ l := fun e he => Jk (ma e he);have mb' : ∀ e ∈ Hv (Ja b l), e ∈ l := fun e he => Jk (mb e he);simp (disch := omega) only [Amr, List.length_map, htk, go_sem];generalize Hv (Ja a l) = X at *;generalize Hv (Ja b l) = Y at *;have hXX := Hp (Eh ta.nod) ma';have hYY := Hp (Eh tb.nod) mb';have hq : ((l.length : Int)).tdiv 8 = ((l.length / 8 : Nat) : Int) := rfl;simp (disch := omega) only [List.length_map, hq, go_sem];have hs1 : (Bt (Af X) Y).length ≤ l.length := Nat.le_trans (List.length_filter_le _ _) hYY;have hs2 : (Bt (Af Y) X).length ≤ l.length := Nat.le_trans (List.length_filter_le _ _) hXX;refine Bc An (Ayt l) (PmI l) (fun p => l.length / 8 + 2 - p.i) ⟨0, X, Y, fun _ _ => 0, fun _ _ => 0⟩ ⟨Nat.zero_le _, ta, tb, ma', mb', hs1, hs2, fun _ _ => Nat.zero_le _, fun _ _ => Nat.zero_le _, fun _ _ => Nat.zero_le _, fun _ _ => Nat.zero_le _, fun h => absurd (show l.length / 8 + 2 ≤ 0 from h) (by omega)⟩ (A2 ?_ ?_) fun p hp => ?_
 · (try simp only [Ii, Ih, Ig, Ie, Ic, Ib, Ia, H9]); simp (disch := omega) only [go_sem]
 · (try simp only [Ii, Ih, Ig, Ie, Ic, Ib, Ia, H9]); simp (disch := omega) only [hiT, go_sem]
 clear hXX hYY hs1 hs2 ta tb ma' mb' la lb la2 lb2;have hXX := Hp (Eh hp.vx.nod) hp.sx;have hYY := Hp (Eh hp.vy.nod) hp.sy;by_cases hlt : p.i < l.length / 8 + 2
 · have hst := Aud hk2 hp hlt;obtain ⟨v1, s1, v2⟩ := A34 hk2 hp;have hcx : ∀ e ∈ p.X, ev e ∧ En e = e := fun e he => ⟨(hin e (hp.sx e he)).ev, (hl e (hp.sx e he)).2⟩
   have hcy : ∀ e ∈ p.Y, ev e ∧ En e = e := fun e he => ⟨(hin e (hp.sy e he)).ev, (hl e (hp.sy e he)).2⟩
   have hc1 : ∀ e ∈ Lj p, ev e ∧ En e = e := fun e he => ⟨(hin e (s1 e he)).ev, (hl e (s1 e he)).2⟩
   have hX1 := Hp (Eh v1.nod) s1;have hgl : ∀ A B : List Evt, (Ok A B).length ≤ 8 := fun A B => List.length_take_le 8 _;have g1 := hgl p.X p.Y;have g2 := hgl p.Y (Lj p);have kx : (Ac p.X).known = Af p.X := Be _;have ky : (Ac p.Y).known = Af p.Y := Be _;have kx1 : (Ac (Lj p)).known = Af (Lj p) := Be _;simp (disch := omega) only [Ayt, hiT, List.length_map, go_sem];refine Aa (E := (Oc Try.prog F 147).reg) (Y9 (S := Ac p.X) (L := p.X) (fl := fun _ => 0) p.t 1 2 (by omega) rfl) ?_;rw [kx];simp (disch := omega) only [Jb, Qn, go_sem];refine Aa (E := (Oc Try.prog F 147).reg) (Agz (a := 1) (b := 2) (X := p.X) (Y := p.Y) p.t p.u (by decide) (by decide) (by decide) hcy (by omega) rfl) ?_;simp (disch := omega) only [Jb, Qn, go_sem];refine Aa (Agv (X := p.X) (E := Ok p.X p.Y) p.u 2 1 (Af p.Y) v1 (fun e he => hcy e (Ra he)) (by omega) rfl) ?_;simp (disch := omega) only [go_sem];refine Aa (Abb p.t p.u (Af p.Y) (Ok p.X p.Y) (by decide)) ?_;simp (disch := omega) only [go_sem];refine Aa (E := (Oc Try.prog F 147).reg) (Y9 (S := Ac p.Y) (L := p.Y) (fl := fun _ => 0) p.u 2 1 (by omega) rfl) ?_;rw [ky];simp (disch := omega) only [Jb, Qn, go_sem];refine Aa (E := (Oc Try.prog F 147).reg) (Agz (a := 2) (b := 1) (X := p.Y) (Y := Lj p) p.u (pmT p) (by decide) (by decide) (by decide) hc1 (by omega) rfl) ?_;simp (disch := omega) only [Jb, Qn, go_sem];refine Aa (Agv (X := p.Y) (E := Ok p.Y (Lj p)) (pmT p) 1 2 (Af (Lj p)) v2 (fun e he => hc1 e (Ra he)) (by omega) rfl) ?_;simp (disch := omega) only [go_sem];refine Aa (Abb p.u (pmT p) (Af (Lj p)) (Ok p.Y (Lj p)) (by decide)) ?_;simp (disch := omega) only [go_sem];refine Av (x := p) (pmN p) _ _ rfl hst (by show l.length / 8 + 2 - (p.i + 1) < l.length / 8 + 2 - p.i; omega) ?_ ?_
   · simp (disch := omega) only [pmN, go_sem]
   · simp (disch := omega) only [pmN, Lj, pmT, hiT, go_sem]
 · obtain hpi : p.i = l.length / 8 + 2 := by have := hp.le; omega
   obtain ⟨hbe, f1, f2⟩ := Azu hk2 hp hpi;have hbx : (Ac p.Y).known = Af p.X := by rw [← hbe]; exact Be _
   have hky : Af p.Y = Af p.X := by rw [← hbx]; exact (Be _).symm
   rw [hky] at f1;have hfin := (Ll hp.vy (by omega)).fine;have hpq := E2 (vE (Af p.X));have hfi := Vj (Af p.X);simp (disch := omega) only [Ayt, hiT, hpi, hbe, go_sem];refine Aa (E := (Oc Try.prog F 147).reg) (Jm (S := Ac p.Y) (L := p.X) rfl) ?_;simp (disch := omega) only [hbx, go_sem];refine Aa (E := (Oc Try.prog F 147).reg) (Jm (S := Ac p.Y) (L := p.Y) rfl) ?_;simp (disch := omega) only [hbx, hpq, hfi, go_sem];refine Aa (E := (Oc Try.prog F 147).reg) (O9 (S := Ac p.Y) (L := p.X) hfin rfl) ?_;simp (disch := omega) only [Bl, A7, go_sem];refine Aa (E := (Oc Try.prog F 147).reg) (O9 (S := Ac p.Y) (L := p.Y) hfin rfl) ?_;simp (disch := omega) only [Bl, A7, go_sem];refine Aa (E := (Oc Try.prog F 147).reg) (An3 (s := Ac p.Y) hfin) ?_;simp (disch := omega) only [A5n, f1, go_sem];refine Aa (E := (Oc Try.prog F 147).reg) (Jm (S := Ac p.Y) (L := p.Y) rfl) ?_;simp (disch := omega) only [hbx, hpq, hfi, A5o, f2, go_sem];refine Aa (E := (Oc Try.prog F 147).reg) (Jm (S := Ac p.Y) (L := p.X) rfl) ?_;simp (disch := omega) only [hbx, hpq, hfi, go_sem]
theorem Ve {c0 c1 c2 : List PV} (g0 : GC (.sl Aau) c0) (g1 : GC (.arr 8 (.int .u32)) c1) (g2 : GC (.arr 8 (.int .u32)) c2) {h d} :
 FunOk Try.prog 6 [Hd (.sl Aau) c0, Hd (.arr 8 (.int .u32)) c1, Hd (.arr 8 (.int .u32)) c2] h d (.pv (.b true)) [] := by
 obtain ⟨l, rfl, hl⟩ := Axp g0;obtain ⟨a, rfl, _⟩ := Ass g1;obtain ⟨b, rfl, _⟩ := Ass g2;exact Ajz a b hl
end Go.Proofs.Ythmjebkldgdeiaa.Fw
