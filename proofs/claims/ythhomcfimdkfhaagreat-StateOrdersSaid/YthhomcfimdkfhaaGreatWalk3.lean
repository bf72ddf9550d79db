/- What the functions compute that the laws of this seat reach. -/
import Derived.Test.YthhomcfimdkfhaaGreatWalk2
import Derived.OpenShut
import Derived.ShutString
import Derived.ChangeOld
import Derived.SizedLaws
import Derived.ChangeOld
import Derived.Lib.Bytealg
import Derived.Lib.Overlaps
import Derived.OpenShut
import Derived.ShutString
import Derived.SizedLaws
set_option linter.unusedVariables false
set_option linter.unusedSimpArgs false
set_option linter.unusedSectionVars false
set_option maxRecDepth 100000
namespace Go.Proofs.YthhomcfimdkfhaaGreat.Fw
open Go.RowKit Go.Proofs
theorem Ng (v : Vc) (a b : Bi) : A3 (A3 v a.1 a.2) b.1 b.2 = A3 (A3 v b.1 b.2) a.1 a.2 := by
 rw [Kg, Kg, Kg, Kg, Hv, Ub (Ate a), ← Hv]
theorem Kw {α β : Type} {f : β → α → β} {l m : List α} (h : l.Perm m) (b : β) (hc : ∀ x ∈ l, ∀ y ∈ l, ∀ z, f (f z x) y = f (f z y) x) : l.foldl f b = m.foldl f b := h.foldl_eq' hc b
theorem Ae3 {l m : List Evt} (h : l.Perm m) : Bw l = Bw m := Kw h _ fun x _ y _ z => Ng z (Aj x) (Aj y)
theorem Aqt {l m : List Evt} (h : l.Perm m) (obj id : Bi) : byG l obj id = byG m obj id := Kw h _ fun x _ y _ z => by
 by_cases h1 : Hb x obj id = true <;> by_cases h2 : Hb y obj id = true <;> simp only [h1, h2, if_true, if_false, Bool.false_eq_true];exact Ng z (Aj x) (Aj y)
theorem Apk {l m : List Evt} (h : l.Perm m) (obj id : Bi) : gvG l obj id = gvG m obj id := Kw h _ fun x _ y _ z => by
 by_cases h1 : Wp x obj id = true <;> by_cases h2 : Wp y obj id = true <;> simp only [h1, h2, if_true, if_false, Bool.false_eq_true];exact Ng z (Aj x) (Aj y)
theorem Zx {l : List Evt} (hn : NodE l) {e f : Evt} (he : e ∈ l) (hf : f ∈ l) (h : Aj e = Aj f) : e = f := by
 have h1 := I0 hn he;have h2 := I0 hn hf;rw [h] at h1; rw [h1] at h2; exact Option.some.inj h2
theorem Lf {l : List Evt} (hn : NodE l) : l.Nodup := by
 unfold NodE List.Nodup at *;rw [List.pairwise_map] at hn;exact hn.imp fun h q => h (by rw [q])
theorem Akm {l m : List Evt} (hl : NodE l) (hm : NodE m) (h : l.Perm m) (i : Bi) : F7 l i = F7 m i := by
 cases h1 : F7 l i with
 | some e =>
   have he := List.mem_of_find?_eq_some h1;have hi : Aj e = i := by simpa using List.find?_some h1
   rw [← hi, I0 hm (h.mem_iff.1 he)]
 | none =>
   cases h2 : F7 m i with
   | none => rfl
   | some e =>
     have he := List.mem_of_find?_eq_some h2;have hi : Aj e = i := by simpa using List.find?_some h2
     rw [← hi, I0 hl (h.mem_iff.2 he)] at h1; cases h1
theorem V8 {l m : List Evt} (hl : NodE l) (hm : NodE m) (h : l.Perm m) : ∀ (n : Nat) (i : Bi), Cr l n i = Cr m n i
 | 0, i => rfl
 | n + 1, i => by
   simp only [Cr];rw [Akm hl hm h i];cases F7 m i with
   | none => rfl
   | some e =>
     simp only;congr 1;cases e.base.l with
     | nil => rfl
     | cons b t => exact V8 hl hm h n b
theorem W4 {l m : List Evt} (hl : NodE l) (hm : NodE m) (h : l.Perm m) (e : Evt) : Fi l l e = Fi m m e := by
 unfold Fi;rw [V8 hl hm h, Apk h, h.length_eq]
theorem Aia {l m : List Evt} (hl : NodE l) (hm : NodE m) (h : l.Perm m) (obj : Bi) : Cj l obj l = Cj m obj m := by
 obtain ⟨s1, _, m1⟩ := D9 hl obj;obtain ⟨s2, _, m2⟩ := D9 hm obj;refine Q8 s1 s2 fun v => ?_;rw [m1, m2];constructor
 · rintro ⟨g, hg, hc, rfl⟩; exact ⟨g, h.mem_iff.1 hg, hc, W4 hl hm h g⟩
 · rintro ⟨g, hg, hc, rfl⟩; exact ⟨g, h.mem_iff.2 hg, hc, (W4 hl hm h g).symm⟩
theorem Aks {l m : List Evt} (hl : NodE l) (hm : NodE m) (h : l.Perm m) : Cm l l = Cm m m := by
 obtain ⟨s1, m1⟩ := Kq (l := l) l hl;obtain ⟨s2, m2⟩ := Kq (l := m) m hm;have hB : ∀ e, Cu l e = Cu m e := fun e => by unfold Cu; rw [Aqt h]
 refine Kj s1 s2 fun x => ?_;rw [m1, m2];constructor
 · rintro ⟨g, hg, hc, rfl⟩; exact ⟨g, h.mem_iff.1 hg, hc, hB g⟩
 · rintro ⟨g, hg, hc, rfl⟩; exact ⟨g, h.mem_iff.2 hg, hc, (hB g).symm⟩
theorem Aii (e : Evt) (o : Obj) (f g : Evt) (hne : Aj f ≠ Aj g) : Dh e (Dh e o f) g = Dh e (Dh e o g) f := by
 by_cases hf : Aw f = Aj e;rotate_left
 · have h1 : ∀ o, Dh e o f = o := fun o => if_neg hf;rw [h1, h1]
 by_cases hg : Aw g = Aj e;rotate_left
 · have h1 : ∀ o, Dh e o g = o := fun o => if_neg hg;rw [h1, h1]
 have sf : ∀ o, Dh e o f = if f.kind = 7 then (if Bp o.last.1 o.last.2 f.rep f.seq = true then { o with last := Aj f, name := f.name } else o)
  else if f.kind = 6 then { o with seen := Ck o.seen (A3 f.dep f.rep f.seq) } else o := fun o => if_pos hf
 have sg : ∀ o, Dh e o g = if g.kind = 7 then (if Bp o.last.1 o.last.2 g.rep g.seq = true then { o with last := Aj g, name := g.name } else o)
  else if g.kind = 6 then { o with seen := Ck o.seen (A3 g.dep g.rep g.seq) } else o := fun o => if_pos hg
 rw [sf, sg, sg, sf];by_cases f7 : f.kind = 7
 · by_cases g7 : g.kind = 7
   · simp only [f7, g7, if_true];have key : ∀ a b : Bi, Bp a.1 a.2 b.1 b.2 = Hj a b := fun _ _ => rfl;by_cases c1 : Hj o.last (Aj f) = true <;> by_cases c2 : Hj o.last (Aj g) = true
     · have c1' : Bp o.last.1 o.last.2 f.rep f.seq = true := c1;have c2' : Bp o.last.1 o.last.2 g.rep g.seq = true := c2;simp only [c1', c2', if_true];by_cases c3 : Bp f.rep f.seq g.rep g.seq = true
       · have c4 : ¬ Bp g.rep g.seq f.rep f.seq = true := O5 (a := Aj f) (b := Aj g) c3;simp only [c3, c4, if_true, if_false, Bool.false_eq_true]
       · have c4 : Bp g.rep g.seq f.rep f.seq = true := Lm (a := Aj f) (b := Aj g) c3 hne;simp only [c3, c4, if_true, if_false, Bool.false_eq_true]
     · have c1' : Bp o.last.1 o.last.2 f.rep f.seq = true := c1;have c2' : ¬ Bp o.last.1 o.last.2 g.rep g.seq = true := c2;have c3 : ¬ Bp f.rep f.seq g.rep g.seq = true := fun q => c2 (E8 c1 q);simp only [c1', c2', c3, if_true, if_false, Bool.false_eq_true]
     · have c1' : ¬ Bp o.last.1 o.last.2 f.rep f.seq = true := c1;have c2' : Bp o.last.1 o.last.2 g.rep g.seq = true := c2;have c3 : ¬ Bp g.rep g.seq f.rep f.seq = true := fun q => c1 (E8 c2 q);simp only [c1', c2', c3, if_true, if_false, Bool.false_eq_true]
     · have c1' : ¬ Bp o.last.1 o.last.2 f.rep f.seq = true := c1;have c2' : ¬ Bp o.last.1 o.last.2 g.rep g.seq = true := c2;simp only [c1', c2', if_false, Bool.false_eq_true]
   · simp only [if_pos f7, if_neg g7];by_cases g6 : g.kind = 6
     · simp only [if_pos g6];by_cases c1 : Bp o.last.1 o.last.2 f.rep f.seq = true
       · simp only [if_pos c1]
       · simp only [if_neg c1]
     · simp only [if_neg g6]
 · simp only [if_neg f7];by_cases f6 : f.kind = 6
   · simp only [if_pos f6];by_cases g7 : g.kind = 7
     · simp only [if_pos g7];by_cases c1 : Bp o.last.1 o.last.2 g.rep g.seq = true
       · simp only [if_pos c1]
       · simp only [if_neg c1]
     · simp only [if_neg g7];by_cases g6 : g.kind = 6
       · simp only [if_pos g6];rw [Hv, Ub (A3 f.dep f.rep f.seq), ← Hv]
       · simp only [if_neg g6]
   · simp only [if_neg f6]
theorem Xm {l m : List Evt} (hl : NodE l) (hm : NodE m) (h : l.Perm m) (e : Evt) : Cw l l e = Cw m m e := by
 unfold Cw;rw [Aia hl hm h];refine Kw h _ fun x hx y hy z => ?_;by_cases q : Aj x = Aj y
 · rw [Zx hl hx hy q]
 · exact Aii e z x y q
theorem Ajh {l m : List Evt} (hl : NodE l) (hm : NodE m) (h : l.Perm m) : (Aq l).objs = (Aq m).objs := by
 obtain ⟨s1, _, m1⟩ := H1 hl;obtain ⟨s2, _, m2⟩ := H1 hm;refine Nn s1 s2 fun x => ?_;rw [m1, m2];constructor
 · rintro ⟨g, hg, hc, rfl⟩; exact ⟨g, h.mem_iff.1 hg, hc, Xm hl hm h g⟩
 · rintro ⟨g, hg, hc, rfl⟩; exact ⟨g, h.mem_iff.2 hg, hc, (Xm hl hm h g).symm⟩
structure Wd where
 w : Nat → Int
 v : Vc
 r : Nat → Bool
def Gu (p : Wd) (e : Evt) : Wd :=
 if e.kind = 8 then (if Ec p.v e.rep < e.seq then ⟨Ds p.w (e.rep - 1).toNat e.ward, A3 p.v e.rep e.seq, p.r⟩ else p)
 else if e.kind = 9 then ⟨p.w, p.v, Ds p.r (e.rep - 1).toNat true⟩ else p
def wG (m : List Evt) : Wd := m.foldl Gu ⟨fun _ => 0, fun _ => 0, fun _ => false⟩
theorem Ady (L : List Evt) : ∀ m : List Evt, (Et L m).1.wards = (wG m).w ∧ (Et L m).2 = (wG m).v ∧ (Et L m).1.ret = (wG m).r :=
 N9 ⟨rfl, rfl, rfl⟩ fun m e ⟨h1, h2, h3⟩ => by
  rw [Ho, show wG (m ++ [e]) = Gu (wG m) e by simp [wG]];unfold Ft Gu;by_cases k12 : e.kind = 1 ∨ e.kind = 2
  · rw [if_pos k12, if_neg (by omega), if_neg (by omega)]; exact ⟨h1, h2, h3⟩
  rw [if_neg k12];by_cases k8 : e.kind = 8
  · rw [if_pos k8, if_pos k8, h2];split
    · exact ⟨by simp only [I9, h1], by simp only [h2], h3⟩
    · exact ⟨h1, h2, h3⟩
  rw [if_neg k8, if_neg k8];by_cases k9 : e.kind = 9
  · rw [if_pos k9, if_pos k9]; exact ⟨h1, h2, by simp only [Px, h3]⟩
  rw [if_neg k9, if_neg k9]; exact ⟨h1, h2, h3⟩
theorem Xd {α : Type} (g : Nat → α) {i j : Nat} (h : i ≠ j) (x y : α) : Ds (Ds g i x) j y = Ds (Ds g j y) i x := by
 funext k; unfold Ds;by_cases h1 : k = i <;> by_cases h2 : k = j <;> simp_all
theorem Xc {α : Type} (g : Nat → α) (i : Nat) (x y : α) : Ds (Ds g i x) i y = Ds g i y := by
 funext k; unfold Ds; split <;> simp_all
theorem Hl {v : Vc} {r : Int} {q : Nat} (hr : 1 ≤ r ∧ r ≤ 8) (r' : Int) : Ec (A3 v r q) r' = if r' = r then max (Ec v r) q else Ec v r' := by
 unfold Ec;by_cases h : r' = r
 · rw [h, if_pos hr, if_pos rfl, if_pos hr, E5 hr, if_pos rfl]
 · rw [if_neg h];by_cases h8 : 1 ≤ r' ∧ r' ≤ 8
   · rw [if_pos h8, if_pos h8, E5 hr, if_neg (by omega)]
   · rw [if_neg h8, if_neg h8]
theorem Adx (p : Wd) {e f : Evt} (he : 1 ≤ e.rep ∧ e.rep ≤ 8) (hf : 1 ≤ f.rep ∧ f.rep ≤ 8) (hne : Aj e ≠ Aj f) : Gu (Gu p e) f = Gu (Gu p f) e := by
 obtain ⟨w, v, r⟩ := p;by_cases e8 : e.kind = 8
 · by_cases f8 : f.kind = 8
   · have se : ∀ p, Gu p e = if Ec p.v e.rep < e.seq then ⟨Ds p.w (e.rep - 1).toNat e.ward, A3 p.v e.rep e.seq, p.r⟩ else p := fun p => if_pos e8
     have sf : ∀ p, Gu p f = if Ec p.v f.rep < f.seq then ⟨Ds p.w (f.rep - 1).toNat f.ward, A3 p.v f.rep f.seq, p.r⟩ else p := fun p => if_pos f8
     rw [se, sf, sf, se];simp only;by_cases hr : e.rep = f.rep
     · have hs : e.seq ≠ f.seq := fun q => hne (Prod.ext hr q);have hr' : (f.rep : Int) = e.rep := hr.symm;by_cases c1 : Ec v e.rep < e.seq <;> by_cases c2 : Ec v e.rep < f.seq
       · simp only [hr', c1, c2, if_true, Hl he];by_cases c3 : e.seq < f.seq
         · have d1 : max (Ec v e.rep) e.seq < f.seq := by omega
           have d2 : ¬ max (Ec v e.rep) f.seq < e.seq := by omega
           simp only [d1, d2, if_true, if_false, Xc];congr 1;funext i;rw [E5 he, E5 he, E5 he];have : Ec v e.rep = v (e.rep - 1).toNat := if_pos he;split
           · rename_i hi; rw [hi]; omega
           · rfl
         · have d1 : ¬ max (Ec v e.rep) e.seq < f.seq := by omega
           have d2 : max (Ec v e.rep) f.seq < e.seq := by omega
           simp only [d1, d2, if_true, if_false, Xc];congr 1;funext i;rw [E5 he, E5 he, E5 he];have : Ec v e.rep = v (e.rep - 1).toNat := if_pos he;split
           · rename_i hi; rw [hi]; omega
           · rfl
       · have d1 : ¬ max (Ec v e.rep) e.seq < f.seq := by omega
         simp only [hr', c1, c2, d1, if_true, if_false, Hl he]
       · have d1 : ¬ max (Ec v e.rep) f.seq < e.seq := by omega
         simp only [hr', c1, c2, d1, if_true, if_false, Hl he]
       · simp only [hr', c1, c2, if_false]
     · have hr' : ¬ f.rep = e.rep := fun q => hr q.symm;have hi : (e.rep - 1).toNat ≠ (f.rep - 1).toNat := by omega
       by_cases c1 : Ec v e.rep < e.seq <;> by_cases c2 : Ec v f.rep < f.seq
       · simp only [c1, c2, if_true, Hl he, Hl hf, if_neg hr, if_neg hr'];congr 1
         · exact Xd _ hi _ _
         · exact Ng v (Aj e) (Aj f)
       · simp only [c1, c2, if_true, if_false, Hl he, if_neg hr']
       · simp only [c1, c2, if_true, if_false, Hl hf, if_neg hr]
       · simp only [c1, c2, if_false]
   · by_cases f9 : f.kind = 9
     · unfold Gu;simp only [if_pos e8, if_neg f8, if_pos f9];split <;> rfl
     · have sf : ∀ p, Gu p f = p := fun p => by unfold Gu; rw [if_neg f8, if_neg f9]
       rw [sf, sf]
 by_cases e9 : e.kind = 9
 · by_cases f8 : f.kind = 8
   · unfold Gu;simp only [if_neg e8, if_pos e9, if_pos f8];split <;> rfl
   · by_cases f9 : f.kind = 9
     · unfold Gu;simp only [if_neg e8, if_pos e9, if_neg f8, if_pos f9];congr 1;by_cases hi : (e.rep - 1).toNat = (f.rep - 1).toNat
       · rw [hi]
       · exact Xd _ hi _ _
     · have sf : ∀ p, Gu p f = p := fun p => by unfold Gu; rw [if_neg f8, if_neg f9]
       rw [sf, sf]
 · have se : ∀ p, Gu p e = p := fun p => by unfold Gu; rw [if_neg e8, if_neg e9]
   rw [se, se]
theorem Ar5 {l m : List Evt} (hl : NodE l) (hr : ∀ e ∈ l, 1 ≤ e.rep ∧ e.rep ≤ 8) (h : l.Perm m) : wG l = wG m := by
 refine Kw h _ fun x hx y hy z => ?_;by_cases q : Aj x = Aj y
 · rw [Zx hl hx hy q]
 · exact Adx z (hr x hx) (hr y hy) q
theorem Afs {l m : List Evt} (hl : Val l) (hm : Val m) (h : l.Perm m) : Aq l = Aq m := by
 obtain ⟨a1, a2, a3⟩ := Ady l l;obtain ⟨b1, b2, b3⟩ := Ady m m;have hw := Ar5 hl.nod (Yu hl) h;refine St.eq ?_ (Ajh hl.nod hm.nod h) ?_ ?_ ?_
 · rw [Du, Du, Ae3 h]
 · rw [I3, I3, Aks hl.nod hm.nod h]
 · show (Et l l).1.wards = (Et m m).1.wards;rw [a1, b1, hw]
 · show (Et l l).1.ret = (Et m m).1.ret;rw [a3, b3, hw]
theorem Agw (L : List Evt) (i : Nat) : ∀ m : List Evt, (Et L m).1.ret i = true ↔ ∃ e ∈ m, e.kind = 9 ∧ (e.rep - 1).toNat = i := by
 intro m;rw [(Ady L m).2.2];refine N9 (P := fun m => (wG m).r i = true ↔ ∃ e ∈ m, e.kind = 9 ∧ (e.rep - 1).toNat = i) (by simp [wG]) (fun m e ih => ?_) m;rw [show wG (m ++ [e]) = Gu (wG m) e by simp [wG]];have grow : (∃ f ∈ m ++ [e], f.kind = 9 ∧ (f.rep - 1).toNat = i) ↔ (∃ f ∈ m, f.kind = 9 ∧ (f.rep - 1).toNat = i) ∨ (e.kind = 9 ∧ (e.rep - 1).toNat = i) := by
  simp only [List.mem_append, List.mem_singleton];constructor
  · rintro ⟨f, hf | rfl, h⟩
    · exact .inl ⟨f, hf, h⟩
    · exact .inr h
  · rintro (⟨f, hf, h⟩ | h)
    · exact ⟨f, .inl hf, h⟩
    · exact ⟨e, .inr rfl, h⟩
 rw [grow, ← ih];unfold Gu;by_cases h8 : e.kind = 8
 · rw [if_pos h8];have : ¬ e.kind = 9 := by omega
   split <;> simp [this]
 rw [if_neg h8];by_cases h9 : e.kind = 9
 · rw [if_pos h9];simp only [Ds];by_cases hi : i = (e.rep - 1).toNat
   · rw [if_pos hi]; simp [h9, hi]
   · rw [if_neg hi]; exact ⟨.inl, fun q => q.resolve_right fun q => hi q.2.symm⟩
 · rw [if_neg h9]; simp [h9]
theorem Ajw {l m : List Evt} (hl : Val l) (hm : Val m) (h : ∀ x ∈ l, x ∈ m) {i : Bi} (k : Bj (Bw l) i.1 i.2 = true) : Bj (Bw m) i.1 i.2 = true := by
 obtain ⟨e, he, hi⟩ := hl.has.1 k;exact hm.has.2 ⟨e, h e he, hi⟩
theorem Aco {l m : List Evt} (hl : Val l) (hm : Val m) (h : ∀ x ∈ l, x ∈ m) : Ua (Bw l) (Bw m) := fun i hi => by
 by_cases h0 : Bw l i = 0
 · omega
 · have h1 : Bj (Bw l) ((i : Int) + 1, Bw l i).1 ((i : Int) + 1, Bw l i).2 = true := by
    rw [Gf];simp only;have : ((i : Int) + 1 - 1).toNat = i := by omega
    rw [this]; omega
   have h2 := Ajw hl hm h h1;rw [Gf] at h2;simp only at h2;have : ((i : Int) + 1 - 1).toNat = i := by omega
   rw [this] at h2; omega
theorem Xn {l m : List Evt} (hl : Val l) (hm : Val m) (h : ∀ x ∈ l, x ∈ m) {i : Bi} {o : Obj} (ho : Di (Aq l).objs i = some o) : ∃ o', Di (Aq m).objs i = some o' ∧ o'.dir = o.dir ∧ ∃ f ∈ l, o = Cw l l f ∧ o' = Cw m m f := by
 obtain ⟨h1, h2⟩ := Vb ho;obtain ⟨f, hf, hk, rfl⟩ := ((H1 hl.nod).2.2 o).1 h1;obtain ⟨s2, _, m2⟩ := H1 hm.nod;have := Aji s2 ((m2 _).2 ⟨f, h f hf, hk, rfl⟩);rw [Jy] at h2 this;rw [h2] at this;have hd : ∀ (L : List Evt), ∀ m : List Evt, (Cw L m f).dir = decide (f.kind = 2) := fun L => N9 rfl fun m g ih => by
  rw [Iz, (Ad6 f g _).2.1, ih]
 exact ⟨_, this, by rw [hd, hd], f, hf, rfl, rfl⟩
theorem Ac7 {l m : List Evt} (hl : Val l) (hm : Val m) (h : ∀ x ∈ l, x ∈ m) {i : Bi} (k : Jh (Aq l).objs i = 0) : Jh (Aq m).objs i = 0 := by
 rw [Vy] at k ⊢;by_cases h0 : i = (0, 0)
 · rw [if_pos h0]
 rw [if_neg h0] at k ⊢;cases ho : Di (Aq l).objs i with
 | none => rw [ho] at k; cases k
 | some o =>
   rw [ho] at k;obtain ⟨o', h1, h2, _⟩ := Xn hl hm h ho;rw [h1];simp only at k ⊢;rw [h2]; exact k
theorem Av9 {l m : List Evt} {e : Evt} (hl : Val l) (hm : Val m) (h : ∀ x ∈ l, x ∈ m) (ha : Acc (Aq l) e) (hnew : ∀ f ∈ m, Aj f ≠ Aj e) (hret : ∀ f ∈ m, f.kind = 9 → f.rep = e.rep → f ∈ l) : Acc (Aq m) e := by
 refine ⟨ha.ck, ?_, fun i hi => ?_, ?_, ?_⟩
 · cases hq : Bj (Aq m).known e.rep e.seq with
   | false => rfl
   | true =>
     rw [Du] at hq;obtain ⟨f, hf, hi⟩ := (hm.has (i := Aj e)).1 hq;exact absurd hi (hnew f hf)
 · have h1 := ha.dep i hi;rw [Du] at h1 ⊢;exact Nat.le_trans h1 (Aco hl hm h i hi)
 · cases hq : (Aq m).ret (e.rep - 1).toNat with
   | false => rfl
   | true =>
     obtain ⟨f, hf, hk, hi⟩ := (Agw m _ m).1 hq;have hb := Cc ha.ck;have hfr := Yu hm f hf;have hr : f.rep = e.rep := by have := hb.1; have := hb.2.1; omega
     have := (Agw l (e.rep - 1).toNat l).2 ⟨f, hret f hf hk hr, hk, hi⟩;have h4 : (Et l l).1.ret (e.rep - 1).toNat = false := ha.ret;rw [h4] at this; cases this
 · have hw := ha.why;unfold Pm at hw ⊢;by_cases h89 : e.kind = 8 ∨ e.kind = 9
   · rw [if_pos h89]
   rw [if_neg h89] at hw ⊢;by_cases h12 : e.kind = 1 ∨ e.kind = 2
   · rw [if_pos h12] at hw ⊢; exact Ac7 hl hm h hw
   rw [if_neg h12] at hw ⊢;cases ho : Di (Aq l).objs (Aw e) with
   | none => rw [ho] at hw; cases hw
   | some o =>
     rw [ho] at hw;obtain ⟨o', h1, h2, f, hf, rfl, rfl⟩ := Xn hl hm h ho;rw [h1];simp only at hw ⊢;by_cases h7 : e.kind = 7
     · rw [if_pos h7] at hw ⊢; exact Ac7 hl hm h hw
     rw [if_neg h7] at hw ⊢;by_cases h6 : e.kind = 6
     · rw [if_pos h6]
     rw [if_neg h6, h2];rw [if_neg h6] at hw;by_cases hd : (Cw l l f).dir = true
     · rw [if_pos hd] at hw; cases hw
     rw [if_neg hd] at hw ⊢;by_cases hmi : Cx (Cw l l f).vers e.base.l
     · rw [if_pos hmi] at hw; cases hw
     rw [if_neg];rintro ⟨b, hb, hn⟩;refine hmi ⟨b, hb, ?_⟩;rw [Lt] at hn ⊢;intro v hv hs;rw [Nq] at hv hn;obtain ⟨g, hg, hc, rfl⟩ := ((D9 hl.nod (Aj f)).2.2 v).1 hv;exact hn (Fi m m g) (((D9 hm.nod (Aj f)).2.2 _).2 ⟨g, h g hg, hc, rfl⟩) hs
theorem Alr {A B T : List Evt} {e : Evt} (hL : Val (A ++ e :: B)) (hT : Val T) (h1 : ∀ x ∈ T, x ∈ A ++ e :: B) (h2 : ∀ x ∈ A, x ∈ T) (h3 : e ∉ T) : Acc (Aq T) e := by
 have hv : Val ((A ++ [e]) ++ B) := by rw [List.append_assoc]; exact hL
 obtain ⟨hA, he, hw⟩ := hv.pre.inv;have ha := F5.1 hw;have hnew : ∀ f ∈ T, Aj f ≠ Aj e := fun f hf q => h3 (by
  have := Zx hL.nod (h1 f hf) (e := f) (f := e) (by simp) q
  rwa [this] at hf)
 refine Av9 hA hT h2 ha hnew fun f hf hk hr => ?_;rcases List.mem_append.1 (h1 f hf) with h | h
 · exact h
 rcases List.mem_cons.1 h with h | h
 · subst h; exact absurd hf h3
 · obtain ⟨B1, B2, rfl⟩ := List.append_of_mem h;have hv2 : Val (((A ++ e :: B1) ++ [f]) ++ B2) := by simpa [List.append_assoc] using hL
   obtain ⟨hC, _, hwf⟩ := hv2.pre.inv;have haf := F5.1 hwf;obtain ⟨n1, n2, n3⟩ := Wm haf;rw [Du] at n3;have hke : Bj (Bw (A ++ e :: B1)) (Aj e).1 (Aj e).2 = true := hC.has.2 ⟨e, by simp, rfl⟩;rw [Gf] at hke;simp only at hke;have hkT : Bj (Bw T) (Aj f).1 (Aj f).2 = true := hT.has.2 ⟨f, hf, rfl⟩;rw [Gf] at hkT;simp only at hkT;rw [hr] at n3 hkT;have : Bj (Bw T) (Aj e).1 (Aj e).2 = true := by
    rw [Gf]; simp only; omega
   obtain ⟨g, hg, hgi⟩ := hT.has.1 this;exact absurd hgi (hnew g hg)
theorem Ri {α : Type} : ∀ {l m : List α}, l.Nodup → (∀ x ∈ l, x ∈ m) → l.length ≤ m.length
 | [], m, _, _ => Nat.zero_le _
 | x :: l, m, h, hs => by
   obtain ⟨h1, h2⟩ := List.nodup_cons.1 h;obtain ⟨a, b, rfl⟩ := List.append_of_mem (hs x List.mem_cons_self);have := Ri (m := a ++ b) h2 fun y hy => by
    have := hs y (List.mem_cons_of_mem _ hy);rcases List.mem_append.1 this with h | h
    · exact List.mem_append_left _ h
    · rcases List.mem_cons.1 h with h | h
      · subst h; exact absurd hy h1
      · exact List.mem_append_right _ h
   simp only [List.length_append, List.length_cons] at this ⊢;omega
theorem Ata {l m : List Evt} (hl : Val l) (hm : Val m) (h : ∀ x, x ∈ l ↔ x ∈ m) : l.Perm m := (List.perm_ext_iff_of_nodup (Lf hl.nod) (Lf hm.nod)).2 h
noncomputable def Axf (L : List Evt) (c : Int) (j : Nat) : FS := mk [(34, .pv (.i .i64 j)), (33, .pv (.i .i64 L.length)), (32, .pv (.sl false 21 (L.map Bo))), (5, .pv (.sl false 21 (L.map Bo))), (1, .pv (.i .i64 c)), (6, .p 6 0), (7, .p 7 0)] [(6, some (.var (.agg (Bd (Aq (L.take j)))))), (7, some (.var (.agg (Bd (Aq [])))))]
noncomputable def Axe (L : List Evt) (c : Int) (p : Nat × List Evt) : FS := mk [(52, .pv (.i .i64 p.1)), (51, .pv (.i .i64 L.length)), (12, .pv (.i .i64 ((L.length : Int) - (p.2.length : Int)))), (5, .pv (.sl false 21 (L.map Bo))), (1, .pv (.i .i64 c)), (6, .p 6 0), (7, .p 7 0)] [(6, some (.var (.agg (Bd (Aq L))))), (7, some (.var (.agg (Bd (Aq p.2)))))]
noncomputable def Axd (L : List Evt) (c : Int) (i : Nat) (p : Nat × List Evt) : FS := mk [(56, .pv (.i .i64 p.1)), (55, .pv (.i .i64 L.length)), (52, .pv (.i .i64 i)), (51, .pv (.i .i64 L.length)), (12, .pv (.i .i64 ((L.length : Int) - (p.2.length : Int)))), (5, .pv (.sl false 21 (L.map Bo))), (1, .pv (.i .i64 c)), (6, .p 6 0), (7, .p 7 0)] [(6, some (.var (.agg (Bd (Aq L))))), (7, some (.var (.agg (Bd (Aq p.2)))))]
structure Rnd (L : List Evt) (i : Nat) (T : List Evt) : Prop where
 le : i ≤ L.length
 val : Val T
 sub : ∀ x ∈ T, x ∈ L
 all : ∀ x a, x < i → L[x]? = some a → a ∈ T
structure Trn (L T0 : List Evt) (r j : Nat) (T : List Evt) : Prop where
 le : j ≤ L.length
 val : Val T
 sub : ∀ x ∈ T, x ∈ L
 sup : ∀ x ∈ T0, x ∈ T
 all : ∀ i a, i < j → L[(L.length - 1 - i + r) % L.length]? = some a → (∀ x b, x < (L.length - 1 - i + r) % L.length → L[x]? = some b → b ∈ T0) → a ∈ T
theorem vis {n r i : Nat} (hi : i < n) (hr : r < n) : ∃ j, j < n ∧ (n - 1 - j + r) % n = i := by
 by_cases h : r ≤ i
 · refine ⟨n - 1 + r - i, by omega, ?_⟩;rw [show n - 1 - (n - 1 + r - i) + r = i by omega, Nat.mod_eq_of_lt hi]
 · refine ⟨r - i - 1, by omega, ?_⟩;rw [show n - 1 - (r - i - 1) + r = n + i by omega, Nat.add_mod_left, Nat.mod_eq_of_lt hi]
theorem Aun {n r j : Nat} (hj : j < n) : (((n : Int) - 1 - (j : Int)) + (r : Int)).tmod (n : Int) = (((n - 1 - j + r) % n : Nat) : Int) := by
 rw [show ((n : Int) - 1 - (j : Int)) + (r : Int) = ((n - 1 - j + r : Nat) : Int) by omega, Int.ofNat_tmod]
set_option maxHeartbeats 16000000 in
theorem Aju {l : List Evt} (c : Int) (hl : ∀ e ∈ l, EvRaw e) {h d} :
 FunOk Tryz.prog 4 [.pv (.sl false 21 (l.map Bo)), .pv (.i .i64 c)] h d (.pv (.b true)) [] := by
 refine Au Ae fn4 (by simp) rfl rfl fun F => ?_;simp (disch := omega) only [ir4, go_sem];refine Aa Re ?_;simp (disch := omega) only [go_sem];refine Aa (Ans (l := l) rfl rfl) ?_;by_cases hf' : Ah7 l;rotate_left
 · have hf := Aai hf';simp (disch := omega) only [hf, go_sem];refine Aa Re ?_;simp (disch := omega) only [go_sem]
 have hf := Aht hf';by_cases h0 : (l.length : Int) = 0
 · simp (disch := omega) only [hf, List.length_map, h0, go_sem];refine Aa Re ?_;simp (disch := omega) only [go_sem]
 have hin : ∀ e ∈ l, EvIn e := fun x hx => Ayb (hl x hx) (hf'.2 x hx);obtain ⟨t1, t2, t3⟩ := Aba l fun x hx => (hin x hx).ev;have hl30 := hf'.1;simp (disch := omega) only [hf, List.length_map, h0, go_sem];refine Aa (Ayj (l := l) (by omega) hin) ?_;generalize L4 l = T at *;obtain ⟨q, hq, hqn⟩ := Ar9 c T.length;simp (disch := omega) only [List.length_map, go_sem];refine A1 Ae (Axf T c) (fun k => k ≤ T.length) (fun k => T.length - k) 0 (by simp) (Am ?_ ?_) fun k hk => ?_
 · simp (disch := omega) only [go_sem]
 · simp (disch := omega) only [List.take_zero, go_sem];exact ⟨Uv, rfl⟩
 by_cases hlt : k < T.length
 · have hx : T[k]? = some T[k] := List.getElem?_eq_getElem hlt;have he : (T.map Bo)[k]? = some (Bo T[k]) := by rw [List.getElem?_map, hx]; rfl
   have ht := Dg hx;have hv : Val (T.take k ++ [T[k]]) := by
    rw [← ht];exact Val.pre (m := T.drop (k + 1)) (by rw [List.take_append_drop]; exact t1)
   obtain ⟨v1, v2, v3⟩ := hv.inv;have hres := Td v1 v3;rw [← ht] at hres;generalize T[k] = e at *;have hel := Ac e;have hi := Oo v1 (by have := List.length_take_le k T; omega);simp (disch := omega) only [Axf, Bd, A7, List.length_map, he, B0, hel, go_sem];refine Aa (Tg (s := Aq (T.take k)) hi v2) ?_;rw [hres, v3];simp (disch := omega) only [Bd, A7, go_sem];refine Ad (k + 1) _ _ rfl (by omega) (by omega) ?_ ?_
   · simp (disch := omega) only [go_sem]
   · simp (disch := omega) only [Bd, A7, go_sem]
 obtain rfl : k = T.length := by omega
 have htk : T.take T.length = T := List.take_length;simp (disch := omega) only [Axf, Bd, A7, htk, List.length_map, go_sem];refine A1 Ae (Axe T c) (fun p => Rnd T p.1 p.2) (fun p => T.length - p.1) (0, []) ⟨Nat.zero_le _, Val.nil, fun x hx => (by cases hx), fun x a hx => absurd hx (Nat.not_lt_zero x)⟩ (Am ?_ ?_) fun p hp => ?_
 · (try simp only [De, Dd, Dc, Db, Da, C9, C8, C7]); simp (disch := omega) only [List.length_nil, go_sem]
 · (try simp only [De, Dd, Dc, Db, Da, C9, C8, C7]); simp (disch := omega) only [Bd, A7, go_sem]
 obtain ⟨i, S⟩ := p;obtain ⟨p1, p2, p3, p4⟩ := hp;simp only at p1 p2 p3 p4;have pl := Ri (Lf p2.nod) p3;by_cases hlt : i < T.length
 · simp (disch := omega) only [Axe, List.length_map, go_sem];refine A1 Ae (Axd T c i) (fun p => Trn T S q p.1 p.2) (fun p => T.length - p.1) (0, S) ⟨Nat.zero_le _, p2, p3, fun x hx => hx, fun x a hx => absurd hx (Nat.not_lt_zero x)⟩ (Am ?_ ?_) fun r hr => ?_
   · (try simp only [De, Dd, Dc, Db, Da, C9, C8, C7]); simp (disch := omega) only [go_sem]
   · (try simp only [De, Dd, Dc, Db, Da, C9, C8, C7]); simp (disch := omega) only [Bd, A7, go_sem]
   obtain ⟨j, R⟩ := r;obtain ⟨r1, r2, r3, r4, r5⟩ := hr;simp only at r1 r2 r3 r4 r5;have rl := Ri (Lf r2.nod) r3;by_cases hj : j < T.length
   · have hqn' := hqn (by omega);have hix := Aun (n := T.length) (r := q) hj;obtain ⟨v, hv⟩ : ∃ v, (T.length - 1 - j + q) % T.length = v := ⟨_, rfl⟩
     have hvl : v < T.length := by rw [← hv]; exact Nat.mod_lt _ (by omega)
     rw [hv] at hix;have hx : T[v]? = some T[v] := List.getElem?_eq_getElem hvl;have he : (T.map Bo)[v]? = some (Bo T[v]) := by rw [List.getElem?_map, hx]; rfl
     have hmem : T[v] ∈ T := List.getElem_mem hvl;have hsplit : T = T.take v ++ T[v] :: T.drop (v + 1) := by
      rw [← List.drop_eq_getElem_cons hvl, List.take_append_drop]
     have hall : (∀ x b, x < v → T[x]? = some b → b ∈ S) → T[v] ∉ R → Ga (Aq R) T[v] = 0 := fun hb hn => by
      refine F5.2 (Alr (A := T.take v) (B := T.drop (v + 1)) (hsplit ▸ t1) r2 (fun x hx => hsplit ▸ r3 x hx) (fun x hx => ?_) hn);obtain ⟨y, hy⟩ := List.mem_iff_getElem?.1 hx;have hyl := (List.getElem?_eq_some_iff.1 hy).1;rw [List.length_take] at hyl;rw [List.getElem?_take_of_lt (by omega)] at hy;exact r4 x (hb y x (by omega) hy)
     obtain ⟨_, _, _, _, hev, _⟩ := t1.mem hmem;generalize T[v] = e at *;have hel := Ac e;have hi := Oo r2 (by omega);have hnx : ∀ R' : List Evt, (∀ x ∈ R, x ∈ R') → ((∀ x b, x < v → T[x]? = some b → b ∈ S) → e ∈ R') → ∀ i a, i < j + 1 → T[(T.length - 1 - i + q) % T.length]? = some a → (∀ x b, x < (T.length - 1 - i + q) % T.length → T[x]? = some b → b ∈ S) → a ∈ R' := fun R' hR hE i a hi ha hb => by
      by_cases hij : i = j
      · subst hij;rw [hv] at ha hb;rw [hx] at ha; cases ha;exact hE hb
      · exact hR a (r5 i a (by omega) ha hb)
     simp (disch := omega) only [Axd, Bd, A7, List.length_map, hq, hix, he, B0, hel, go_sem];refine Aa (Tg (s := Aq R) hi hev) ?_;by_cases hw : Ga (Aq R) e = 0
     · have hres := Td r2 hw;have hv2 : Val (R ++ [e]) := Val.snoc r2 hev hw;have hle : (R ++ [e]).length = R.length + 1 := by simp
       rw [hres, hw];simp (disch := omega) only [Bd, A7, go_sem];refine Ad (x := (j, R)) (j + 1, R ++ [e]) _ _ rfl ⟨by show j + 1 ≤ _; omega, hv2, fun x hx => ?_, fun x hx => List.mem_append_left _ (r4 x hx), hnx _ (fun x hx => List.mem_append_left _ hx) fun _ => by simp⟩ (by show T.length - (j + 1) < T.length - j; omega) ?_ ?_
       · rcases List.mem_append.1 hx with hx | hx
         · exact r3 x hx
         · rw [List.mem_singleton] at hx; subst hx; exact hmem
       · have e1 : (T.length : Int) - ((R ++ [e]).length : Int) = (T.length : Int) - (R.length : Int) - 1 := by omega
         (try simp only [De, Dd, Dc, Db, Da, C9, C8, C7]); simp (disch := omega) only [e1, go_sem]
       · (try simp only [De, Dd, Dc, Db, Da, C9, C8, C7]); simp (disch := omega) only [Bd, A7, go_sem]
     · simp (disch := omega) only [Bd, A7, hw, go_sem];refine Ad (x := (j, R)) (j + 1, R) _ _ rfl ⟨by show j + 1 ≤ _; omega, r2, r3, r4, hnx _ (fun x hx => hx) fun hb => Classical.byContradiction fun hn => hw (hall hb hn)⟩ (by show T.length - (j + 1) < T.length - j; omega) ?_ ?_
       · (try simp only [De, Dd, Dc, Db, Da, C9, C8, C7]); simp (disch := omega) only [go_sem]
       · (try simp only [De, Dd, Dc, Db, Da, C9, C8, C7]); simp (disch := omega) only [Bd, A7, go_sem]
   · obtain rfl : j = T.length := by omega
     simp (disch := omega) only [Axd, List.length_map, go_sem];refine Ad (x := (i, S)) (i + 1, R) _ _ rfl ⟨by show i + 1 ≤ _; omega, r2, r3, fun x a hx ha => ?_⟩ (by show T.length - (i + 1) < T.length - i; omega) ?_ ?_
     · by_cases hxi : x = i
       · subst hxi;obtain ⟨jj, hjj, hvv⟩ := vis hlt (hqn (by omega));refine r5 jj a hjj (by rw [hvv]; exact ha) fun y b hy hb => ?_;rw [hvv] at hy;exact p4 y b hy hb
       · have hx' : x < i + 1 := hx;exact r4 a (p4 x a (by omega) ha)
     · (try simp only [De, Dd, Dc, Db, Da, C9, C8, C7]); simp (disch := omega) only [go_sem]
     · (try simp only [De, Dd, Dc, Db, Da, C9, C8, C7]); simp (disch := omega) only [Bd, A7, go_sem]
 obtain rfl : i = T.length := by omega
 have hperm : S.Perm T := Ata p2 t1 fun x => ⟨p3 x, fun hx => by
  obtain ⟨y, hy⟩ := List.mem_iff_getElem?.1 hx;exact p4 y x (List.getElem?_eq_some_iff.1 hy).1 hy⟩
 have hb := Afs p2 t1 hperm;have hle := hperm.length_eq;have hz : (T.length : Int) - (S.length : Int) = 0 := by omega
 have hfi := (Oo t1 (by omega)).fine;simp (disch := omega) only [Axe, List.length_map, hz, hb, Bd, A7, go_sem];refine Aa (Anl (s := Aq T) hfi) ?_;simp (disch := omega) only [go_sem]
theorem Rx {c0 c1 : List PV} (g0 : GC (.sl Abn) c0) (g1 : GC (.int .i64) c1) {h d} :
 FunOk Tryz.prog 4 [Jj (.sl Abn) c0, Jj (.int .i64) c1] h d (.pv (.b true)) [] := by
 obtain ⟨l, rfl, hl⟩ := A1g g0;simp only [GC] at g1;obtain ⟨n, rfl, hn⟩ := g1;exact Aju n hl
end Go.Proofs.YthhomcfimdkfhaaGreat.Fw
