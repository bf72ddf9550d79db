/- What the functions compute that the laws of this seat reach. -/
import Derived.Test.YthmjebkldgdeiaaWalk1
import Derived.OpenShut
import Derived.ShutString
import Derived.ChangeOld
import Derived.SizedLaws
import Derived.ChangeOld
import Derived.Lib.Bytealg
import Derived.Lib.Overlaps
import Derived.OpenShut
import Derived.ShutString
import Derived.SizedLaws
set_option linter.unusedVariables false
set_option linter.unusedSimpArgs false
set_option linter.unusedSectionVars false
set_option maxRecDepth 100000
namespace Go.Proofs.Ythmjebkldgdeiaa.Fw
open Go.RowKit Go.Proofs
structure EvsOk (l : List Evt) (rk : Evt → Nat) : Prop where
 len : l.length ≤ 400
 nod : NodE l
 ev : ∀ e ∈ l, ev e ∧ e.data.length ≤ 1000
 grd : Grd l rk
 rk : ∀ e ∈ l, rk e < l.length
mutual
theorem Afe {π : Nat → Nat} : ∀ {x : SV}, x.closed = true → x.rn π = x
 | .pv _, _ => rfl
 | .vec _ _, _ => rfl
 | .pi _ _ _ _, _ => rfl
 | .dead, _ => rfl
 | .agg l, h => by simp only [SV.closed] at h; simp only [SV.rn, Tk h]
 | .tup l, h => by simp only [SV.closed] at h; simp only [SV.rn, Tk h]
 | .fn f l, h => by simp only [SV.closed] at h; simp only [SV.rn, Tk h]
 | .p _ _, h => by simp [SV.closed] at h
 | .ps _ _, h => by simp [SV.closed] at h
 | .pr _ _ _ _, h => by simp [SV.closed] at h
 | .os _, h => by simp [SV.closed] at h
 | .ov _ _ _ _, h => by simp [SV.closed] at h
theorem Tk {π : Nat → Nat} : ∀ {l : List SV}, SV.closedL l = true → SV.rnL π l = l
 | [], _ => rfl
 | x :: l, h => by
   simp only [SV.closedL, Bool.and_eq_true] at h;simp only [SV.rnL, Afe h.1, Tk h.2]
end
mutual
theorem A1c : ∀ {x : SV}, x.closed = true → tn x = []
 | .pv _, _ => rfl
 | .vec _ _, _ => rfl
 | .pi _ _ _ _, _ => rfl
 | .dead, _ => rfl
 | .agg l, h => by simp only [SV.closed] at h; simp only [tn, Nw h]
 | .tup l, h => by simp only [SV.closed] at h; simp only [tn, Nw h]
 | .fn f l, h => by simp only [SV.closed] at h; simp only [tn, Nw h]
 | .p _ _, h => by simp [SV.closed] at h
 | .ps _ _, h => by simp [SV.closed] at h
 | .pr _ _ _ _, h => by simp [SV.closed] at h
 | .os _, h => by simp [SV.closed] at h
 | .ov _ _ _ _, h => by simp [SV.closed] at h
theorem Nw : ∀ {l : List SV}, SV.closedL l = true → Aw l = []
 | [], _ => rfl
 | x :: l, h => by
   simp only [SV.closedL, Bool.and_eq_true] at h;simp only [Aw, A1c h.1, Nw h.2, List.append_nil]
end
theorem Avm (a m : Nat) : sw1 a m a = m := if_pos rfl
theorem FunOk.io {P : Program} {f : Nat} {a : List SV} {c c' x : SV} (hf : ∀ h d, h 900 = some (.var c) → FunOk P f (.p 900 0 :: a) h d x [.upd 900 (.var c')]) (ha : SV.closedL a = true) (hx : x.closed = true) (hc : c.closed = true) (hc' : c'.closed = true) {g : Nat} {h : Nat → Option Blk} {d : Nat} (hg : h g = some (.var c)) :
 FunOk P f (.p g 0 :: a) h d x [.upd g (.var c')] := by
 have h1 := (hf (fun k => h (sw1 900 g k)) d (by show h (sw1 900 g 900) = _; rw [Avm]; exact hg)).rn (π := sw1 900 g) (Ae5 900 g) (d' := d);simp only [SV.rnL, SV.rn, HU.rn, Blk.rn, List.map_cons, List.map_nil, Avm, Tk ha, Afe hx, Afe hc'] at h1;refine h1.at fun n hn => ?_;simp only [Aw, tn, Nw ha, List.append_nil, List.mem_singleton] at hn;subst hn;simp only [Ae5, hg, Option.map_some, Blk.rn, Afe hc]
theorem FunOk.quiet {P : Program} {f : Nat} {args : List SV} {h : Nat → Option Blk} {d g : Nat} {x : SV} {blk : Blk} (hf : FunOk P f args h d x [.upd g blk]) (hg : h g = some blk) (hin : g ∈ Aw args) : FunOk P f args h d x [] :=
 ⟨hf.1, fun F N ρ s a w hR hh vs hc => by
  have hs : s.h g = some blk := (hh g hin).trans hg;have e : s.hup [.upd g blk] = s := FS.ext' (fun _ => rfl) fun n => by
   simp only [FS.hup, FS.seth];split
   · rename_i e; rw [e]; exact hs.symm
   · rfl
  have := hf.2 F N ρ s a w hR hh vs hc;rw [e] at this;exact this⟩
def Iz (e : Evt) (o : Obj) (f : Evt) : Obj :=
 if Ap f = Ar e then
  if f.kind = 7 then (if C8 o.last.1 o.last.2 f.rep f.seq = true then { o with last := Ar f, name := f.name } else o)
  else if f.kind = 6 then { o with seen := Fz o.seen (Bq f.dep f.rep f.seq) } else o
 else o
noncomputable def Dl (l m : List Evt) (e : Evt) : Obj := m.foldl (Iz e) ⟨Ar e, decide (e.kind = 2), Ar e, e.name, fun _ => 0, Cn l (Ar e) l⟩
theorem L5 (l m : List Evt) (e f : Evt) : Dl l (m ++ [f]) e = Iz e (Dl l m e) f := by simp [Dl]
def Vq (l : List Obj) (o : Obj) : List Obj := l.take (Ct l o.id) ++ o :: l.drop (Ct l o.id)
noncomputable def Kp (l : List Evt) (p : St × Vc) (e : Evt) : St × Vc :=
 if e.kind = 1 ∨ e.kind = 2 then ({ p.1 with objs := Vq p.1.objs (Dl l l e) }, p.2)
 else if e.kind = 8 then (if Ng p.2 e.rep < e.seq then (Kx p.1 e, Bq p.2 e.rep e.seq) else p)
 else if e.kind = 9 then (Vm p.1 e, p.2)
 else p
noncomputable def Ge (l m : List Evt) : St × Vc := m.foldl (Kp l) (⟨C2 l, [], Cw l l, fun _ => 0, fun _ => false⟩, fun _ => 0)
noncomputable def Ae (l : List Evt) : St := (Ge l l).1
theorem Jd (l m : List Evt) (e : Evt) : Ge l (m ++ [e]) = Kp l (Ge l m) e := by simp [Ge]
theorem Aak {l : List Obj} {o x : Obj} : x ∈ Vq l o ↔ x = o ∨ x ∈ l := by
 unfold Vq;simp only [List.mem_append, List.mem_cons];have : x ∈ l ↔ x ∈ l.take (Ct l o.id) ∨ x ∈ l.drop (Ct l o.id) := by rw [← List.mem_append, List.take_append_drop]
 rw [this];constructor
 · rintro (h | h | h)
   · exact .inr (.inl h)
   · exact .inl h
   · exact .inr (.inr h)
 · rintro (h | h | h)
   · exact .inr (.inl h)
   · exact .inl h
   · exact .inr (.inr h)
theorem Anu (l : List Obj) (o : Obj) : (Vq l o).length = l.length + 1 := by
 unfold Vq;simp only [List.length_append, List.length_take, List.length_cons, List.length_drop];have := Xw l o.id; omega
theorem Asj (l : List Obj) (o : Obj) : (Vq l o).map obN = Mo (l.map obN) (obN o) := by
 unfold Vq Mo Ct;simp [List.map_take, List.map_drop]; rfl
theorem V1 {l : List Obj} {o : Obj} (hs : D1 l) (hn : ∀ x ∈ l, x.id ≠ o.id) : D1 (Vq l o) := by
 unfold D1; rw [Asj];refine S8 hs (Em.2 fun x hx => ?_);obtain ⟨u, hu, rfl⟩ := List.mem_map.1 hx;exact hn u hu
theorem Od (l : List Evt) (e : Evt) : ∀ m : List Evt, (Dl l m e).id = Ar e := fun m => by
 unfold Dl;generalize hq : (⟨Ar e, decide (e.kind = 2), Ar e, e.name, fun _ => 0, Cn l (Ar e) l⟩ : Obj) = o;have : o.id = Ar e := by rw [← hq]
 clear hq
 induction m generalizing o with
 | nil => exact this
 | cons f m ih =>
   simp only [List.foldl_cons];refine ih _ ?_;unfold Iz;split
   · split
     · split <;> exact this
     · split <;> exact this
   · exact this
theorem Abf {l : List Evt} : ∀ (n : Nat) (m : List Evt), m.length = n → NodE m → D1 (Ge l m).1.objs ∧ (Ge l m).1.objs.length ≤ n ∧ ∀ o, o ∈ (Ge l m).1.objs ↔ ∃ e ∈ m, (e.kind = 1 ∨ e.kind = 2) ∧ o = Dl l l e
 | 0, m, h, _ => by obtain rfl := List.eq_nil_of_length_eq_zero h; exact ⟨List.Pairwise.nil, by simp [Ge], by simp [Ge]⟩
 | n + 1, m, h, hn => by
   have hne : m ≠ [] := fun e => by subst e; simp at h
   have e1 := (List.dropLast_concat_getLast hne).symm;have hn' : NodE m.dropLast := by unfold NodE at *; rw [List.map_dropLast]; exact hn.sublist (List.dropLast_sublist _)
   obtain ⟨h1, h2, h3⟩ := Abf (l := l) n m.dropLast (by simp [h]) hn';rw [e1] at hn ⊢;rw [Jd];generalize m.getLast hne = e at *;generalize m.dropLast = m' at *;have grow : ∀ o : Obj, ((∃ f ∈ m' ++ [e], (f.kind = 1 ∨ f.kind = 2) ∧ o = Dl l l f) ↔ (∃ f ∈ m', (f.kind = 1 ∨ f.kind = 2) ∧ o = Dl l l f) ∨ ((e.kind = 1 ∨ e.kind = 2) ∧ o = Dl l l e)) := fun o => by
    simp only [List.mem_append, List.mem_singleton];constructor
    · rintro ⟨f, hf | rfl, h⟩
      · exact .inl ⟨f, hf, h⟩
      · exact .inr h
    · rintro (⟨f, hf, h⟩ | h)
      · exact ⟨f, .inl hf, h⟩
      · exact ⟨e, .inr rfl, h⟩
   by_cases h12 : e.kind = 1 ∨ e.kind = 2
   · have hS : (Kp l (Ge l m') e).1.objs = Vq (Ge l m').1.objs (Dl l l e) := by unfold Kp; rw [if_pos h12]
     rw [hS];have hnew : ∀ x ∈ (Ge l m').1.objs, x.id ≠ (Dl l l e).id := fun x hx => by
      obtain ⟨f, hf, _, rfl⟩ := (h3 x).1 hx;rw [Od, Od];unfold NodE at hn;rw [List.map_append, List.nodup_append] at hn;exact hn.2.2 (Ar f) (List.mem_map_of_mem hf) (Ar e) (by simp)
     refine ⟨V1 h1 hnew, by rw [Anu]; omega, fun o => ?_⟩;rw [Aak, h3, grow];constructor
     · rintro (h | h)
       · exact .inr ⟨h12, h⟩
       · exact .inl h
     · rintro (h | h)
       · exact .inr h
       · exact .inl h.2
   · have hS : (Kp l (Ge l m') e).1.objs = (Ge l m').1.objs := by
      unfold Kp; rw [if_neg h12];split
      · split <;> rfl
      · split <;> rfl
     rw [hS];refine ⟨h1, by omega, fun o => ?_⟩;rw [h3, grow];exact ⟨.inl, fun h => h.resolve_right fun q => h12 q.1⟩
theorem Abg (l m : List Evt) : (Ge l m).1.ents = Cw l l ∧ (Ge l m).1.known = C2 l := by
 unfold Ge;generalize hq : ((⟨C2 l, [], Cw l l, fun _ => 0, fun _ => false⟩ : St), (fun _ => 0 : Vc)) = p;have : p.1.ents = Cw l l ∧ p.1.known = C2 l := by rw [← hq]; exact ⟨rfl, rfl⟩
 clear hq
 induction m generalizing p with
 | nil => exact this
 | cons f m ih =>
   simp only [List.foldl_cons];refine ih _ ?_;unfold Kp;split
   · exact this
   · split
     · split
       · exact this
       · exact this
     · split <;> exact this
theorem Ll {e : Evt} (h : Bt e = true) (hk : e.kind = 3 ∨ e.kind = 4 ∨ e.kind = 5) : ∀ b ∈ e.base.l, Bn e.dep b.1 b.2 = true := by
 unfold Bt at h;simp only [Bool.and_eq_true, decide_eq_true_eq] at h;have hK := h.2.2.2;have key : ∀ m, E1 e.base.l m e.dep = true → ∀ b ∈ e.base.l, Bn e.dep b.1 b.2 = true := fun m hm b hb => by
  unfold E1 Q3 at hm;simp only [Bool.and_eq_true, decide_eq_true_eq] at hm;obtain ⟨j, hj⟩ := List.mem_iff_getElem?.1 hb;obtain ⟨hlt, hg⟩ := List.getElem?_eq_some_iff.1 hj;have := (hm.2 j hlt).1;rw [hg] at this; exact this
 rcases hk with h3 | h3 | h3
 · rw [J0 h3] at hK;simp only [Bool.and_eq_true] at hK;exact key _ hK.2.1
 · rw [Om h3] at hK;simp only [Bool.and_eq_true] at hK;exact key _ hK.2.1
 · rw [Ol h3] at hK;simp only [Bool.and_eq_true] at hK;exact key _ hK.2.1
theorem An6 {a : Vc} {r : Int} {q : Nat} (h : Bn a r q = true) : 1 ≤ q ∧ 1 ≤ r ∧ r ≤ 8 ∧ q ≤ a (r - 1).toNat := by
 unfold Bn Ng at h;simp only [decide_eq_true_eq] at h;by_cases hr : 1 ≤ r ∧ r ≤ 8
 · rw [if_pos hr] at h; exact ⟨h.1, hr.1, hr.2, h.2⟩
 · rw [if_neg hr] at h; omega
def vid (v : Ver) : Bg := (v.rep, v.seq)
def Mt (bs : List Bg) (r : Int) (q : Nat) (x : Ver) : Ver := if (x.rep, x.seq) ∈ bs then Q6 x r q else x
theorem X9 (l : List Ver) (bs : List Bg) (r : Int) (q : Nat) : C6 l bs r q = l.map (Mt bs r q) := rfl
theorem Aam (bs : List Bg) (r : Int) (q : Nat) (x : Ver) : vid (Mt bs r q x) = vid x := by
 have := Hd x bs r q;simp only [vid, Mt, this.1, this.2]
theorem Am5 {l : List Ver} {bs : List Bg} {v x : Ver} : x ∈ Fe l bs v ↔ x = v ∨ ∃ y ∈ l, x = Mt bs v.rep v.seq y := by
 unfold Fe;rw [X9];have h : ∀ p, x ∈ (l.map (Mt bs v.rep v.seq)).take p ++ v :: (l.map (Mt bs v.rep v.seq)).drop p ↔ x = v ∨ x ∈ l.map (Mt bs v.rep v.seq) := fun p => by
  conv => rhs; rw [← List.take_append_drop p (l.map (Mt bs v.rep v.seq))]
  simp only [List.mem_append, List.mem_cons];constructor
  · rintro (h | h | h)
    · exact .inr (.inl h)
    · exact .inl h
    · exact .inr (.inr h)
  · rintro (h | h | h)
    · exact .inr (.inl h)
    · exact .inl h
    · exact .inr (.inr h)
 rw [h, List.mem_map];exact or_congr_right ⟨fun ⟨y, h1, h2⟩ => ⟨y, h1, h2.symm⟩, fun ⟨y, h1, h2⟩ => ⟨y, h1, h2.symm⟩⟩
theorem Ap1 {l : List Ver} {r : Int} {q : Nat} (h : Co l r q = none) : ∃ p, Pb l r q 0 = (p, false) := by
 rcases ha : Pb l r q 0 with ⟨p, b⟩
 cases b with
 | false => exact ⟨p, rfl⟩
 | true => obtain ⟨_, u, _, _, h4⟩ := Hu ha; rw [h] at h4; cases h4
theorem Abt {l : List Ver} {bs : List Bg} {v : Ver} (hs : Cd l) (h : Co l v.rep v.seq = none) : Cd (Fe l bs v) := by
 obtain ⟨p, hp⟩ := Ap1 h;obtain ⟨_, g2, g3, g4, g5, g6⟩ := Hi hs hp;rw [Nat.sub_zero] at g2 g5 g6;have hM := Og (bs := bs) (r := v.rep) (q := v.seq) hs;unfold Fe;rw [hp];simp only;have h5 : ∀ x ∈ (C6 l bs v.rep v.seq).take p, C8 x.rep x.seq v.rep v.seq = true := fun x hx => by
  rw [X9, ← List.map_take] at hx;obtain ⟨y, hy, rfl⟩ := List.mem_map.1 hx;have := Aam bs v.rep v.seq y;simp only [vid, Prod.mk.injEq] at this;rw [this.1, this.2]; exact g5 y hy
 have h6 : ∀ x ∈ (C6 l bs v.rep v.seq).drop p, C8 v.rep v.seq x.rep x.seq = true := fun x hx => by
  rw [X9, ← List.map_drop] at hx;obtain ⟨y, hy, rfl⟩ := List.mem_map.1 hx;have := Aam bs v.rep v.seq y;simp only [vid, Prod.mk.injEq] at this;rw [this.1, this.2]; exact g6 y hy
 refine List.pairwise_append.2 ⟨List.Pairwise.sublist (List.take_sublist _ _) hM, List.pairwise_cons.2 ⟨h6, List.Pairwise.sublist (List.drop_sublist _ _) hM⟩, fun a ha b hb => ?_⟩;rcases List.mem_cons.1 hb with rfl | hb
 · exact h5 a ha
 · exact Nf (h5 a ha) (h6 b hb)
theorem Tb {α : Type} {P : List α → Prop} (h0 : P []) (h1 : ∀ l a, P l → P (l ++ [a])) : ∀ l, P l := by
 have key : ∀ n, ∀ l : List α, l.length = n → P l := by
  intro n
  induction n with
  | zero => intro l hl; rw [List.eq_nil_of_length_eq_zero hl]; exact h0
  | succ n ih =>
    intro l hl;have hne : l ≠ [] := fun e => by subst e; simp at hl
    rw [← List.dropLast_concat_getLast hne];exact h1 _ _ (ih _ (by simp [hl]))
 exact fun l => key _ l rfl
theorem Xv {α : Type} {r : α → α → Prop} (ha : ∀ a b, r a b → r b a → False) : ∀ {l m : List α}, l.Pairwise r → m.Pairwise r → (∀ a, a ∈ l ↔ a ∈ m) → l = m
 | [], [], _, _, _ => rfl
 | [], y :: m, _, _, h => by have := (h y).2 List.mem_cons_self; cases this
 | x :: l, [], _, _, h => by have := (h x).1 List.mem_cons_self; cases this
 | x :: l, y :: m, hl, hm, h => by
   obtain ⟨h1, h2⟩ := List.pairwise_cons.1 hl;obtain ⟨k1, k2⟩ := List.pairwise_cons.1 hm;have ex : x = y := by
    rcases List.mem_cons.1 ((h x).1 List.mem_cons_self) with a | a
    · exact a
    · rcases List.mem_cons.1 ((h y).2 List.mem_cons_self) with b | b
      · exact b.symm
      · exact (ha _ _ (h1 y b) (k1 x a)).elim
   subst ex;congr 1;refine Xv ha h2 k2 fun a => ?_;have ne : ∀ {n : List α}, (∀ b ∈ n, r x b) → x ∉ n := fun hn hx => ha x x (hn x hx) (hn x hx);constructor
   · intro hq;rcases List.mem_cons.1 ((h a).1 (List.mem_cons_of_mem _ hq)) with e | e
     · subst e; exact absurd hq (ne h1)
     · exact e
   · intro hq;rcases List.mem_cons.1 ((h a).2 (List.mem_cons_of_mem _ hq)) with e | e
     · subst e; exact absurd hq (ne k1)
     · exact e
theorem L3 {l m : List Ent} (hl : Cx l) (hm : Cx m) (h : ∀ x, x ∈ l ↔ x ∈ m) : l = m := Xv (fun a b h k => Yl h k) hl hm h
theorem V0 {l m : List Ver} (hl : Cd l) (hm : Cd m) (h : ∀ x, x ∈ l ↔ x ∈ m) : l = m := Xv (fun a b h k => Yl (a := (a.rep, a.seq)) (b := (b.rep, b.seq)) h k) hl hm h
theorem Ta {l : List Obj} : D1 l ↔ l.Pairwise fun a b => Ip a.id b.id = true := by
 unfold D1 Cx; rw [List.pairwise_map]; exact Iff.rfl
theorem Ps {l m : List Obj} (hl : D1 l) (hm : D1 m) (h : ∀ x, x ∈ l ↔ x ∈ m) : l = m := Xv (fun a b h k => Yl h k) (Ta.1 hl) (Ta.1 hm) h
structure Acc (s : St) (e : Evt) : Prop where
 ck : Bt e = true
 new : Bn s.known e.rep e.seq = false
 dep : vLe e.dep s.known
 ret : s.ret (e.rep - 1).toNat = false
 why : Vi s e = 0
theorem Mi {s : St} {e : Evt} : Fu s e = 0 ↔ Acc s e := by
 unfold Fu;constructor
 · intro h;split at h
   · cases h
   · split at h
     · cases h
     · split at h
       · cases h
       · split at h
         · cases h
         · rename_i h1 h2 h3 h4;exact ⟨by simpa using h1, by simpa using h2, by simpa using h3, by simpa using h4, h⟩
 · intro ⟨h1, h2, h3, h4, h5⟩;rw [if_neg (by rw [h1]; simp), if_neg (by rw [h2]; simp), if_neg (fun q => q h3), if_neg (by rw [h4]; simp)];exact h5
inductive Val : List Evt → Prop
 | nil : Val []
 | snoc {l : List Evt} {e : Evt} : Val l → ev e → Fu (Ae l) e = 0 → Val (l ++ [e])
theorem Dg (l : List Evt) : (Ae l).known = C2 l := (Abg l l).2
theorem Mg (l : List Evt) : (Ae l).ents = Cw l l := (Abg l l).1
theorem Val.inv {l : List Evt} {e : Evt} (h : Val (l ++ [e])) : Val l ∧ ev e ∧ Fu (Ae l) e = 0 := by
 generalize hm : l ++ [e] = m at h;cases h with
 | nil => simp at hm
 | snoc a b c =>
   obtain ⟨rfl, h2⟩ := List.append_inj' hm rfl;cases h2;exact ⟨a, b, c⟩
theorem Val.pre {l m : List Evt} : Val (l ++ m) → Val l :=
 Tb (P := fun m => Val (l ++ m) → Val l) (fun h => by simpa using h) (fun m e ih h => by
  rw [← List.append_assoc] at h;exact ih h.inv.1) m
theorem Ld {a : Vc} {i : Bg} : Bn a i.1 i.2 = true ↔ 1 ≤ i.2 ∧ 1 ≤ i.1 ∧ i.1 ≤ 8 ∧ i.2 ≤ a (i.1 - 1).toNat := by
 refine ⟨An6, fun ⟨h1, h2, h3, h4⟩ => ?_⟩;unfold Bn Ng; rw [if_pos ⟨h2, h3⟩]; exact decide_eq_true ⟨h1, h4⟩
theorem Nu {v : Vc} {r : Int} {q : Nat} (hr : 1 ≤ r ∧ r ≤ 8) (i : Nat) : Bq v r q i = if i = (r - 1).toNat then max (v i) q else v i := by
 unfold Bq Gy; rw [if_pos hr]; split
 · rename_i h; rw [h]
 · rfl
theorem Xi {v : Vc} {r : Int} {q : Nat} (i : Nat) : v i ≤ Bq v r q i := by
 by_cases hr : 1 ≤ r ∧ r ≤ 8
 · rw [Nu hr]; split <;> omega
 · unfold Bq; rw [if_neg hr]; exact Nat.le_refl _
theorem Aa3 {a b : Vc} (h : ∀ i, i < 8 → a i ≤ b i) {i : Bg} (k : Bn a i.1 i.2 = true) : Bn b i.1 i.2 = true := by
 rw [Ld] at k ⊢;have := h (i.1 - 1).toNat (by omega);omega
theorem Abu {s : St} {e : Evt} (h : Acc s e) : 1 ≤ e.rep ∧ e.rep ≤ 8 ∧ e.seq = s.known (e.rep - 1).toNat + 1 := by
 obtain ⟨b1, b2, b3, b4, b5, b6, b7⟩ := Cr h.ck;have h1 := h.dep (e.rep - 1).toNat (by omega);have h2 : ¬ Bn s.known e.rep e.seq = true := by rw [h.new]; simp
 rw [show Bn s.known e.rep e.seq = Bn s.known (Ar e).1 (Ar e).2 from rfl, Ld] at h2;simp only at h2;omega
theorem Val.known {l : List Evt} (h : Val l) : NodE l ∧ ∀ i : Bg, Bn (C2 l) i.1 i.2 = true ↔ ∃ e ∈ l, Ar e = i := by
 induction h with
 | nil => exact ⟨List.nodup_nil, fun i => by rw [Ld]; simp [C2]; omega⟩
 | @snoc l e hl he hw ih =>
   have ha := Mi.1 hw;obtain ⟨n1, n2, n3⟩ := Abu ha;have hb := Cr ha.ck;rw [Dg] at n3;have hnew : ¬ ∃ f ∈ l, Ar f = Ar e := fun q => by
    have := (ih.2 (Ar e)).2 q;have h2 := ha.new;rw [Dg] at h2;rw [show Bn (C2 l) (Ar e).1 (Ar e).2 = Bn (C2 l) e.rep e.seq from rfl, h2] at this;cases this
   refine ⟨?_, fun i => ?_⟩
   · unfold NodE;rw [List.map_append, List.nodup_append];refine ⟨ih.1, by simp, fun a hm b hb q => hnew ?_⟩;obtain ⟨f, hf, rfl⟩ := List.mem_map.1 hm;simp at hb;exact ⟨f, hf, by rw [q, hb]⟩
   · rw [K9];have key : Bn (Bq (C2 l) e.rep e.seq) i.1 i.2 = true ↔ Bn (C2 l) i.1 i.2 = true ∨ i = Ar e := by
      rw [Ld, Ld, Nu ⟨n1, n2⟩];by_cases hi : i = Ar e
      · subst hi;simp only [or_true, iff_true];refine ⟨hb.2.2.1, n1, n2, ?_⟩;simp only [if_true]; exact Nat.le_max_right _ _
      · simp only [hi, or_false];by_cases hr : i.1 = e.rep
        · have hq : i.2 ≠ e.seq := fun q => hi (Prod.ext hr q);rw [hr, if_pos rfl];omega
        · constructor
          · rintro ⟨a, b, c, d⟩;rw [if_neg (by omega)] at d;exact ⟨a, b, c, d⟩
          · rintro ⟨a, b, c, d⟩;rw [if_neg (by omega)];exact ⟨a, b, c, d⟩
     rw [key, ih.2];constructor
     · rintro (⟨f, hf, q⟩ | q)
       · exact ⟨f, by simp [hf], q⟩
       · exact ⟨e, by simp, q.symm⟩
     · rintro ⟨f, hf, q⟩;rcases List.mem_append.1 hf with hf | hf
       · exact .inl ⟨f, hf, q⟩
       · rw [List.mem_singleton] at hf; subst hf; exact .inr q.symm
theorem Val.nod {l : List Evt} (h : Val l) : NodE l := h.known.1
theorem Val.has {l : List Evt} (h : Val l) {i : Bg} : Bn (C2 l) i.1 i.2 = true ↔ ∃ e ∈ l, Ar e = i := h.known.2 i
theorem Val.mem {l : List Evt} (h : Val l) {e : Evt} (he : e ∈ l) : ∃ a b, l = a ++ e :: b ∧ Val a ∧ ev e ∧ Acc (Ae a) e := by
 obtain ⟨a, b, rfl⟩ := List.append_of_mem he;have h2 : Val ((a ++ [e]) ++ b) := by rw [List.append_assoc]; exact h
 obtain ⟨h3, h4, h5⟩ := h2.pre.inv;exact ⟨a, b, rfl, h3, h4, Mi.1 h5⟩
theorem Sk {l : List Evt} (h : Val l) {e : Evt} (ha : Acc (Ae l) e) {i : Bg} (k : Bn e.dep i.1 i.2 = true) : ∃ f ∈ l, Ar f = i := by
 refine h.has.1 (Aa3 (fun j hj => ?_) k);have := ha.dep j hj
 rwa [Dg] at this
theorem Ft {l : List Evt} (h : Val l) {e : Evt} (ha : Acc (Ae l) e) : ∀ f ∈ l, Ar f ≠ Ar e := fun f hf q => by
 have h1 := h.has.2 ⟨f, hf, q⟩;have h2 := ha.new;rw [Dg] at h2;rw [show Bn (C2 l) (Ar e).1 (Ar e).2 = Bn (C2 l) e.rep e.seq from rfl, h2] at h1;cases h1
theorem Af2 {e : Evt} {l : List Bg} {n : Int} (h : E1 l n e.dep = true) : ∀ b ∈ l, Bn e.dep b.1 b.2 = true := fun b hb => by
 unfold E1 Q3 at h;simp only [Bool.and_eq_true, decide_eq_true_eq] at h;obtain ⟨j, hj⟩ := List.mem_iff_getElem?.1 hb;obtain ⟨hlt, hg⟩ := List.getElem?_eq_some_iff.1 hj;have := (h.2 j hlt).1;rw [hg] at this; exact this
theorem Lk {e : Evt} (h : Bt e = true) : Er e = true ∧ Bx (Bv e) = true := by
 unfold Bt at h;simp only [Bool.and_eq_true, decide_eq_true_eq] at h;exact ⟨h.2.2.2, h.2.2.1⟩
theorem Ka {e : Evt} (h : Bt e = true) (hk : e.kind = 6 ∨ e.kind = 7) : ∀ b ∈ e.gone.l, Bn e.dep b.1 b.2 = true := by
 have hK := (Lk h).1;rcases hk with k | k
 · rw [Yd k] at hK; simp only [Bool.and_eq_true] at hK; exact Af2 hK.2
 · rw [Yc k] at hK; simp only [Bool.and_eq_true] at hK; exact Af2 hK.2.1
theorem Ajd {e : Evt} (h : Bt e = true) (hk : e.kind = 3 ∨ e.kind = 4 ∨ e.kind = 5 ∨ e.kind = 6 ∨ e.kind = 7) : Bn e.dep e.orep e.oseq = true := by
 have hK := (Lk h).1;rcases hk with k | k | k | k | k
 · rw [J0 k] at hK; simp only [Bool.and_eq_true] at hK; exact hK.1
 · rw [Om k] at hK; simp only [Bool.and_eq_true] at hK; exact hK.1
 · rw [Ol k] at hK; simp only [Bool.and_eq_true] at hK; exact hK.1
 · rw [Yd k] at hK; simp only [Bool.and_eq_true] at hK; exact hK.1
 · rw [Yc k] at hK; simp only [Bool.and_eq_true] at hK; exact hK.1
theorem Uw {e : Evt} (h : Bt e = true) (hk : ¬ (e.kind = 3 ∨ e.kind = 4 ∨ e.kind = 5 ∨ e.kind = 6 ∨ e.kind = 7)) : Ap e = (0, 0) := by
 obtain ⟨b1, b2, b3, b4, b5, b6, b7⟩ := Cr h;have hz := (Lk h).2;have h4 : e.kind = 1 ∨ e.kind = 2 ∨ e.kind = 8 ∨ e.kind = 9 := by omega
 have hz' : Gk e.orep e.oseq = true := by
  rcases h4 with k | k | k | k
  · rw [Av1 k] at hz; simp only [Cu, Bool.and_eq_true, Bool.or_eq_true, Bool.false_eq_true, false_or] at hz; exact hz.1
  · rw [A04 k] at hz; simp only [Cu, Bool.and_eq_true, Bool.or_eq_true, Bool.false_eq_true, false_or] at hz; exact hz.1
  · rw [A02 k] at hz; simp only [Cu, Bool.and_eq_true, Bool.or_eq_true, Bool.false_eq_true, false_or] at hz; exact hz.1
  · rw [A01 k] at hz; simp only [Cu, Bool.and_eq_true, Bool.or_eq_true, Bool.false_eq_true, false_or] at hz; exact hz.1
 obtain ⟨h1, h2⟩ := of_decide_eq_true hz';exact Prod.ext h1 h2
theorem Asm {l : List Evt} {e : Evt} (h : Val l) (ha : Acc (Ae l) e) (obj : Bg) {g : Evt} (hg : g ∈ l ++ [e]) : goF g obj (Ar e) = false := by
 cases hq : goF g obj (Ar e) with
 | false => rfl
 | true =>
   unfold goF at hq;simp only [Bool.and_eq_true, decide_eq_true_eq] at hq;rcases List.mem_append.1 hg with hg | hg
   · obtain ⟨a, b, rfl, h1, _, h3⟩ := h.mem hg;obtain ⟨f, hf, hi⟩ := Sk h1 h3 (Ka h3.ck hq.1 _ hq.2.2);exact absurd hi (Ft h ha f (by simp [hf]))
   · rw [List.mem_singleton] at hg; subst hg;obtain ⟨f, hf, hi⟩ := Sk h ha (Ka ha.ck hq.1 _ hq.2.2);exact absurd hi (Ft h ha f hf)
theorem Amt {l : List Evt} {e : Evt} (h : Val l) (ha : Acc (Ae l) e) {g : Evt} (hg : g ∈ l ++ [e]) : Ap g ≠ Ar e := fun q => by
 have base := Cr ha.ck;have hne : ∀ {g : Evt}, Bt g = true → Ap g = Ar e → Bn g.dep g.orep g.oseq = true := fun {g} hc q => by
  refine Ajd hc (Classical.byContradiction fun hk => ?_);have := Uw hc hk;rw [this] at q;have q1 : (0 : Int) = e.rep := congrArg Prod.fst q;have := base.1;omega
 rcases List.mem_append.1 hg with hg | hg
 · obtain ⟨a, b, rfl, h1, _, h3⟩ := h.mem hg;obtain ⟨f, hf, hi⟩ := Sk h1 h3 (i := Ap g) (hne h3.ck q);rw [q] at hi;exact absurd hi (Ft h ha f (by simp [hf]))
 · rw [List.mem_singleton] at hg; subst hg;obtain ⟨f, hf, hi⟩ := Sk h ha (i := Ap g) (hne ha.ck q);rw [q] at hi;exact absurd hi (Ft h ha f hf)
theorem P7 {l : List Evt} : ∀ m : List Evt, NodE m → Cx (Cw l m) ∧ ∀ x, x ∈ Cw l m ↔ ∃ e ∈ m, mkB e = true ∧ x = G3 l e := by
 refine Tb (fun _ => ⟨List.Pairwise.nil, by simp [Cw]⟩) fun m e ih hn => ?_;have hn' : NodE m := by unfold NodE at *; rw [List.map_append] at hn; exact hn.sublist (List.sublist_append_left _ _)
 obtain ⟨h1, h2⟩ := ih hn';have grow : ∀ x : Ent, (∃ f ∈ m ++ [e], mkB f = true ∧ x = G3 l f) ↔ (∃ f ∈ m, mkB f = true ∧ x = G3 l f) ∨ (mkB e = true ∧ x = G3 l e) := fun o => by
  simp only [List.mem_append, List.mem_singleton];constructor
  · rintro ⟨f, hf | rfl, h⟩
    · exact .inl ⟨f, hf, h⟩
    · exact .inr h
  · rintro (⟨f, hf, h⟩ | h)
    · exact ⟨f, .inl hf, h⟩
    · exact ⟨e, .inr rfl, h⟩
 rw [Uo];by_cases hm : mkB e = true
 · rw [if_pos hm, V3 h1];have hnew : Fx (Cw l m) (G3 l e).id = none := Em.2 fun x hx q => by
    obtain ⟨f, hf, _, rfl⟩ := (h2 x).1 hx;unfold NodE at hn;rw [List.map_append, List.nodup_append] at hn;exact hn.2.2 (Ar f) (List.mem_map_of_mem hf) (Ar e) (by simp) q
   have e1 : Ac0 (Cw l m) (G3 l e) = Mo (Cw l m) (G3 l e) := by
    unfold Ac0; rw [if_neg (by rw [Af1.2 hnew]; simp)]
   rw [e1];refine ⟨S8 h1 hnew, fun x => ?_⟩;rw [X8, h2, grow];exact ⟨fun q => q.elim (fun q => .inr ⟨hm, q⟩) .inl, fun q => q.elim .inr fun q => .inl q.2⟩
 · rw [if_neg hm];refine ⟨h1, fun x => ?_⟩;rw [h2, grow];exact ⟨.inl, fun q => q.resolve_right fun q => hm q.1⟩
theorem Adr (b : Bg) (x : Ent) : La b (La b x) = La b x := by
 unfold La; simp only [Zf, Ab5]
theorem Wm (e : Evt) : ∀ (m l : List Ent), D0 e l m = l.map fun x => if m.any (fun y => decide (y.id = x.id) && De e y) = true then La (Ar e) x else x
 | [], l => by simp [D0]
 | y :: m, l => by
   have ih := Wm e m (if De e y = true then killL l y.id (Ar e) else l);unfold D0 at ih ⊢;simp only [List.foldl_cons];rw [ih];split
   · rename_i hg;unfold killL Rq;rw [List.map_map];refine List.map_congr_left fun x hx => ?_;simp only [Function.comp];by_cases hy : x.id = y.id
     · simp only [if_pos hy];have e2 : List.any (y :: m) (fun z => decide (z.id = x.id) && De e z) = true := by simp [hy, hg]
       rw [if_pos e2];split
       · exact Adr _ _
       · rfl
     · simp only [if_neg hy];have e2 : List.any (y :: m) (fun z => decide (z.id = x.id) && De e z) = List.any m (fun z => decide (z.id = x.id) && De e z) := by
        rw [List.any_cons, decide_eq_false (fun q : y.id = x.id => hy q.symm), Bool.false_and, Bool.false_or]
       rw [e2]
   · rename_i hg;refine List.map_congr_left fun x hx => ?_;have e2 : List.any (y :: m) (fun z => decide (z.id = x.id) && De e z) = List.any m (fun z => decide (z.id = x.id) && De e z) := by
      simp [show De e y = false by simpa using hg]
     rw [e2]
theorem Aoc {e : Evt} {l : List Ent} (hs : Cx l) : D0 e l l = l.map fun x => if De e x = true then La (Ar e) x else x := by
 rw [Wm];refine List.map_congr_left fun x hx => ?_;have : l.any (fun y => decide (y.id = x.id) && De e y) = De e x := by
  rw [Bool.eq_iff_iff, List.any_eq_true];constructor
  · rintro ⟨y, hy, h⟩;simp only [Bool.and_eq_true, decide_eq_true_eq] at h;have h1 := Aao hs hy;have h2 := Aao hs hx;rw [h.1] at h1;rw [h1] at h2; cases h2;exact h.2
  · exact fun h => ⟨x, hx, by simp [h]⟩
 rw [this]
theorem Auu {l : List Evt} {e : Evt} (h : Val l) (ha : Acc (Ae l) e) (obj : Bg) : byG (l ++ [e]) obj (Ar e) = fun _ => 0 := by
 unfold byG;have : ∀ m : List Evt, (∀ g ∈ m, goF g obj (Ar e) = false) → m.foldl (fun g f => if goF f obj (Ar e) = true then Bq g f.rep f.seq else g) (fun _ => 0 : Vc) = fun _ => 0 := fun m hm => by
  induction m with
  | nil => rfl
  | cons g m ih =>
    rw [List.foldl_cons, if_neg (by rw [hm g List.mem_cons_self]; simp)];exact ih fun f hf => hm f (List.mem_cons_of_mem _ hf)
 exact this _ fun g hg => Asm h ha obj hg
theorem Ao4 {l : List Evt} {e : Evt} (h : Val l) (ha : Acc (Ae l) e) : G3 (l ++ [e]) e = Eu e (Vo e) := by
 unfold G3 Eu; rw [Auu h ha]
theorem Uq (l : List Evt) (e f : Evt) : G3 (l ++ [e]) f = if goF e (Vo f) (Ar f) = true then La (Ar e) (G3 l f) else G3 l f := by
 unfold G3;rw [Apq];split
 · unfold La; simp only;rw [show Bq (byG l (Vo f) (Ar f)) e.rep e.seq = Bq (byG l (Vo f) (Ar f)) (Ar e).1 (Ar e).2 from rfl, Zd]
 · rfl
theorem Ug (l : List Evt) (e f : Evt) (hk : e.kind = 6 ∨ e.kind = 7) : goF e (Vo f) (Ar f) = De e (G3 l f) := by
 unfold goF De G3;simp only [hk, decide_true, Bool.true_and];congr 1;exact decide_eq_decide.2 ⟨Eq.symm, Eq.symm⟩
theorem Ai0 {l : List Evt} {e : Evt} (h : Val l) (ha : Acc (Ae l) e) :
 Cw (l ++ [e]) (l ++ [e]) = if e.kind = 1 ∨ e.kind = 2 then Pc (Cw l l) (Eu e (Ar e)) else if e.kind = 7 then Pc (D0 e (Cw l l) (Cw l l)) (Eu e (Ap e)) else if e.kind = 6 then D0 e (Cw l l) (Cw l l) else Cw l l := by
 have hn := h.nod;have hn2 : NodE (l ++ [e]) := by
  unfold NodE;rw [List.map_append, List.nodup_append];refine ⟨hn, by simp, fun a hm b hb q => ?_⟩;obtain ⟨f, hf, rfl⟩ := List.mem_map.1 hm;simp at hb;exact Ft h ha f hf (by rw [q, hb])
 obtain ⟨s1, m1⟩ := P7 (l := l) l hn;obtain ⟨s2, m2⟩ := P7 (l := l ++ [e]) (l ++ [e]) hn2;have hlook : ∀ {m : List Ent}, (∀ x ∈ m, ∃ f ∈ l, x.id = Ar f) → Fx m (Ar e) = none := fun hm => Em.2 fun x hx q => by
  obtain ⟨f, hf, hi⟩ := hm x hx;exact Ft h ha f hf (by rw [← hi, q])
 have hadd : ∀ {m : List Ent} {o : Bg}, Cx m → (∀ x ∈ m, ∃ f ∈ l, x.id = Ar f) → Cx (Pc m (Eu e o)) ∧ ∀ x, x ∈ Pc m (Eu e o) ↔ x = Eu e o ∨ x ∈ m := fun {m o} hs hm => by
  have hl := hlook hm;have e1 : Pc m (Eu e o) = Mo m (Eu e o) := by unfold Pc; rw [if_neg (by rw [show Ou m (Eu e o).id = false from Af1.2 hl]; simp)]
  rw [e1];exact ⟨S8 hs hl, fun x => X8⟩
 have hold : ∀ x ∈ Cw l l, ∃ f ∈ l, x.id = Ar f := fun x hx => by
  obtain ⟨f, hf, _, rfl⟩ := (m1 x).1 hx; exact ⟨f, hf, rfl⟩
 have hgone := J4 (e := e) s1 (Cw l l);have hgeq := Aoc (e := e) s1;have hgold : ∀ x ∈ D0 e (Cw l l) (Cw l l), ∃ f ∈ l, x.id = Ar f := fun x hx => by
  rw [hgeq] at hx;obtain ⟨y, hy, rfl⟩ := List.mem_map.1 hx;obtain ⟨f, hf, hi⟩ := hold y hy;refine ⟨f, hf, ?_⟩;split <;> exact hi
 have mG : (e.kind = 6 ∨ e.kind = 7) → ∀ x, x ∈ D0 e (Cw l l) (Cw l l) ↔ ∃ f ∈ l, mkB f = true ∧ x = G3 (l ++ [e]) f := fun hk x => by
  rw [hgeq, List.mem_map];constructor
  · rintro ⟨y, hy, rfl⟩;obtain ⟨f, hf, hm, rfl⟩ := (m1 y).1 hy;exact ⟨f, hf, hm, by rw [Uq, Ug l e f hk]⟩
  · rintro ⟨f, hf, hm, rfl⟩;exact ⟨G3 l f, (m1 _).2 ⟨f, hf, hm, rfl⟩, by rw [Uq, Ug l e f hk]⟩
 have mN : ¬ (e.kind = 6 ∨ e.kind = 7) → ∀ x, x ∈ Cw l l ↔ ∃ f ∈ l, mkB f = true ∧ x = G3 (l ++ [e]) f := fun hk x => by
  rw [m1];have : ∀ f, G3 (l ++ [e]) f = G3 l f := fun f => by
   rw [Uq, if_neg (by unfold goF; simp [hk])]
  exact ⟨fun ⟨f, a, b, c⟩ => ⟨f, a, b, by rw [this, c]⟩, fun ⟨f, a, b, c⟩ => ⟨f, a, b, by rw [← this, c]⟩⟩
 have grow : ∀ x : Ent, (∃ f ∈ l ++ [e], mkB f = true ∧ x = G3 (l ++ [e]) f) ↔ (mkB e = true ∧ x = Eu e (Vo e)) ∨ (∃ f ∈ l, mkB f = true ∧ x = G3 (l ++ [e]) f) := fun x => by
  rw [← Ao4 h ha];simp only [List.mem_append, List.mem_singleton];constructor
  · rintro ⟨f, hf | rfl, h⟩
    · exact .inr ⟨f, hf, h⟩
    · exact .inl h
  · rintro (h | ⟨f, hf, h⟩)
    · exact ⟨e, .inr rfl, h⟩
    · exact ⟨f, .inl hf, h⟩
 by_cases h12 : e.kind = 1 ∨ e.kind = 2
 · rw [if_pos h12];have hm : mkB e = true := decide_eq_true (by omega);have ho : Vo e = Ar e := if_neg (by omega);obtain ⟨a1, a2⟩ := hadd (o := Ar e) s1 hold;refine L3 s2 a1 fun x => ?_;rw [m2, grow, a2, mN (by omega), ho];simp [hm]
 rw [if_neg h12];by_cases h7 : e.kind = 7
 · rw [if_pos h7];have hm : mkB e = true := decide_eq_true (by omega);have ho : Vo e = Ap e := if_pos h7;obtain ⟨a1, a2⟩ := hadd (o := Ap e) hgone hgold;refine L3 s2 a1 fun x => ?_;rw [m2, grow, a2, mG (.inr h7), ho];simp [hm]
 rw [if_neg h7];have hm : mkB e = false := decide_eq_false (by omega);by_cases h6 : e.kind = 6
 · rw [if_pos h6];refine L3 s2 hgone fun x => ?_;rw [m2, grow, mG (.inl h6)];simp [hm]
 · rw [if_neg h6];refine L3 s2 s1 fun x => ?_;rw [m2, grow, mN (by omega)];simp [hm]
theorem Lx {l : List Evt} {e : Evt} (h : Val l) (ha : Acc (Ae l) e) : NodE (l ++ [e]) := by
 unfold NodE;rw [List.map_append, List.nodup_append];refine ⟨h.nod, by simp, fun a hm b hb q => ?_⟩;obtain ⟨f, hf, rfl⟩ := List.mem_map.1 hm;simp at hb;exact Ft h ha f hf (by rw [q, hb])
theorem Wr {l : List Evt} (hn : NodE l) {e : Evt} (he : e ∈ l) : Uk l (Ar e) = some e := by
 unfold Uk
 induction l with
 | nil => cases he
 | cons f l ih =>
   unfold NodE at hn;rw [List.map_cons, List.nodup_cons] at hn;rw [List.find?_cons];rcases List.mem_cons.1 he with rfl | he
   · simp
   · have : Ar f ≠ Ar e := fun q => hn.1 (q ▸ List.mem_map_of_mem he);rw [decide_eq_false this];exact ih hn.2 he
theorem Aix {l : List Evt} {i : Bg} (t : List Evt) (h : ∃ f ∈ l, Ar f = i) : Uk (l ++ t) i = Uk l i := by
 obtain ⟨f, hf, hi⟩ := h;unfold Uk;rw [List.find?_append];cases hq : List.find? (fun e => decide (Ar e = i)) l with
 | some x => rfl
 | none => exact absurd hi (by simpa using List.find?_eq_none.1 hq f hf)
theorem P6 (l : List Evt) (e : Evt) : ∀ m : List Evt, (Dl l m e).vers = Cn l (Ar e) l :=
 Tb rfl fun m f ih => by
  rw [L5];unfold Iz;split
  · split
    · split <;> exact ih
    · split <;> exact ih
  · exact ih
theorem Oe {l : List Evt} (hn : NodE l) : D1 (Ae l).objs ∧ (Ae l).objs.length ≤ l.length ∧ ∀ o, o ∈ (Ae l).objs ↔ ∃ e ∈ l, (e.kind = 1 ∨ e.kind = 2) ∧ o = Dl l l e := Abf l.length l rfl hn
theorem Ade {l : List Obj} {i : Bg} {o : Obj} (h : G7 l i = some o) : o ∈ l ∧ o.id = i := ⟨List.mem_of_getElem? (Ho h).1, (Ho h).2⟩
theorem Pd {l : List Evt} {e : Evt} (h : Val l) (ha : Acc (Ae l) e) (hk : e.kind = 3 ∨ e.kind = 4 ∨ e.kind = 5 ∨ e.kind = 6 ∨ e.kind = 7) : ∃ f ∈ l, (f.kind = 1 ∨ f.kind = 2) ∧ Ar f = Ap e ∧ G7 (Ae l).objs (Ap e) = some (Dl l l f) ∧ (Vg e = true → (Dl l l f).dir = false ∧ ¬ Dw (Cn l (Ap e) l) e.base.l) := by
 have hw := ha.why;unfold Vi at hw;rw [if_neg (by omega), if_neg (by omega)] at hw;cases ho : G7 (Ae l).objs (Ap e) with
 | none => rw [ho] at hw; cases hw
 | some o =>
   rw [ho] at hw;obtain ⟨h1, h2⟩ := Ade ho;obtain ⟨f, hf, hk12, rfl⟩ := ((Oe h.nod).2.2 o).1 h1;have h2' : Ar f = Ap e := by rw [← Od l f l]; exact h2
   refine ⟨f, hf, hk12, h2', rfl, fun hwr => ?_⟩;have hk3 := of_decide_eq_true hwr;simp only at hw;rw [if_neg (by omega), if_neg (by omega)] at hw;split at hw
   · cases hw
   · split at hw
     · cases hw
     · rename_i hd hm;rw [P6, h2'] at hm;exact ⟨by simpa using hd, hm⟩
theorem Je {l : List Evt} {e : Evt} (h : Val l) (ha : Acc (Ae l) e) (hw : Vg e = true) : ∀ b ∈ e.base.l, ∃ v, Co (Cn l (Ap e) l) b.1 b.2 = some v ∧ ∃ g ∈ l, Vg g = true ∧ Ap g = Ap e ∧ Ar g = b ∧ v = Iv l l g := fun b hb => by
 have hk3 := of_decide_eq_true hw;obtain ⟨f, hf, hk, hi, ho, hm⟩ := Pd h ha (by omega);obtain ⟨_, hm⟩ := hm hw;cases hv : Co (Cn l (Ap e) l) b.1 b.2 with
 | none => exact absurd ⟨b, hb, hv⟩ hm
 | some v =>
   obtain ⟨h1, h2⟩ := Wq hv;obtain ⟨g, hg, ⟨hw, ho⟩, rfl⟩ := (Lw l.length l rfl).1 h1;exact ⟨_, rfl, g, hg, hw, ho, Prod.ext h2.1 h2.2, rfl⟩
noncomputable def Xj (l : List Evt) (e : Evt) : List UInt8 := match e.base.l with
 | [] => []
 | b :: _ => Gb l l.length b
theorem Aed {e : Evt} (h : Bt e = true) (hw : Vg e = true) : e.data.length ≤ 200 := by
 have hK := Lk h;have hk := of_decide_eq_true hw;rcases hk with k | k | k
 · have h1 := hK.1;rw [J0 k] at h1;simp only [Bool.and_eq_true, Da, decide_eq_true_eq] at h1;omega
 · have h1 := hK.2;rw [A03 k] at h1;simp only [Cu, Bool.and_eq_true, Bool.or_eq_true, decide_eq_true_eq, Bool.false_eq_true, false_or, true_or] at h1;have : e.data = [] := h1.2.2.2.2.2.1;rw [this]; simp
 · have h1 := hK.1;rw [Ol k] at h1;simp only [Bool.and_eq_true, Da, decide_eq_true_eq] at h1;omega
theorem Agt {e : Evt} (h : Bt e = true) (hw : Vg e = true) {was : List UInt8} (hl : was.length ≤ 200) : (Qy e was).length ≤ 200 := by
 have hd := Aed h hw;unfold Qy;split
 · exact hd
 · split
   · unfold Azm; split
     · simp
     · rw [Apf]; omega
   · unfold Ac2; split
     · simp
     · rename_i h; unfold Ey at h; rw [Ac3]; omega
theorem Ly {l : List Evt} (h : Val l) : ∀ g ∈ l, Vg g = true → (Gb l l.length (Ar g)).length ≤ 200 ∧ ∀ t n, l.length ≤ n → Gb (l ++ t) n (Ar g) = Gb l l.length (Ar g) := by
 induction h with
 | nil => intro g hg; cases hg
 | @snoc l e hl he hw ih =>
   have ha := Mi.1 hw;intro g hg hgw;have hlen : (l ++ [e]).length = l.length + 1 := by simp
   rcases List.mem_append.1 hg with hg | hg
   · obtain ⟨h1, h2⟩ := ih g hg hgw;have e1 : Gb (l ++ [e]) (l ++ [e]).length (Ar g) = Gb l l.length (Ar g) := h2 [e] _ (by omega);rw [e1];refine ⟨h1, fun t n hn => ?_⟩;rw [List.append_assoc];exact h2 _ n (by omega)
   · rw [List.mem_singleton] at hg; subst hg;have key : ∀ t n, (l ++ [g]).length ≤ n → Gb ((l ++ [g]) ++ t) n (Ar g) = Qy g (Xj l g) := fun t n hn => by
      obtain ⟨n, rfl⟩ : ∃ k, n = k + 1 := ⟨n - 1, by omega⟩
      simp only [Gb];rw [Aix t ⟨g, by simp, rfl⟩, Wr (Lx hl ha) (by simp)];simp only;congr 1;unfold Xj;cases hb : g.base.l with
      | nil => rfl
      | cons b r =>
        simp only;obtain ⟨v, hv, f, hf, hfw, _, rfl, _⟩ := Je hl ha hgw b (by rw [hb]; simp);rw [List.append_assoc];exact (ih f hf hfw).2 _ n (by omega)
     have e1 : Gb (l ++ [g]) (l ++ [g]).length (Ar g) = Qy g (Xj l g) := by
      have := key [] (l ++ [g]).length (Nat.le_refl _)
      rwa [List.append_nil] at this
     rw [e1];refine ⟨Agt ha.ck hgw ?_, key⟩;unfold Xj;cases hb : g.base.l with
     | nil => simp
     | cons b r =>
       simp only;obtain ⟨v, hv, f, hf, hfw, _, rfl, _⟩ := Je hl ha hgw b (by rw [hb]; simp);exact (ih f hf hfw).1
theorem Aji {l : List Evt} {e : Evt} (h : Val l) (ha : Acc (Ae l) e) (hw : Vg e = true) : Gb (l ++ [e]) (l ++ [e]).length (Ar e) = Qy e (Xj l e) := by
 rw [show (l ++ [e]).length = l.length + 1 from by simp];simp only [Gb];rw [Wr (Lx h ha) (by simp)];simp only;congr 1;unfold Xj;cases hb : e.base.l with
 | nil => rfl
 | cons b r =>
   simp only;obtain ⟨v, hv, f, hf, hfw, _, rfl, _⟩ := Je h ha hw b (by rw [hb]; simp);exact (Ly h f hf hfw).2 _ _ (Nat.le_refl _)
theorem Ze {l : List Evt} {e : Evt} (h : Val l) {g : Evt} (hg : g ∈ l) (hw : Vg g = true) : Iv (l ++ [e]) (l ++ [e]) g = if gvF e (Ap g) (Ar g) = true then Q6 (Iv l l g) e.rep e.seq else Iv l l g := by
 have hb := (Ly h g hg hw).2 [e] (l ++ [e]).length (by simp);unfold Iv;rw [hb, An7];split <;> rfl
theorem Asn {l : List Evt} {e : Evt} (h : Val l) (ha : Acc (Ae l) e) (obj : Bg) {g : Evt} (hg : g ∈ l ++ [e]) : gvF g obj (Ar e) = false := by
 cases hq : gvF g obj (Ar e) with
 | false => rfl
 | true =>
   unfold gvF at hq;simp only [Bool.and_eq_true, decide_eq_true_eq] at hq;rcases List.mem_append.1 hg with hg | hg
   · obtain ⟨a, b, rfl, h1, _, h3⟩ := h.mem hg;obtain ⟨_, _, f, hf, _, _, hi, _⟩ := Je h1 h3 hq.1 _ hq.2.2;exact absurd hi (Ft h ha f (by simp [hf]))
   · rw [List.mem_singleton] at hg; subst hg;obtain ⟨_, _, f, hf, _, _, hi, _⟩ := Je h ha hq.1 _ hq.2.2;exact absurd hi (Ft h ha f hf)
theorem Atz {l : List Evt} {e : Evt} (h : Val l) (ha : Acc (Ae l) e) (obj : Bg) : gvG (l ++ [e]) obj (Ar e) = fun _ => 0 := by
 unfold gvG;have : ∀ m : List Evt, (∀ g ∈ m, gvF g obj (Ar e) = false) → m.foldl (fun a g => if gvF g obj (Ar e) = true then Bq a g.rep g.seq else a) (fun _ => 0 : Vc) = fun _ => 0 := fun m hm => by
  induction m with
  | nil => rfl
  | cons g m ih =>
    rw [List.foldl_cons, if_neg (by rw [hm g List.mem_cons_self]; simp)];exact ih fun f hf => hm f (List.mem_cons_of_mem _ hf)
 exact this _ fun g hg => Asn h ha obj hg
theorem Ez {l : List Evt} (h : NodE l) (obj : Bg) : Cd (Cn l obj l) ∧ (Cn l obj l).length ≤ l.length ∧ ∀ v, v ∈ Cn l obj l ↔ ∃ e ∈ l, (Vg e = true ∧ Ap e = obj) ∧ v = Iv l l e := ⟨(Jh l.length l rfl h).1, (Jh l.length l rfl h).2, fun v => Lw l.length l rfl⟩
theorem Lv {l : List Evt} {e : Evt} (h : Val l) (ha : Acc (Ae l) e) {obj : Bg} (hx : ¬ (Vg e = true ∧ Ap e = obj)) : Cn (l ++ [e]) obj (l ++ [e]) = Cn l obj l := by
 obtain ⟨s1, _, m1⟩ := Ez h.nod obj;obtain ⟨s2, _, m2⟩ := Ez (Lx h ha) obj;refine V0 s2 s1 fun v => ?_;have key : ∀ g ∈ l, Vg g = true ∧ Ap g = obj → Iv (l ++ [e]) (l ++ [e]) g = Iv l l g := fun g hg ⟨hw, ho⟩ => by
  rw [Ze h hg hw, if_neg];unfold gvF;rw [ho];simp only [Bool.and_eq_true, decide_eq_true_eq];exact fun q => hx ⟨q.1, q.2.1⟩
 rw [m1, m2];constructor
 · rintro ⟨g, hg, hc, rfl⟩;rcases List.mem_append.1 hg with hg | hg
   · exact ⟨g, hg, hc, key g hg hc⟩
   · rw [List.mem_singleton] at hg; subst hg; exact absurd hc hx
 · rintro ⟨g, hg, hc, rfl⟩;exact ⟨g, List.mem_append_left _ hg, hc, (key g hg hc).symm⟩
theorem Ajk {l : List Evt} {e : Evt} (h : Val l) (ha : Acc (Ae l) e) (hw : Vg e = true) : Dv (Cn l (Ap e) l) e = Qy e (Xj l e) := by
 have hd : ∀ v ∈ Cn l (Ap e) l, v.data.length ≤ 200 := fun v hv => by
  obtain ⟨g, hg, hc, rfl⟩ := ((Ez h.nod (Ap e)).2.2 v).1 hv;exact (Ly h g hg hc.1).1
 have hk := of_decide_eq_true hw;have hf := Ux ha.ck hk hd;have hwas : (C3 (Cn l (Ap e) l) (Db e).1 (Db e).2).1 = Xj l e := by
  unfold Db Xj;cases hb : e.base.l with
  | nil => simp only; rw [Yz ⟨rfl, rfl⟩]
  | cons b r =>
    simp only;obtain ⟨v, hv, f, hf, hfw, _, rfl, rfl⟩ := Je h ha hw b (by rw [hb]; simp);obtain ⟨a, c, _, _, _, h3⟩ := h.mem hf;have hbp := Cr h3.ck;have hbp1 : 1 ≤ f.rep := hbp.1;rw [Yy (fun q => by have := q.1; simp only at this; omega) hv];rfl
 have hwl : (C3 (Cn l (Ap e) l) (Db e).1 (Db e).2).1.length ≤ 200 := Wv hd _ _;unfold Dv Qy;rw [hwas] at hwl ⊢;by_cases h5 : e.kind = 5
 · rw [if_pos h5, if_pos h5]
 rw [if_neg h5, if_neg h5];obtain ⟨o1, o2⟩ := hf.off h5;by_cases h4 : e.kind = 4
 · rw [if_pos h4, if_pos h4];unfold Azm; rw [if_neg (by omega)]
 · rw [if_neg h4, if_neg h4];have hl := hf.len (by omega);unfold Ac2; rw [if_neg (by unfold Ey; omega)]
theorem Aki {l : List Evt} {e : Evt} (h : Val l) (ha : Acc (Ae l) e) (hw : Vg e = true) : Cn (l ++ [e]) (Ap e) (l ++ [e]) = Fe (Cn l (Ap e) l) e.base.l (Pm e.rep e.seq (Dv (Cn l (Ap e) l) e)) := by
 obtain ⟨s1, _, m1⟩ := Ez h.nod (Ap e);obtain ⟨s2, _, m2⟩ := Ez (Lx h ha) (Ap e);have hnew : Co (Cn l (Ap e) l) e.rep e.seq = none := Ni.2 fun v hv ⟨h1, h2⟩ => by
  obtain ⟨g, hg, _, rfl⟩ := (m1 v).1 hv;exact Ft h ha g hg (Prod.ext h1 h2)
 have hE : Iv (l ++ [e]) (l ++ [e]) e = Pm e.rep e.seq (Dv (Cn l (Ap e) l) e) := by
  unfold Iv Pm;rw [Aji h ha hw, Atz h ha, Ajk h ha hw]
 refine V0 s2 (Abt s1 hnew) fun v => ?_;rw [m2, Am5, ← hE];have key : ∀ g ∈ l, Vg g = true ∧ Ap g = Ap e → Iv (l ++ [e]) (l ++ [e]) g = Mt e.base.l e.rep e.seq (Iv l l g) := fun g hg ⟨hgw, ho⟩ => by
  rw [Ze h hg hgw];unfold Mt;have : gvF e (Ap g) (Ar g) = decide (((Iv l l g).rep, (Iv l l g).seq) ∈ e.base.l) := by
   unfold gvF;rw [hw, ho];simp; rfl
  rw [this];by_cases hin : ((Iv l l g).rep, (Iv l l g).seq) ∈ e.base.l
  · rw [if_pos (decide_eq_true hin), if_pos hin]
  · rw [if_neg (by simpa using hin), if_neg hin]
 constructor
 · rintro ⟨g, hg, hc, rfl⟩;rcases List.mem_append.1 hg with hg | hg
   · exact .inr ⟨Iv l l g, (m1 _).2 ⟨g, hg, hc, rfl⟩, key g hg hc⟩
   · rw [List.mem_singleton] at hg; subst hg; exact .inl rfl
 · rintro (rfl | ⟨y, hy, rfl⟩)
   · exact ⟨e, by simp, ⟨hw, rfl⟩, rfl⟩
   · obtain ⟨g, hg, hc, rfl⟩ := (m1 y).1 hy;exact ⟨g, List.mem_append_left _ hg, hc, (key g hg hc).symm⟩
theorem Ace (e f : Evt) (o : Obj) (v : List Ver) : Iz e { o with vers := v } f = { Iz e o f with vers := v } := by
 unfold Iz;by_cases h1 : Ap f = Ar e
 · rw [if_pos h1, if_pos h1];by_cases h7 : f.kind = 7
   · rw [if_pos h7, if_pos h7];by_cases hl : C8 o.last.1 o.last.2 f.rep f.seq = true
     · rw [if_pos hl, if_pos hl]
     · rw [if_neg hl, if_neg hl]
   · rw [if_neg h7, if_neg h7];by_cases h6 : f.kind = 6
     · rw [if_pos h6, if_pos h6]
     · rw [if_neg h6, if_neg h6]
 · rw [if_neg h1, if_neg h1]
theorem Asi (l L : List Evt) (e : Evt) : ∀ m : List Evt, Dl L m e = { Dl l m e with vers := Cn L (Ar e) L } :=
 Tb rfl fun m f ih => by
  rw [L5, L5, ih, Ace]
theorem Aml (l : List Evt) (e f : Evt) : Dl (l ++ [e]) (l ++ [e]) f = { Iz f (Dl l l f) e with vers := Cn (l ++ [e]) (Ar f) (l ++ [e]) } := by
 rw [Asi l, L5]
theorem Aah {l : List Evt} {e : Evt} (h : Val l) (ha : Acc (Ae l) e) : Dl (l ++ [e]) (l ++ [e]) e = Tw e := by
 have hv : Cn (l ++ [e]) (Ar e) (l ++ [e]) = [] := by
  refine List.eq_nil_iff_forall_not_mem.2 fun v hv => ?_;obtain ⟨g, hg, hc, _⟩ := ((Ez (Lx h ha) (Ar e)).2.2 v).1 hv;exact Amt h ha hg hc.2
 unfold Dl Tw;rw [hv];have : ∀ (m : List Evt) (o : Obj), (∀ g ∈ m, Ap g ≠ Ar e) → m.foldl (Iz e) o = o := fun m => by
  induction m with
  | nil => intro o _; rfl
  | cons g m ih =>
    intro o hm;rw [List.foldl_cons, show Iz e o g = o from if_neg (hm g List.mem_cons_self)];exact ih o fun f hf => hm f (List.mem_cons_of_mem _ hf)
 exact this _ _ fun g hg => Amt h ha hg
def GO (e : Evt) (x : Obj) : Obj :=
 if e.kind = 7 then Tx e x
 else if e.kind = 6 then { x with seen := Fz x.seen (Bq e.dep e.rep e.seq) }
 else { x with vers := Fe x.vers e.base.l (Pm e.rep e.seq (Dv x.vers e)) }
theorem Am0 (e : Evt) (x : Obj) : (Tx e x).id = x.id := by unfold Tx; split <;> rfl
theorem A5l (e : Evt) (x : Obj) : (GO e x).id = x.id := by
 unfold GO;split
 · exact Am0 e x
 · split <;> rfl
theorem Alk {l : List Obj} (hs : D1 l) {i : Bg} {o : Obj} (h : G7 l i = some o) (g : Obj → Obj) : l.set (Ct l i) (g o) = l.map fun x => if x.id = i then g x else x := by
 obtain ⟨h1, h2⟩ := Ho h;apply List.ext_getElem?;intro j;rw [List.getElem?_map];by_cases hj : Ct l i = j
 · subst hj;rw [List.getElem?_set_self (List.getElem?_eq_some_iff.1 h1).1, h1];simp only [Option.map_some];rw [if_pos h2]
 · rw [List.getElem?_set_ne hj];cases hy : l[j]? with
   | none => rfl
   | some y =>
     simp only [Option.map_some];rw [if_neg];intro q;rcases Nat.lt_or_gt_of_ne hj with k | k
     · have := L0 hs h1 hy k; rw [h2, q] at this; exact Fj this
     · have := L0 hs hy h1 k; rw [h2, q] at this; exact Fj this
theorem Auj {s : St} (hs : D1 s.objs) {e : Evt} (hk : e.kind = 3 ∨ e.kind = 4 ∨ e.kind = 5 ∨ e.kind = 6 ∨ e.kind = 7) {o : Obj} (h : G7 s.objs (Ap e) = some o) : (Za s e).objs = s.objs.map fun x => if x.id = Ap e then GO e x else x := by
 unfold Za;rw [if_neg (by omega), if_neg (by omega), if_neg (by omega), h, ← Alk hs h (GO e)];simp only;unfold GO;by_cases h7 : e.kind = 7
 · rw [if_pos h7, if_pos h7]; rfl
 rw [if_neg h7, if_neg h7];by_cases h6 : e.kind = 6
 · rw [if_pos h6, if_pos h6]; rfl
 · rw [if_neg h6, if_neg h6]; rfl
theorem Ag0 {l : List Obj} (hs : D1 l) {g : Obj → Obj} (hg : ∀ x, (g x).id = x.id) : D1 (l.map g) := by
 rw [Ta] at *;rw [List.pairwise_map];exact hs.imp fun {a b} h => by rw [hg, hg]; exact h
theorem Axd {l : List Evt} (h : Val l) {f : Evt} (hf : f ∈ l) : Ar f ≠ (0, 0) := fun q => by
 obtain ⟨a, b, _, _, _, h3⟩ := h.mem hf;have h1 : 1 ≤ f.rep := (Cr h3.ck).1;have h2 : f.rep = 0 := congrArg Prod.fst q;omega
theorem Afr {l : List Evt} {e : Evt} (h : Val l) (ha : Acc (Ae l) e) {f : Evt} (hf : f ∈ l) :
 Dl (l ++ [e]) (l ++ [e]) f = if (e.kind = 3 ∨ e.kind = 4 ∨ e.kind = 5 ∨ e.kind = 6 ∨ e.kind = 7) ∧ Ar f = Ap e then GO e (Dl l l f) else Dl l l f := by
 rw [Aml];have hov := P6 l f l;by_cases hk : e.kind = 3 ∨ e.kind = 4 ∨ e.kind = 5 ∨ e.kind = 6 ∨ e.kind = 7;rotate_left
 · rw [if_neg fun q => hk q.1];have hw : Vg e = false := decide_eq_false (by omega);rw [Lv h ha (fun q => by rw [hw] at q; simp at q), ← hov];have h0 := Uw ha.ck hk;have : Iz f (Dl l l f) e = Dl l l f := if_neg (by rw [h0]; exact fun q => Axd h hf q.symm);rw [this]
 by_cases hi : Ar f = Ap e;rotate_left
 · rw [if_neg fun q => hi q.2, Lv h ha (fun q => hi q.2.symm), ← hov];have : Iz f (Dl l l f) e = Dl l l f := if_neg fun q => hi q.symm;rw [this]
 rw [if_pos ⟨hk, hi⟩];unfold Iz GO;rw [if_pos hi.symm];by_cases h7 : e.kind = 7
 · have hw : Vg e = false := decide_eq_false (by omega);rw [if_pos h7, if_pos h7, Lv h ha (fun q => by rw [hw] at q; simp at q), ← hov];unfold Tx;split <;> rfl
 rw [if_neg h7, if_neg h7];by_cases h6 : e.kind = 6
 · have hw : Vg e = false := decide_eq_false (by omega);rw [if_pos h6, if_pos h6, Lv h ha (fun q => by rw [hw] at q; simp at q), ← hov]
 · rw [if_neg h6, if_neg h6];have hw : Vg e = true := decide_eq_true (by omega);rw [hi, Aki h ha hw, hov, hi]
theorem Aho {l : List Evt} {e : Evt} (h : Val l) (ha : Acc (Ae l) e) : (Ae (l ++ [e])).objs = (Fp (Ae l) e).objs := by
 obtain ⟨s1, _, m1⟩ := Oe h.nod;obtain ⟨s2, _, m2⟩ := Oe (Lx h ha);have hkn : (Fi (Ae l) e).objs = (Ae l).objs := rfl;by_cases hk : e.kind = 3 ∨ e.kind = 4 ∨ e.kind = 5 ∨ e.kind = 6 ∨ e.kind = 7
 · obtain ⟨f0, hf0, _, _, ho, _⟩ := Pd h ha hk;have hd := Auj (s := Fi (Ae l) e) s1 hk ho;unfold Fp;rw [hd];refine Ps s2 (Ag0 s1 fun x => by split; exact A5l e x; rfl) fun x => ?_;rw [m2, List.mem_map];have key : ∀ f ∈ l, Dl (l ++ [e]) (l ++ [e]) f = if (Dl l l f).id = Ap e then GO e (Dl l l f) else Dl l l f := fun f hf => by
    rw [Afr h ha hf, Od];by_cases hi : Ar f = Ap e
    · rw [if_pos ⟨hk, hi⟩, if_pos hi]
    · rw [if_neg fun q => hi q.2, if_neg hi]
   constructor
   · rintro ⟨f, hf, hc, rfl⟩;rcases List.mem_append.1 hf with hf | hf
     · exact ⟨Dl l l f, (m1 _).2 ⟨f, hf, hc, rfl⟩, (key f hf).symm⟩
     · rw [List.mem_singleton] at hf; subst hf; omega
   · rintro ⟨y, hy, rfl⟩;obtain ⟨f, hf, hc, rfl⟩ := (m1 y).1 hy;exact ⟨f, List.mem_append_left _ hf, hc, (key f hf).symm⟩
 have key : ∀ f ∈ l, Dl (l ++ [e]) (l ++ [e]) f = Dl l l f := fun f hf => by
  rw [Afr h ha hf, if_neg fun q => hk q.1]
 have hb := Cr ha.ck;obtain ⟨_, _, _, _, _, b6, b7⟩ := hb;by_cases h12 : e.kind = 1 ∨ e.kind = 2
 · have hd : (Fp (Ae l) e).objs = Vq (Ae l).objs (Tw e) := by
    unfold Fp Za;rw [if_neg (by omega), if_neg (by omega), if_pos h12]; rfl
   rw [hd];have hne : ∀ x ∈ (Ae l).objs, x.id ≠ (Tw e).id := fun x hx q => by
    obtain ⟨f, hf, hc, rfl⟩ := (m1 x).1 hx;rw [Od] at q;exact Ft h ha f hf q
   refine Ps s2 (V1 s1 hne) fun x => ?_;rw [m2, Aak];constructor
   · rintro ⟨f, hf, hc, rfl⟩;rcases List.mem_append.1 hf with hf | hf
     · exact .inr ((m1 _).2 ⟨f, hf, hc, key f hf⟩)
     · rw [List.mem_singleton] at hf; subst hf; exact .inl (Aah h ha)
   · rintro (rfl | hx)
     · exact ⟨e, by simp, h12, (Aah h ha).symm⟩
     · obtain ⟨f, hf, hc, rfl⟩ := (m1 x).1 hx;exact ⟨f, List.mem_append_left _ hf, hc, (key f hf).symm⟩
 · have hd : (Fp (Ae l) e).objs = (Ae l).objs := by
    unfold Fp Za;by_cases h8 : e.kind = 8
    · rw [if_pos h8]; rfl
    · rw [if_neg h8, if_pos (by omega)]; rfl
   rw [hd];refine Ps s2 s1 fun x => ?_;rw [m2, m1];constructor
   · rintro ⟨f, hf, hc, rfl⟩;rcases List.mem_append.1 hf with hf | hf
     · exact ⟨f, hf, hc, key f hf⟩
     · rw [List.mem_singleton] at hf; subst hf; exact absurd hc h12
   · rintro ⟨f, hf, hc, rfl⟩;exact ⟨f, List.mem_append_left _ hf, hc, (key f hf).symm⟩
end Go.Proofs.Ythmjebkldgdeiaa.Fw
namespace Go.Proofs.Ythmjebkldgdeiaa.Fw
open Go.RowKit Go.Proofs
theorem St.eq {a b : St} (h1 : a.known = b.known) (h2 : a.objs = b.objs) (h3 : a.ents = b.ents) (h4 : a.wards = b.wards) (h5 : a.ret = b.ret) : a = b := by
 cases a; cases b; simp only at h1 h2 h3 h4 h5; subst h1 h2 h3 h4 h5; rfl
theorem A4k (l l' : List Evt) : ∀ m : List Evt, (Ge l m).1.wards = (Ge l' m).1.wards ∧ (Ge l m).1.ret = (Ge l' m).1.ret ∧ (Ge l m).2 = (Ge l' m).2 :=
 Tb ⟨rfl, rfl, rfl⟩ fun m e ⟨h1, h2, h3⟩ => by
  rw [Jd, Jd];unfold Kp;by_cases k12 : e.kind = 1 ∨ e.kind = 2
  · rw [if_pos k12, if_pos k12]; exact ⟨h1, h2, h3⟩
  rw [if_neg k12, if_neg k12];by_cases k8 : e.kind = 8
  · rw [if_pos k8, if_pos k8, h3];split
    · exact ⟨by simp only [Kx, h1], h2, by simp only [h3]⟩
    · exact ⟨h1, h2, h3⟩
  rw [if_neg k8, if_neg k8];by_cases k9 : e.kind = 9
  · rw [if_pos k9, if_pos k9]; exact ⟨h1, by simp only [Vm, h2], h3⟩
  rw [if_neg k9, if_neg k9]; exact ⟨h1, h2, h3⟩
theorem Agj {a b : Vc} {r : Int} {q : Nat} {i : Nat} (h : ∀ i, a i ≤ b i) : Bq a r q i ≤ Bq b r q i := by
 by_cases hr : 1 ≤ r ∧ r ≤ 8
 · rw [Nu hr, Nu hr]; have := h i; split <;> omega
 · unfold Bq; rw [if_neg hr, if_neg hr]; exact h i
theorem Ah4 (L : List Evt) : ∀ (m : List Evt) (i : Nat), (Ge L m).2 i ≤ C2 m i :=
 Tb (fun i => Nat.le_refl _) fun m e ih i => by
  rw [Jd, K9];unfold Kp;split
  · exact Nat.le_trans (ih i) (Xi i)
  · split
    · split
      · exact Agj ih
      · exact Nat.le_trans (ih i) (Xi i)
    · split <;> exact Nat.le_trans (ih i) (Xi i)
theorem Apb (s : St) (e : Evt) : (Za s e).known = s.known := by
 unfold Za;split
 · rfl
 · split
   · rfl
   · split
     · rfl
     · split
       · rfl
       · split
         · rfl
         · split <;> rfl
theorem Uz {l : List Evt} {e : Evt} (h : Val l) (ha : Acc (Ae l) e) : Ae (l ++ [e]) = Fp (Ae l) e := by
 obtain ⟨n1, n2, n3⟩ := Abu ha;obtain ⟨_, _, _, _, _, b6, b7⟩ := Cr ha.ck;rw [Dg] at n3;have hb : Ae (l ++ [e]) = (Kp (l ++ [e]) (Ge (l ++ [e]) l) e).1 := by
  show (Ge (l ++ [e]) (l ++ [e])).1 = _;rw [Jd]
 obtain ⟨w1, w2, w3⟩ := A4k (l ++ [e]) l l;have hen := Ai0 h ha;rw [← Mg (l ++ [e]), ← Mg l] at hen;refine St.eq ?_ (Aho h ha) ?_ ?_ ?_
 · rw [Dg, K9];unfold Fp; rw [Apb];show _ = Bq (Ae l).known e.rep e.seq;rw [Dg]
 · rw [hen];unfold Fp Za;by_cases h8 : e.kind = 8
   · rw [if_pos h8, if_neg (by omega), if_neg (by omega), if_neg (by omega)]; rfl
   rw [if_neg h8];by_cases h9 : e.kind = 9
   · rw [if_pos h9, if_neg (by omega), if_neg (by omega), if_neg (by omega)]; rfl
   rw [if_neg h9];by_cases h12 : e.kind = 1 ∨ e.kind = 2
   · rw [if_pos h12, if_pos h12]; rfl
   rw [if_neg h12, if_neg h12];obtain ⟨f0, hf0, _, _, ho, _⟩ := Pd h ha (by omega);rw [show G7 (Fi (Ae l) e).objs (Ap e) = some (Dl l l f0) from ho];simp only;by_cases h7 : e.kind = 7
   · rw [if_pos h7, if_pos h7]; rfl
   rw [if_neg h7, if_neg h7];by_cases h6 : e.kind = 6
   · rw [if_pos h6, if_pos h6]; rfl
   · rw [if_neg h6, if_neg h6]; rfl
 · rw [hb];unfold Fp Za Kp;by_cases h8 : e.kind = 8
   · have hlt : Ng (Ge (l ++ [e]) l).2 e.rep < e.seq := by
      unfold Ng; rw [if_pos ⟨n1, n2⟩, w3];have := Ah4 l l (e.rep - 1).toNat;omega
     rw [if_pos h8, if_neg (by omega), if_pos h8, if_pos hlt];simp only [Kx, w1]; rfl
   rw [if_neg h8, if_neg h8];by_cases h9 : e.kind = 9
   · rw [if_pos h9, if_neg (by omega), if_pos h9];simp only [Vm, w1]; rfl
   rw [if_neg h9, if_neg h9];by_cases h12 : e.kind = 1 ∨ e.kind = 2
   · rw [if_pos h12, if_pos h12]; simp only [w1]; rfl
   rw [if_neg h12, if_neg h12];obtain ⟨f0, hf0, _, _, ho, _⟩ := Pd h ha (by omega);rw [show G7 (Fi (Ae l) e).objs (Ap e) = some (Dl l l f0) from ho];simp only;rw [w1];split
   · rfl
   · split <;> rfl
 · rw [hb];unfold Fp Za Kp;by_cases h8 : e.kind = 8
   · rw [if_pos h8, if_neg (by omega), if_pos h8];split
     · simp only [Kx, w2]; rfl
     · simp only [Kx, w2]; rfl
   rw [if_neg h8, if_neg h8];by_cases h9 : e.kind = 9
   · rw [if_pos h9, if_neg (by omega), if_pos h9];simp only [Vm, w2]; rfl
   rw [if_neg h9, if_neg h9];by_cases h12 : e.kind = 1 ∨ e.kind = 2
   · rw [if_pos h12, if_pos h12]; simp only [w2]; rfl
   rw [if_neg h12, if_neg h12];obtain ⟨f0, hf0, _, _, ho, _⟩ := Pd h ha (by omega);rw [show G7 (Fi (Ae l) e).objs (Ap e) = some (Dl l l f0) from ho];simp only;rw [w2];split
   · rfl
   · split <;> rfl
theorem Po {l : List Evt} (h : Val l) (hn : l.length ≤ 400) : StIn (Ae l) := by
 obtain ⟨s1, l1, m1⟩ := Oe h.nod;have hv : ∀ o ∈ (Ae l).objs, ∃ f ∈ l, o.vers = Cn l (Ar f) l := fun o ho => by
  obtain ⟨f, hf, _, rfl⟩ := (m1 o).1 ho;exact ⟨f, hf, P6 l f l⟩
 have hs := (P7 (l := l) l h.nod).1;refine ⟨⟨⟨by omega, fun o ho => ?_, ?_⟩, s1, ?_⟩, fun o ho => ?_, fun o ho v hq => ?_, fun o ho v hq => ?_⟩
 · obtain ⟨f, hf, e⟩ := hv o ho;rw [e]; have := (Ez h.nod (Ar f)).2.1; omega
 · rw [Mg]; have := Wt l l.length l rfl; omega
 · rw [Mg]; exact hs
 · obtain ⟨f, hf, e⟩ := hv o ho;rw [e]; exact (Ez h.nod (Ar f)).1
 · obtain ⟨f, hf, e⟩ := hv o ho;rw [e] at hq;obtain ⟨g, hg, hc, rfl⟩ := ((Ez h.nod (Ar f)).2.2 v).1 hq;exact (Ly h g hg hc.1).1
 · obtain ⟨f, hf, e⟩ := hv o ho;rw [e] at hq;obtain ⟨g, hg, hc, rfl⟩ := ((Ez h.nod (Ar f)).2.2 v).1 hq;rw [Dg];exact h.has.2 ⟨g, hg, rfl⟩
open Classical in
noncomputable def Rl (out : List Evt) (e : Evt) : List Evt := if Fu (Ae out) e = 0 then out ++ [e] else out
noncomputable def Hw (l : List Evt) : List Evt := l.foldl Rl []
theorem S0 (l : List Evt) (e : Evt) : Hw (l ++ [e]) = Rl (Hw l) e := by simp [Hw]
theorem Zm : ∀ l : List Evt, (∀ e ∈ l, ev e) → Val (Hw l) ∧ (Hw l).length ≤ l.length ∧ ∀ e ∈ Hw l, e ∈ l :=
 Tb (fun _ => ⟨Val.nil, Nat.le_refl _, fun e he => by cases he⟩) fun l e ih hl => by
  obtain ⟨h1, h2, h3⟩ := ih fun f hf => hl f (List.mem_append_left _ hf);rw [S0];unfold Rl;split
  · rename_i hw;refine ⟨Val.snoc h1 (hl e (by simp)) hw, by simp only [List.length_append, List.length_singleton]; omega, fun f hf => ?_⟩;rcases List.mem_append.1 hf with hf | hf
    · exact List.mem_append_left _ (h3 f hf)
    · exact List.mem_append_right _ hf
  · exact ⟨h1, by simp only [List.length_append, List.length_singleton]; omega, fun f hf => List.mem_append_left _ (h3 f hf)⟩
theorem Aos (x : Ent) : C5 [K1.int .i64, K1.int .u32, K1.int .i64, K1.int .u32, .str, K1.int .i64, K1.int .u32, .int .u32, .int .u32, .int .u32, .int .u32, .int .u32, .int .u32, .int .u32, .int .u32] (Bb x) = True := eq_true rfl
theorem Fh (c : List PV) : Rz c c = true := by simp [Rz]
def S5 (f g : Bool) (l m : List Ent) (k : Nat) : FS := mk [(5, .pv (.i .i64 k)), (0, .pv (.sl f 15 (l.map Bb))), (1, .pv (.sl g 15 (m.map Bb)))] []
theorem Al4 {x y : SV} {f g : Bool} {l m : List Ent} {h d} (hx : Cl h [x, y] = [.pv (.sl f 15 (l.map Bb)), .pv (.sl g 15 (m.map Bb))]) (hl : Ba [x, y] = true) (he : l = m) (hn : l.length ≤ 1000) :
 FunOk Try.prog 37 [x, y] h d (.pv (.b true)) [] := by
 refine Cp Am fn37 (by simp) hl rfl fun F => ?_;subst he;rw [hx];simp (disch := omega) only [ir37, List.length_map, go_sem];refine Bd Am (S5 f g l l) (fun k => k ≤ l.length) (fun k => l.length - k) 0 (by simp) (A2 ?_ ?_) fun k hk => ?_
 · simp (disch := omega) only [go_sem]
 · simp (disch := omega) only [go_sem]
 by_cases hlt : k < l.length
 · have h2 : (l.map Bb)[k]? = some (Bb l[k]) := by simp [hlt]
   generalize l[k] = v at *;have hp := Fh (Bb v);have hf := Aos v;simp (disch := omega) only [S5, List.length_map, h2, K8, hp, hf, go_sem];refine Au (k + 1) _ _ rfl (by omega) (by omega) ?_ ?_
   · simp (disch := omega) only [go_sem]
   · simp (disch := omega) only [go_sem]
 · simp (disch := omega) only [S5, List.length_map, go_sem]
theorem Uj (v : Vc) : C5 [K1.int .u32, .int .u32, .int .u32, .int .u32, .int .u32, .int .u32, .int .u32, .int .u32] (vE v) = True := eq_true rfl
theorem Ay8 (v : Nat → Int) : C5 [K1.int .i64, .int .i64, .int .i64, .int .i64, .int .i64, .int .i64, .int .i64, .int .i64] (iE v) = True := eq_true rfl
theorem Ay7 (v : Nat → Bool) : C5 [K1.bool, .bool, .bool, .bool, .bool, .bool, .bool, .bool] (wE v) = True := eq_true rfl
theorem At9 (i : Bg) : C5 [K1.int .i64, .int .u32] [.i .i64 i.1, .i .u32 i.2] = True := eq_true rfl
def Acf (s : St) (k : Nat) : FS := mk [(5, .pv (.i .i64 k)), (2, .p 2 0), (3, .p 3 0)] [(2, some (.var (.agg (A8 s)))), (3, some (.var (.agg (A8 s))))]
set_option maxHeartbeats 2000000 in
theorem Al5 {s : St} (hs : Fine s) {h d} : FunOk Try.prog 18 [.agg (A8 s), .agg (A8 s)] h d (.pv (.b true)) [] := by
 refine A5 Am fn18 (by simp) rfl rfl fun F => ?_;have p1 := Fh (vE s.known);have p2 := Fh (iE s.wards);have p3 := Fh (wE s.ret);have f1 := Uj s.known;have f2 := Ay8 s.wards;have f3 := Ay7 s.ret;simp (disch := omega) only [ir18, A8, Ax, p1, p2, p3, f1, f2, f3, go_sem];refine Aa (Al4 (l := s.ents) rfl rfl rfl (Nat.le_trans hs.en (by omega))) ?_;simp (disch := omega) only [List.length_map, go_sem];refine Bd Am (Acf s) (fun k => k ≤ s.objs.length) (fun k => s.objs.length - k) 0 (by simp) (A2 ?_ ?_) fun k hk => ?_
 · simp (disch := omega) only [go_sem]
 · simp (disch := omega) only [A8, Ax, go_sem]
 by_cases hlt : k < s.objs.length
 · have h2 : (s.objs.map Av)[k]? = some (Av s.objs[k]) := by simp [hlt]
   have hvk := hs.ov _ (List.getElem_mem hlt);have hon := hs.on;generalize s.objs[k] = o at *;have hol := Oc o;have q1 := Fh [.i .i64 o.id.1, .i .u32 o.id.2];have q2 := Fh [.i .i64 o.last.1, .i .u32 o.last.2];have q3 := Fh (vE o.seen);have q4 := Uj o.seen;simp (disch := omega) only [Acf, A8, Ax, List.length_map, go_sem];refine U7 ?_;simp (disch := omega) only [h2, List.length_map, Jy, hol, T7, F7, T6, Adn, T5, Dm, At9, q1, q2, q3, q4, go_sem];refine Aa (Axr (l := o.vers) (m := o.vers) rfl rfl rfl (by omega)) ?_;simp (disch := omega) only [go_sem];refine Au (k + 1) _ _ rfl (by omega) (by omega) ?_ ?_
   · simp (disch := omega) only [go_sem]
   · simp (disch := omega) only [A8, Ax, go_sem]
 · obtain rfl : k = s.objs.length := by omega
   simp (disch := omega) only [Acf, A8, Ax, List.length_map, go_sem]
structure EvIn (e : Evt) : Prop where
 ev : ev e
 dep : ∀ i, i < 8 → e.dep i < 4294967296
def Avi (e : Evt) : Prop := e.name.length ≤ 30 ∧ e.data.length ≤ 250 ∧ e.gone.l.length ≤ 10 ∧ e.base.l.length ≤ 10
theorem Nv (s : St) : Aw (A8 s) = [] := by simp [A8, Ax, Aw, tn]
abbrev V2 : Sh := .st [Zs, .arr 8 (.int .u32), .int .i64, Zs, Zs, .str, .sl Zs, .sl Zs, .int .i64, .str, .int .i64]
theorem Avh {cs : List PV} (h : GC V2 cs) : ∃ e : Evt, cs = Bp e ∧ (∀ i, i < 8 → e.dep i < 4294967296) ∧ e.gone = ⟨false, 2, e.gone.l⟩ ∧ e.base = ⟨false, 2, e.base.l⟩ := by
 simp only [GC] at h;simp only [GCL] at h;obtain ⟨c0, r0, rfl, g0, c1, r1, rfl, g1, c2, r2, rfl, ⟨n2, rfl, w2⟩, c3, r3, rfl, g3, c4, r4, rfl, g4, c5, r5, rfl, ⟨s5, rfl, w5⟩, c6, r6, rfl, g6, c7, r7, rfl, g7, c8, r8, rfl, ⟨n8, rfl, w8⟩, c9, r9, rfl, ⟨s9, rfl, w9⟩, c10, r10, rfl, ⟨n10, rfl, w10⟩, rfl⟩ := h;obtain ⟨b0, rfl, hb0⟩ := Aby (by simp only [GC]; exact g0);obtain ⟨a, rfl, ha⟩ := A5m (by simp only [GC]; exact g1);obtain ⟨b3, rfl, hb3⟩ := Aby (by simp only [GC]; exact g3);obtain ⟨b4, rfl, hb4⟩ := Aby (by simp only [GC]; exact g4);obtain ⟨e6, rfl, l6, g6⟩ := Aqr (s := Zs) (by simp only [GC]; exact g6);obtain ⟨e7, rfl, l7, g7⟩ := Aqr (s := Zs) (by simp only [GC]; exact g7);obtain ⟨m6, rfl, _⟩ := Yx (f := Ev) Aby g6;obtain ⟨m7, rfl, _⟩ := Yx (f := Ev) Aby g7;exact ⟨⟨b0.1, b0.2, a, n2, b3.1, b3.2, b4.1, b4.2, s5, ⟨false, 2, m6⟩, ⟨false, 2, m7⟩, n8, s9, n10⟩, by simp [Bp, Ev, SlI.pv]; rfl, ha, rfl, rfl⟩
structure EvRaw (e : Evt) : Prop where
 dep : ∀ i, i < 8 → e.dep i < 4294967296
 gone : e.gone.ok
 base : e.base.ok
theorem Alu {e : Evt} (h : EvRaw e) (k : Avi e) : EvIn e := by
 obtain ⟨k1, k2, k3, k4⟩ := k;exact ⟨⟨h.gone, h.base, by omega, by omega, by omega⟩, h.dep⟩
structure GrewO (x y : Obj) : Prop where
 id : y.id = x.id
 dir : y.dir = x.dir
 seen : vLe x.seen y.seen
 len : x.vers.length ≤ y.vers.length
theorem GrewO.trans {x y z : Obj} (h : GrewO x y) (k : GrewO y z) : GrewO x z := ⟨k.id.trans h.id, k.dir.trans h.dir, fun i hi => Nat.le_trans (h.seen i hi) (k.seen i hi), Nat.le_trans h.len k.len⟩
structure Wd where
 w : Nat → Int
 v : Vc
 r : Nat → Bool
end Go.Proofs.Ythmjebkldgdeiaa.Fw
namespace Go.Proofs.Ythmjebkldgdeiaa.Fw
open Go.RowKit Go.Proofs
variable {P : Program}
theorem Aol (hm : P.follows .mixedOrders = true) {f N' : Nat} {rs : List Rv} {c : C} (hf : A7 P f = some (N', rs, c)) {args : List SV} {h : Nat → Option Blk} {d : Nat} {x : SV} (hlen : args.length ≤ N')
 (hargs : SV.closedL args = true) (hx : x.closed = true) (hrun : ∀ F, sx (Rt P F N') c (Y8 rs fun y g => ∃ n, y = .p n 0 ∧ g.h n = some (.var x)) (mk (Ca 0 args) [])) :
 FunOk P f args h d (.p d 0) [.new d (.var x)] := by
 obtain ⟨h1, h2, h3⟩ := Bl hargs;refine ⟨Bs hf, fun F N ρ s a w hR hh vs hc => ?_⟩;refine Calls.mono (Cs hm hf (h := h) hlen h2 M5 (by rw [h3]; exact hrun) hR hh hc) fun e w' he => ?_;obtain ⟨v, rfl, hg, N'', ρ', s', a', y, hR', hy, n, rfl, hn⟩ := he;rw [h1, Ck] at hR' hy;simp only [Conc] at hy;obtain ⟨b0, hy1, hy2⟩ := hy;obtain ⟨b, vs', ty, fr, u, g1, g2, g3, g4, g5, g6, g7⟩ := hR'.own n _ hn;have hown : ∀ b, Bm (ρ' n) = some b → w.heap.size ≤ b ∧ b < w'.heap.size := fun b hb => by
  have ho : Bo ρ' s'.h b := ⟨n, _, hn, hb⟩
  exact ⟨(hR'.may b ho).resolve_right id, hR'.lt ho⟩
 have hle : (vw ⟨w, fun _ => False, F.out ρ s.h, fun _ => undef, []⟩ w' ρ' s').le (Ai w' (F.out (upd ρ d (ρ' n)) ((s.kill d).seth d (some (.var x))).h)) := A4 fun b' c' hno hc' => ⟨fun hb' => hno (by
  rcases hb' with ⟨m, z, hm1, hm2⟩ | hb'
  · simp only [FS.seth, FS.kill] at hm1;by_cases hmd : m = d
    · subst hmd;rw [Al] at hm2;exact .inl ⟨n, _, hn, hm2⟩
    · rw [A6 hmd] at hm2;simp only [hmd, if_false] at hm1;obtain ⟨z', hz', _⟩ := Option.map_eq_some_iff.1 hm1;exact .inr (.inl ⟨m, z', hz', hm2⟩)
  · exact .inr (.inr hb')), hc'⟩
 have hnew := hR.adopt hg d (.var x) (ρ' n) hown fun hV => ⟨b, vs', ty, fr, u, by rw [Al]; exact g1, g2, g3, Bf hle hx g4, g5, g6, g7⟩
 refine ⟨v, _, rfl, hnew.1, ?_⟩;simp only [Conc];exact ⟨b0, by rw [Al]; exact hy1, hy2⟩
end Go.Proofs.Ythmjebkldgdeiaa.Fw
namespace Go.Proofs.Ythmjebkldgdeiaa.Fw
open Go.RowKit Go.Proofs
theorem V8 {f : Bool} {z : Nat} {es : List (List PV)} {h d} (hz : es = [] ∨ z = 2) (hb : es.length ≤ 1000) : FunOk Try.prog 51 [.pv (.sl f z es)] h d (.pv (.sl false 2 es)) [] := by
 refine Ui Am fn51 (by simp) rfl fun F => ?_;simp (disch := omega) only [ir51, go_sem];intro b hb';cases b
 · simp (disch := omega) only [go_sem]
 · have he : es = [] := by
    cases es with
    | nil => rfl
    | cons c l => exact absurd (hb' (by simp)) (by simp)
   subst he
   (try simp only [D9, D8, D7, D6, D5, D4, D3, D2]); simp (disch := omega) only [go_sem]
   decide
theorem Aaf {f : Bool} {z : Nat} {es : List (List PV)} (hz : es = [] ∨ z = 21) {h d} : FunOk Try.prog 30 [.pv (.sl f z es)] h d (.pv (.sl true z es)) [] := by
 refine A5 Am fn30 (by simp) rfl rfl fun F => ?_;have e := List.take_length (l := es);simp (disch := omega) only [ir30, hz, e, List.drop_zero, go_sem]
def Gv (e : Evt) : Evt := { e with gone := ⟨false, 2, e.gone.l⟩, base := ⟨false, 2, e.base.l⟩ }
theorem Aus {e : Evt} (h : ev e) : ev (Gv e) := ⟨.inr rfl, .inr rfl, h.2.2.1, h.2.2.2.1, h.2.2.2.2⟩
theorem Ak4 (e : Evt) (g : SlI) : splice (Bp e) 16 [g.pv] = Bp { e with gone := g } := by
 simp only [splice, Bp, vE, Cb]; rfl
theorem Ak6 (e : Evt) (g : SlI) : splice (Bp e) 17 [g.pv] = Bp { e with base := g } := by
 simp only [splice, Bp, vE, Cb]; rfl
theorem P3 (e : Evt) (he : ev e) {h d} : FunOk Try.prog 31 [.vec 21 (Bp e)] h d (.vec 21 (Bp (Gv e))) [] := by
 refine A5 Am fn31 (by simp) rfl rfl fun F => ?_;obtain ⟨h1, h2, h3, h4, h5⟩ := he;have hg : e.gone.pv = .sl e.gone.f e.gone.z (e.gone.l.map Ev) := rfl;have hb : e.base.pv = .sl e.base.f e.base.z (e.base.l.map Ev) := rfl;have hel := Be e;have s1 := Ak4 e ⟨false, 2, e.gone.l⟩;have s2 := Ak6 { e with gone := ⟨false, 2, e.gone.l⟩ } ⟨false, 2, e.base.l⟩;simp only [SlI.pv] at s1 s2;simp (disch := omega) only [ir31, H9, Gh, hg, hb, go_sem];refine Aa (V8 (es := e.gone.l.map Ev) (h1.imp (fun q => by rw [q]; rfl) id) (by rw [List.length_map]; omega)) ?_;simp (disch := omega) only [Gh, hb, go_sem];refine Aa (V8 (es := e.base.l.map Ev) (h2.imp (fun q => by rw [q]; rfl) id) (by rw [List.length_map]; omega)) ?_;simp (disch := omega) only [hel, s1, s2, B9, go_sem];rfl
def Acu (S : St) (fl : Vc) (f : Bool) (z : Nat) (L : List Evt) : List SV := A8 S ++ [.vec 8 (vE fl), .pv (.sl f z (L.map Bp))]
def Oz (S : St) (fl : Vc) (L : List Evt) : SV := .agg (Acu S fl false 21 L)
theorem Z7 {S : St} (hS : Fine S) {h d} : FunOk Try.prog 9 [.agg (A8 S)] h d (.p d 0) [.new d (.var (Oz S S.known []))] := by
 refine Aol Am fn9 (by simp) rfl rfl fun F => ?_;simp (disch := omega) only [ir9, A8, Ax, go_sem];refine Aa (P2 (s := S) hS) ?_;simp (disch := omega) only [A8, Ax, go_sem];have hi : Imp (.agg (A8 S ++ [.vec 8 (vE S.known), .pv (.sl true 0 [])])) (Oz S S.known []) :=
  Ub (l := [.vec 8 (vE S.known), .pv (.sl false 15 (S.objs.map Av)), .pv (.sl false 15 (S.ents.map Bb)), .vec 8 (iE S.wards), .vec 8 (wE S.ret), .vec 8 (vE S.known), .pv (.sl true 0 [])]) (m := [.vec 8 (vE S.known), .pv (.sl false 15 (S.objs.map Av)), .pv (.sl false 15 (S.ents.map Bb)), .vec 8 (iE S.wards), .vec 8 (wE S.ret), .vec 8 (vE S.known), .pv (.sl false 21 [])]) ⟨⟨Imp.refl _, rfl⟩, ⟨Imp.refl _, rfl⟩, ⟨Imp.refl _, rfl⟩, ⟨Imp.refl _, rfl⟩, ⟨Imp.refl _, rfl⟩, ⟨Imp.refl _, rfl⟩, ⟨Ua (Hc (fun q => by cases q) (.inl rfl) (.refl _)), rfl⟩, trivial⟩
 refine ⟨mk [(2, .p 8 0)] [(8, some (.var (Oz S S.known [])))], A2 ?_ ?_, ?_⟩
 · simp (disch := omega) only [go_sem]
 · simp (disch := omega) only [go_sem];exact ⟨hi, rfl⟩
 (try simp only [D9, D8, D7, D6, D5, D4, D3, D2]); simp (disch := omega) only [go_sem]
 exact ⟨8, rfl, if_pos rfl⟩
end Go.Proofs.Ythmjebkldgdeiaa.Fw
namespace Go.Proofs.Ythmjebkldgdeiaa.Fw
open Go.RowKit Go.Proofs
theorem Aaa {S : St} {fl : Vc} {L : List Evt}  {g : Nat} {h d} (hg : h g = some (.var (Oz S fl L))) : FunOk Try.prog 12 [.p g 0] h d (.vec 8 (vE S.known)) [] := by
 refine FunOk.quiet (g := g) (blk := .var (Oz S fl L)) ?_ hg (by simp [Aw, tn]);refine FunOk.io (fun h d hg => ?_) rfl rfl rfl rfl hg;refine Ib (g := 900) Am fn12 (by simp) (by simp [Aw, tn]) (by simp [Aw, tn]) hg rfl (by simp [Blk.ptr, SV.kill]) rfl (fun _ => rfl) fun F => ?_;simp (disch := omega) only [ir12, Oz, Acu, A8, Ax, Blk.ptr, List.length_map, List.cons_append, List.nil_append, go_sem]
 skip
 refine ⟨_, .same _, ?_⟩
 (try simp only [D9, D8, D7, D6, D5, D4, D3, D2]); simp (disch := omega) only [go_sem]
 exact ⟨900, rfl, rfl⟩
theorem Axu {S : St} {fl : Vc} {L : List Evt}  {g : Nat} {h d} (hg : h g = some (.var (Oz S fl L))) : FunOk Try.prog 27 [.p g 0] h d (.pv (.i .i64 L.length)) [] := by
 refine FunOk.quiet (g := g) (blk := .var (Oz S fl L)) ?_ hg (by simp [Aw, tn]);refine FunOk.io (fun h d hg => ?_) rfl rfl rfl rfl hg;refine Ib (g := 900) Am fn27 (by simp) (by simp [Aw, tn]) (by simp [Aw, tn]) hg rfl (by simp [Blk.ptr, SV.kill]) rfl (fun _ => rfl) fun F => ?_;simp (disch := omega) only [ir27, Oz, Acu, A8, Ax, Blk.ptr, List.length_map, List.cons_append, List.nil_append, go_sem]
 skip
 refine ⟨_, .same _, ?_⟩
 (try simp only [D9, D8, D7, D6, D5, D4, D3, D2]); simp (disch := omega) only [go_sem]
 exact ⟨900, rfl, rfl⟩
theorem Al3 {S : St} {fl : Vc} {L : List Evt} (hS : Fine S) {g : Nat} {h d} (hg : h g = some (.var (Oz S fl L))) : FunOk Try.prog 19 [.p g 0] h d (.agg (A8 S)) [] := by
 refine FunOk.quiet (g := g) (blk := .var (Oz S fl L)) ?_ hg (by simp [Aw, tn]);refine FunOk.io (fun h d hg => ?_) rfl rfl rfl rfl hg;refine Ib (g := 900) Am fn19 (by simp) (by simp [Aw, tn]) (by simp [Aw, tn]) hg rfl (by simp [Blk.ptr, SV.kill]) rfl (fun _ => rfl) fun F => ?_;simp (disch := omega) only [ir19, Oz, Acu, A8, Ax, Blk.ptr, List.cons_append, List.nil_append, go_sem];refine Aa (P2 (s := S) hS) ?_;simp (disch := omega) only [A8, Ax, go_sem];refine ⟨_, .same _, ?_⟩
 (try simp only [D9, D8, D7, D6, D5, D4, D3, D2]); simp (disch := omega) only [go_sem]
 exact ⟨900, rfl, rfl⟩
def Fs (m : Nat) (v : Vc) (L : List Evt) : SV := .fn (.func m) [.pi 1 [[.sl true 21 (L.map Bp)]] 0 0, .pi 8 [vE v] 0 0]
theorem Z8 {S : St} {fl : Vc} {L : List Evt} (v : Vc) (hv : vLe fl v) {g : Nat} {h d} (hg : h g = some (.var (Oz S fl L))) : FunOk Try.prog 13 [.p g 0, .vec 8 (vE v)] h d (.tup [Fs 33 v L, .pv (.i .i64 0)]) [] := by
 refine FunOk.quiet (g := g) (blk := .var (Oz S fl L)) ?_ hg (by simp [Aw, tn]);refine FunOk.io (fun h d hg => ?_) rfl rfl rfl rfl hg;refine Ib (g := 900) Am fn13 (by simp) (by simp [Aw, tn]) (by simp [Aw, tn]) hg rfl (by simp [Blk.ptr, SV.kill]) rfl (fun _ => rfl) fun F => ?_;have hv' := decide_eq_true hv;simp (disch := omega) only [ir13, Oz, Acu, A8, Ax, Blk.ptr, List.cons_append, List.nil_append, go_sem];refine Aa (Afn _ _) ?_;simp (disch := omega) only [hv', go_sem];refine Aa (Aaf (.inr rfl)) ?_;simp (disch := omega) only [Fs, go_sem];refine ⟨_, Xh 6 (x := .pv (.sl true 21 (L.map Bp))) (cs := [.sl true 21 (L.map Bp)]) rfl rfl (Xh 3 (x := .vec 8 (vE v)) (cs := vE v) rfl rfl (.same _)), ?_⟩
 (try simp only [D9, D8, D7, D6, D5, D4, D3, D2]); simp (disch := omega) only [go_sem]
 exact ⟨900, rfl, rfl⟩
noncomputable def Rk (S : St) (e : Evt) : St := if Fu S e = 0 then Fp S e else S
open Classical in
noncomputable def Vb (S : St) (L : List Evt) (e : Evt) : List Evt := if Fu S e = 0 then L ++ [Gv e] else L
set_option maxHeartbeats 2000000 in
theorem Adb {S : St} {fl : Vc} {L : List Evt} {e : Evt} (hs : StIn S) (he : ev e) (hn : L.length ≤ 1000) {g : Nat} {h d} (hg : h g = some (.var (Oz S fl L))) : FunOk Try.prog 10 [.p g 0, .vec 21 (Bp e)] h d (.pv (.i .i64 (Fu S e))) [.upd g (.var (Oz (Rk S e) fl (Vb S L e)))] := by
 refine FunOk.io (fun h d hg => ?_) rfl rfl rfl rfl hg;refine Ib (g := 900) Am fn10 (by simp) (by simp [Aw, tn]) (by simp [Aw, tn]) hg rfl (by simp [Blk.ptr, SV.kill]) rfl (fun _ => rfl) fun F => ?_;have hel := Be e;have hel2 := Be (Gv e);simp (disch := omega) only [ir10, Oz, Acu, A8, Ax, Blk.ptr, List.cons_append, List.nil_append, B9, hel, go_sem];refine Aa (Asf (s := S) hs he) ?_;by_cases hw : Fu S e = 0
 · have e1 : Ag9 S e = Rk S e := by unfold Ag9 Rk; rw [if_pos hw, if_pos hw]
   have e2 : Vb S L e = L ++ [Gv e] := if_pos hw;rw [e1, hw];simp (disch := omega) only [A8, Ax, go_sem];refine Aa (Aaf (.inr rfl)) ?_;simp (disch := omega) only [B9, hel, go_sem];refine Aa (P3 e he) ?_;simp (disch := omega) only [hel2, go_sem];refine ⟨fun q => (by cases q), _, Ij 34 rfl (.same _), ?_⟩
   (try simp only [D9, D8, D7, D6, D5, D4, D3, D2]); simp (maxSteps := 10000000) (disch := omega) only [e2, List.map_append, List.map_cons, List.map_nil, go_sem]
   exact ⟨900, rfl, rfl⟩
 · have e1 : Rk S e = S := if_neg hw;have e2 : Vb S L e = L := if_neg hw;rw [e1, e2];simp (disch := omega) only [A8, Ax, hw, go_sem];refine ⟨_, .same _, ?_⟩
   (try simp only [D9, D8, D7, D6, D5, D4, D3, D2]); simp (disch := omega) only [go_sem]
   exact ⟨900, rfl, rfl⟩
def Mw : Evt := ⟨1, 1, fun _ => 0, 1, 0, 0, 0, 0, [97], .nil, .nil, 0, [], 0⟩
theorem A66 : Bt Mw = true := by
 have h1 : Vf Mw := ⟨by decide, by decide, by decide, by decide, rfl, by decide, by decide⟩
 have h2 : Aj3 Mw := fun i _ => by simp [Mw]
 rw [Apl h1 h2, Av1 rfl, Afz rfl];decide
theorem A39 : ev Mw := ⟨.inl rfl, .inl rfl, by decide, by decide, by decide⟩
theorem Avy : Acc (Ae []) Mw := ⟨A66, rfl, fun i _ => Nat.le_refl _, rfl, rfl⟩
theorem Akg : Fu (Ae []) Mw = 0 := Mi.2 Avy
theorem A4l : Ae [Mw] = Fp (Ae []) Mw := Uz (l := []) Val.nil Avy
theorem A5k : Rk (Ae []) Mw = Ae [Mw] := by unfold Rk; rw [if_pos Akg, A4l]
theorem A0n : Vb (Ae []) [] Mw = [Gv Mw] := by unfold Vb; rw [if_pos Akg]; rfl
theorem Aot : Fine (Ae []) := (Po Val.nil (by simp)).fine
theorem Anx : Imp (.vec 8 [.i .u32 0, .i .u32 0, .i .u32 0, .i .u32 0, .i .u32 0, .i .u32 0, .i .u32 0, .i .u32 0]) (.vec 8 (vE fun _ => 0)) := Imp.refl _
theorem A6o (n : Nat) (S : St) (fl : Vc) (L : List Evt) : SV.kill n (Oz S fl L) = Oz S fl L := rfl
theorem A53 (S : St) (fl : Vc) (L : List Evt) : SV.width (Oz S fl L) = 35 := rfl
theorem A60 (n : Nat) (p : PV) (S : St) (fl : Vc) (L : List Evt) : SV.frz n p (Oz S fl L) = Oz S fl L := rfl
attribute [go_sem] A6o A53 A60
theorem Apo (e : Evt) : Gv (Gv e) = Gv e := rfl
theorem Ann : (Ae []).known = fun _ => 0 := rfl
theorem Adm (es : List (List PV)) (f : Bool) (z : Nat) (K : KK) : LoadK (some [.sl f z es]) 0 1 false K = K (.pv (.sl f z es)) [] := by
 simp only [LoadK, Gr, eq_iff_iff];exact ⟨fun h => h.2.2, fun h => ⟨by simp, .inr trivial, h⟩⟩
theorem Axj (p : Nat) (hp : p < 1000) : ∀ q ∈ [p], q < Gj := by
 intro q hq;have : Gj = 1000000 := rfl;simp at hq; omega
noncomputable def Akr (l0 j : Nat) : FS := mk [(8, .pv (.i .i64 j)), (7, .pv (.i .i64 1)), (6, .pv (.sl true 21 [Bp (Gv Mw)])), (0, .fn (.yield l0) []), (2, .pi 8 [vE fun _ => 0] 0 0), (1000000, .pv (.i .i64 0)), (1000001, .p 0 0), (1000002, .p 7 0), (1000005, .p 4 0)] [(0, some (.var (.pv (.b false)))), (4, some (.var (.pv (.i .i64 j)))), (7, some (.var (Oz (Ae [Mw]) (fun _ => 0) [Gv Mw])))]
set_option maxHeartbeats 4000000 in
theorem P1 {h d} : FunOk Try.prog 7 [] h d (.pv (.b true)) [] := by
 refine A5 Am fn7 (by simp) rfl rfl fun F => ?_;simp (disch := omega) only [ir7, go_sem];refine Aa (FunOk.imp (Z7 (S := Ae []) Aot) ⟨Te, trivial⟩ (by simp [Aw, tn, Nv])) ?_;simp (disch := omega) only [Ann, go_sem];refine Aa (FunOk.imp (Adb (S := Ae []) (L := []) (e := Mw) (Po Val.nil (by simp)) A39 (by simp) rfl) ⟨Imp.refl _, Ow (cs := Bp Mw) rfl (Be _), trivial⟩ (by simp [Aw, tn])) ?_;rw [Akg, A5k, A0n];simp (disch := omega) only [go_sem];refine Aa (FunOk.imp (Z8 (S := Ae [Mw]) (L := [Gv Mw]) (fun _ => 0) (fun i _ => Nat.le_refl _) rfl) ⟨Imp.refl _, Anx, trivial⟩ (by simp [Aw, tn])) ?_;simp (disch := omega) only [Fs, go_sem];refine Acw Am fn33 (by simp) fun l0 XI hc => ?_;rw [Up _ _ _ (by show 3 ≤ 1000000; omega)];simp (disch := omega) only [ir33, List.map_cons, List.map_nil, List.getElem?_cons_zero, Adm, List.length_cons, List.length_nil, go_sem];refine Bd Am (Akr l0) (fun k => k ≤ 1) (fun k => 1 - k) 0 (by simp) (A2 ?_ ?_) fun k hk => ?_
 · simp (disch := omega) only [go_sem]
 · simp (disch := omega) only [go_sem]
 by_cases hlt : k < 1
 · obtain rfl : k = 0 := by omega
   have hel := Be (Gv Mw);have hnm : (Gv Mw).name = [97] := rfl;have hh : Bn (fun _ => 0) (Gv Mw).rep (Gv Mw).seq = false := rfl;simp (disch := omega) only [Akr, List.getElem?_cons_zero, List.length_cons, List.length_nil, B9, hel, E0, Ch, go_sem];refine Aa (E6 _ _ _) ?_;simp (disch := omega) only [hh, B9, hel, go_sem];refine Aa (P3 (Gv Mw) (Aus A39)) ?_;rw [Apo];simp (disch := omega) only [go_sem];refine Ab1 Am hc ?_ rfl fun XA XB => ?_
   · simp (disch := omega) only [go_sem]
   rw [Tj _ _ _ _ (Axj 30 (by decide))];simp (disch := omega) only [B9, hel, En, hnm, go_sem];refine Au (x := (0 : Nat)) (1 : Nat) _ _ rfl (by omega) (by omega) ?_ ?_
   · simp (disch := omega) only [go_sem]
   · simp (disch := omega) only [go_sem]
 · obtain rfl : k = 1 := by omega
   simp (disch := omega) only [Akr, List.length_cons, List.length_nil, go_sem];refine Aa (Axu (S := Ae [Mw]) (L := [Gv Mw]) rfl) ?_;simp (disch := omega) only [List.length_cons, List.length_nil, go_sem];refine Aa (Aaa (S := Ae [Mw]) (L := [Gv Mw]) rfl) ?_;have hv1 : vE (Ae [Mw]).known = [.i .u32 1, .i .u32 0, .i .u32 0, .i .u32 0, .i .u32 0, .i .u32 0, .i .u32 0, .i .u32 0] := by rw [Dg]; rfl
   have hpq : Rz (vE (Ae [Mw]).known) [.i .u32 1, .i .u32 0, .i .u32 0, .i .u32 0, .i .u32 0, .i .u32 0, .i .u32 0, .i .u32 0] = true := by rw [hv1]; exact Fh _
   have hfi := Uj (Ae [Mw]).known;have hf2 : C5 [K1.int .u32, .int .u32, .int .u32, .int .u32, .int .u32, .int .u32, .int .u32, .int .u32] [.i .u32 1, .i .u32 0, .i .u32 0, .i .u32 0, .i .u32 0, .i .u32 0, .i .u32 0, .i .u32 0] = True := eq_true rfl;simp (disch := omega) only [hpq, hfi, hf2, go_sem]
end Go.Proofs.Ythmjebkldgdeiaa.Fw
namespace Go.Proofs.Ythmjebkldgdeiaa.Fw
open Go.RowKit Go.Proofs
def Abz (l : List Evt) : Prop := l.length ≤ 25 ∧ ∀ e ∈ l, Avi e
open Classical in
noncomputable def Wp (l : List Evt) : Bool := decide (Abz l)
theorem Ys {l : List Evt} (h : Abz l) : Wp l = true := by simp [Wp, h]
theorem Sd {l : List Evt} (h : ¬ Abz l) : Wp l = false := by simp [Wp, h]
def M3 (f : Bool) (l : List Evt) (k : Nat) : FS := mk [(10, .pv (.i .i64 k)), (9, .pv (.i .i64 l.length)), (8, .pv (.sl f 21 (l.map Bp)))] []
set_option maxHeartbeats 2000000 in
theorem Aae {x : SV} {f : Bool} {l : List Evt} {h d} (hx : Cl h [x] = [.pv (.sl f 21 (l.map Bp))]) (hl : Ba [x] = true) :
 FunOk Try.prog 8 [x] h d (.pv (.b (Wp l))) [] := by
 refine Cp Am fn8 (by simp) hl rfl fun F => ?_;rw [hx];by_cases h30 : 25 < (l.length : Int)
 · have hf := Sd (l := l) fun h => by have := h.1; omega
   simp (disch := omega) only [ir8, List.length_map, hf, go_sem]
 simp (disch := omega) only [ir8, List.length_map, go_sem];refine Bd Am (M3 f l) (fun k => k ≤ l.length ∧ ∀ j e, j < k → l[j]? = some e → Avi e) (fun k => l.length - k) 0 ⟨by simp, fun j e hj => absurd hj (Nat.not_lt_zero j)⟩ (A2 ?_ ?_) fun k hk => ?_
 · simp (disch := omega) only [List.length_map, go_sem]
 · simp (disch := omega) only [go_sem]
 obtain ⟨hk1, hk2⟩ := hk;by_cases hlt : k < l.length
 · have hx' : l[k]? = some l[k] := List.getElem?_eq_getElem hlt;have he : (l.map Bp)[k]? = some (Bp l[k]) := by rw [List.getElem?_map, hx']; rfl
   have hm := List.getElem_mem hlt;generalize l[k] = e at *;have hel := Be e;have hg : e.gone.pv = .sl e.gone.f e.gone.z (e.gone.l.map Ev) := rfl;have hb : e.base.pv = .sl e.base.f e.base.z (e.base.l.map Ev) := rfl;have hno : ¬ Avi e → Wp l = false := fun q => Sd fun h => q (h.2 e hm);by_cases c1 : 30 < (e.name.length : Int)
   · have hf := hno fun q => by have := q.1; omega
     simp (disch := omega) only [M3, List.length_map, he, B9, hel, En, c1, hf, go_sem]
   by_cases c2 : 250 < (e.data.length : Int)
   · have hf := hno fun q => by have := q.2.1; omega
     simp (disch := omega) only [M3, List.length_map, he, B9, hel, En, c1, H8, c2, hf, go_sem]
   by_cases c3 : 10 < (e.gone.l.length : Int)
   · have hf := hno fun q => by have := q.2.2.1; omega
     simp (disch := omega) only [M3, List.length_map, he, B9, hel, En, c1, H8, c2, H9, hg, c3, hf, go_sem]
   by_cases c4 : 10 < (e.base.l.length : Int)
   · have hf := hno fun q => by have := q.2.2.2; omega
     simp (disch := omega) only [M3, List.length_map, he, B9, hel, En, c1, H8, c2, H9, hg, c3, Gh, hb, c4, hf, go_sem]
   simp (disch := omega) only [M3, List.length_map, he, B9, hel, En, c1, H8, c2, H9, hg, c3, Gh, hb, c4, go_sem];refine Au (k + 1) _ _ rfl ⟨by omega, fun j x hj hjx => ?_⟩ (by omega) ?_ ?_
   · by_cases ej : j = k
     · subst ej; rw [hx'] at hjx; cases hjx; exact ⟨by omega, by omega, by omega, by omega⟩
     · exact hk2 j x (by omega) hjx
   · simp (disch := omega) only [go_sem]
   · simp (disch := omega) only [go_sem]
 · obtain rfl : k = l.length := by omega
   have hf := Ys (l := l) ⟨by omega, fun e he => by
    obtain ⟨j, hj⟩ := List.mem_iff_getElem?.1 he;exact hk2 j e (List.getElem?_eq_some_iff.1 hj).1 hj⟩
   simp (disch := omega) only [M3, hf, go_sem]
theorem Aq6 {T : List Evt} {e : Evt} (h : Val T) (he : ev e) : Val (Rl T e) ∧ (Rl T e).length ≤ T.length + 1 := by
 unfold Rl;split
 · rename_i hw; exact ⟨Val.snoc h he hw, by simp⟩
 · exact ⟨h, by omega⟩
end Go.Proofs.Ythmjebkldgdeiaa.Fw
namespace Go.Proofs.Ythmjebkldgdeiaa.Fw
open Go.RowKit
variable {P : Program} {F : Fr} {N : Nat} {ρ ρ' : Nat → Value} {s : FS} {a : Act} {w w' : World} {V V' : View}
theorem Aon (hm : P.follows .mixedOrders = true) {f N' : Nat} {rs : List Rv} {c : C} (hf : A7 P f = some (N', rs, c)) {args : List SV} {h : Nat → Option Blk} {d : Nat} {x : SV} (hlen : args.length ≤ N')
 (hx : x.closed = true) (hts : A9 args = Aw args)
 (hrun : ∀ F, sx (Rt P F N') c (Y8 rs fun y _ => y = x) (mk (Ca 0 args) (Ei h (A9 args)))) :
 FunOk P f args h d x ((A9 args).map .del ++ [.new d (.row 1 [])]) := by
 refine ⟨Bs hf, fun F N ρ s a w hR hh vs hc => ?_⟩;rw [hts];rw [hts] at hrun;generalize htt : Aw args = ts at *
 let F' : Fr := ⟨w, Mn ρ s.h ts, F.out ρ (A1 s ts).h, fun _ => undef, []⟩
 have hvl : vs.length = args.length := by
  clear hrun hlen hts hh htt
  induction args generalizing vs with
  | nil => simp only [ConcL] at hc; subst hc; rfl
  | cons x l ih =>
    simp only [ConcL] at hc;obtain ⟨v, us, rfl, _, h⟩ := hc;simp [ih _ h]
 have hlk : ∀ n, (mk (Ca 0 args) (Ei h ts)).h n = if n ∈ ts then s.h n else none := fun n => by
  simp only [mk, T4];split
  · rename_i hn; rw [hh n hn]
  · rfl
 have how : ∀ b, Bo ρ (mk (Ca 0 args) (Ei h ts)).h b ↔ Mn ρ s.h ts b := fun b => by
  constructor
  · rintro ⟨n, x, h1, h2⟩;rw [hlk] at h1; split at h1
    · rename_i hn; exact ⟨n, hn, x, h1, h2⟩
    · cases h1
  · rintro ⟨n, hn, x, h1, h2⟩;exact ⟨n, x, by rw [hlk, if_pos hn]; exact h1, h2⟩
 have hoth : ∀ b, Bo ρ (A1 s ts).h b ↔ ∃ n, n ∉ ts ∧ ∃ x, s.h n = some x ∧ Bm (ρ n) = some b := fun b => by
  constructor
  · rintro ⟨n, x, h1, h2⟩;simp only [A1] at h1; split at h1
    · cases h1
    · rename_i hn; exact ⟨n, hn, x, h1, h2⟩
  · rintro ⟨n, hn, x, h1, h2⟩;exact ⟨n, x, by simp only [A1, if_neg hn]; exact h1, h2⟩
 have hview : Ai w (F'.out ρ (mk (Ca 0 args) (Ei h ts)).h) = vw F w ρ s := by
  show Ai w _ = Ai w _;congr 1;funext b;refine propext ⟨fun hb => ?_, fun hb => ?_⟩
  · rcases hb with hb | hb
    · obtain ⟨n, _, x, h1, h2⟩ := (how b).1 hb; exact .inl ⟨n, x, h1, h2⟩
    · rcases hb with hb | hb
      · obtain ⟨n, _, x, h1, h2⟩ := (hoth b).1 hb; exact .inl ⟨n, x, h1, h2⟩
      · exact .inr hb
  · rcases hb with ⟨n, x, h1, h2⟩ | hb
    · by_cases hn : n ∈ ts
      · exact .inl ((how b).2 ⟨n, hn, x, h1, h2⟩)
      · exact .inr (.inl ((hoth b).2 ⟨n, hn, x, h1, h2⟩))
    · exact .inr (.inr hb)
 have hR0 : RelR F' N' ρ (mk (Ca 0 args) (Ei h ts)) { tmps := (⟨vs⟩ : Array Value) ++ Array.replicate (N' - (⟨vs⟩ : Array Value).size) undef, defers := [] } w := by
  refine ⟨⟨rfl, rfl, rfl, Nat.le_refl _, fun _ _ _ => rfl, fun b hb => ⟨?_, fun hmi => ?_⟩⟩, fun b hb => .inr ((how b).1 hb), fun n x hx => ?_, fun n m x y b hx hy hbx hby => ?_, fun n => ?_, by simp; omega, rfl⟩
  · rcases hb with hb | hb
    · obtain ⟨n, _, x, h1, h2⟩ := (hoth b).1 hb; exact (hR.own n x h1).lt h2
    · exact Nat.lt_of_lt_of_le (hR.fr.hid b hb).1 hR.fr.size
  · obtain ⟨n, hn, x, h1, h2⟩ := hmi;rcases hb with hb | hb
    · obtain ⟨m, hm, y, g1, g2⟩ := (hoth b).1 hb;exact hm (by rw [hR.inj m n y x b g1 h1 g2 h2]; exact hn)
    · exact hR.shown ⟨n, x, h1, h2⟩ hb
  · rw [hview];rw [hlk] at hx; split at hx
    · exact hR.own n x hx
    · cases hx
  · rw [hlk] at hx hy;split at hx
    · split at hy
      · exact hR.inj n m x y b hx hy hbx hby
      · cases hy
    · cases hx
  · rw [hview];have := Fc 0 n hc;simp only [Nat.zero_le, if_true, Nat.sub_zero] at this;simp only [mk];have he : ((⟨vs⟩ : Array Value) ++ Array.replicate (N' - (⟨vs⟩ : Array Value).size) undef).getD n undef = (vs[n]?).getD undef := by
     rw [Array.getD_eq_getD_getElem?];by_cases hn : n < vs.length
     · rw [Array.getElem?_append_left (by simpa using hn)]; simp
     · rw [Array.getElem?_append_right (by simpa using hn)];rw [List.getElem?_eq_none (by omega)];simp only [Array.getElem?_replicate, Option.getD_none];split <;> rfl
    have hN := Me hf;unfold Fr.val;by_cases hb : n < Gj
    · rw [if_pos hb, he]; exact this
    · rw [if_neg hb];rw [List.getElem?_eq_none (by omega)] at this; exact this
 refine Calls.mono (Ht hm hf rfl hR0.fr (fun b ⟨n, hn, x, h1, h2⟩ => (hR.own n x h1).lt h2) hR0 M5 (hrun F')) fun e w' he => ?_;obtain ⟨v, ρ', s', a', y, rfl, hR', hy, rfl⟩ := he;have hres := hR.swapin (w' := w') ts d (.row 1 []) (.slice none 0 0) hR'.fr.os hR'.fr.tape hR'.fr.output hR'.fr.size hR'.fr.block (fun b hb => by simp [Bm] at hb)
  ⟨none, 0, by rw [Al]; rfl, Nat.le_refl _, Nat.one_pos, by simp, fun h => absurd rfl h⟩
 have e1 : s.hup (List.map HU.del ts ++ [HU.new d (Blk.row 1 [])]) = ((A1 s ts).kill d).seth d (some (.row 1 [])) := by rw [Ue]; rfl
 refine ⟨v, Fw.upd ρ d (.slice none 0 0), rfl, by rw [e1]; exact hres.1, ?_⟩;refine Bf (A4 fun b' c' hno hc' => ⟨fun hb' => hno ?_, hc'⟩) hx hy;rcases hb' with ⟨m, z, hm1, hm2⟩ | hb'
 · simp only [e1, A1, FS.seth, FS.kill] at hm1;by_cases hmd : m = d
   · subst hmd;rw [Al] at hm2;simp [Bm] at hm2
   · rw [A6 hmd] at hm2;simp only [hmd, if_false] at hm1;by_cases hmt : m ∈ ts
     · simp [hmt] at hm1
     · simp only [hmt, if_false] at hm1;obtain ⟨z', hz', _⟩ := Option.map_eq_some_iff.1 hm1;exact .inr (.inl ((hoth b').2 ⟨m, hmt, z', hz', hm2⟩))
 · exact .inr (.inr hb')
end Go.Proofs.Ythmjebkldgdeiaa.Fw
namespace Go.Proofs.Ythmjebkldgdeiaa.Fw
open Go.RowKit Go.Proofs
theorem Agx (u v : Evt) : splice (Bp u) 0 (Bp v) = Bp v := by simp [splice, Be]
theorem Asb (v : Evt) (b : Vc) {x : SV} {h d} (hx : Cl h [.vec 21 (Bp v), x] = [.vec 21 (Bp v), .pi 8 [vE b] 0 0]) (hl : Ba [.vec 21 (Bp v), x] = true) : FunOk Try.prog 41 [.vec 21 (Bp v), x] h d (.pv (.b (Bn b v.rep v.seq))) [] := by
 refine Cp Am fn41 (by simp) hl rfl fun F => ?_;rw [hx];have hv := Be v;have e0 : [vE b][0]? = some (vE b) := rfl;simp (disch := omega) only [ir41, Ch, E0, e0, go_sem];refine Aa (E6 _ _ _) ?_;simp (disch := omega) only [go_sem]
def Ym (P : Evt → Bool) (l : List Evt) : Int := if l.findIdx P < l.length then (l.findIdx P : Int) else -1
theorem Ats {P : Evt → Bool} {l : List Evt} {k : Nat} (hk : k < l.length) (h1 : P l[k] = true) (h2 : ∀ j, (hj : j < k) → P (l[j]'(by omega)) = false) : Ym P l = k := by
 have e : l.findIdx P = k := (List.findIdx_eq hk).2 ⟨h1, fun j hj => h2 j hj⟩;unfold Ym; rw [e, if_pos hk]
theorem Atr {P : Evt → Bool} {l : List Evt} (h2 : ∀ j, (hj : j < l.length) → P l[j] = false) : Ym P l = -1 := by
 have e : l.findIdx P = l.length := List.findIdx_eq_length.2 fun x hx => by
  obtain ⟨j, hj, rfl⟩ := List.getElem_of_mem hx;exact h2 j hj
 unfold Ym; rw [e, if_neg (Nat.lt_irrefl _)]
def Avz (m : Nat) (b : Vc) (P : Evt → Bool) : Prop := ∀ (v : Evt) (x : SV) h d, Cl h [.vec 21 (Bp v), x] = [.vec 21 (Bp v), .pi 8 [vE b] 0 0] → Ba [.vec 21 (Bp v), x] = true → FunOk Try.prog m [.vec 21 (Bp v), x] h d (.pv (.b (P v))) []
def Aci (f : Bool) (l : List Evt) (m : Nat) (b : Vc) (k : Nat) : FS := mk [(8, .pv (.i .i64 k)), (7, .pv (.i .i64 l.length)), (0, .pv (.sl f 21 (l.map Bp))), (1, .fn (.func m) [.pi 8 [vE b] 0 0])] []
theorem Al8 {x y : SV} {f : Bool} {l : List Evt} {m : Nat} {b : Vc} {P : Evt → Bool} {h d} (hP : Avz m b P) (hx : Cl h [x, y] = [.pv (.sl f 21 (l.map Bp)), .fn (.func m) [.pi 8 [vE b] 0 0]]) (hl : Ba [x, y] = true) (hn : l.length ≤ 1000) :
 FunOk Try.prog 53 [x, y] h d (.pv (.i .i64 (Ym P l))) [] := by
 refine Cp Am fn53 (by simp) hl rfl fun F => ?_;rw [hx];simp (disch := omega) only [ir53, List.length_map, go_sem];refine Bd Am (Aci f l m b) (fun k => k ≤ l.length ∧ ∀ j, (hj : j < l.length) → j < k → P l[j] = false) (fun k => l.length - k) 0 (by simp) (A2 ?_ ?_) fun k hk => ?_
 · simp (disch := omega) only [go_sem]
 · simp (disch := omega) only [go_sem]
 obtain ⟨hk1, hk2⟩ := hk;by_cases hlt : k < l.length
 · have he : (l.map Bp)[k]? = some (Bp l[k]) := by simp [hlt]
   have hv := Be l[k];simp (disch := omega) only [Aci, List.length_map, he, B9, go_sem];refine Aa (hP _ _ _ _ rfl rfl) ?_;by_cases hp : P l[k] = true
   · have e := Ats hlt hp fun j hj => hk2 j (by omega) hj;simp (disch := omega) only [hp, e, go_sem]
   · have hp' : P l[k] = false := by simpa using hp
     simp (disch := omega) only [hp', go_sem];refine Au (k + 1) _ _ rfl ⟨by omega, fun j hj hjk => ?_⟩ (by omega) ?_ ?_
     · by_cases e : j = k
       · subst e; exact hp'
       · exact hk2 j hj (by omega)
     · simp (disch := omega) only [go_sem]
     · simp (disch := omega) only [go_sem]
 · obtain rfl : k = l.length := by omega
   have e := Atr (P := P) (l := l) fun j hj => hk2 j hj hj;simp (disch := omega) only [Aci, e, go_sem]
def Di (P : Evt → Bool) (l : List Evt) : List Evt := l.filter fun v => !P v
theorem T8 {P : Evt → Bool} {l : List Evt} {k : Nat} {v : Evt} (hv : l[k]? = some v) : Di P (l.take (k + 1)) = Di P (l.take k) ++ if P v = true then [] else [v] := by
 unfold Di;rw [List.take_add_one, hv, List.filter_append];congr 1;cases hp : P v <;> simp [hp]
def Ack (l : List Evt) (m : Nat) (b : Vc) (P : Evt → Bool) (p : Nat × List Evt) : FS := mk [(6, .pv (.i .i64 p.1)), (5, .pv (.i .i64 ((Di P (l.take p.1)).length : Int))), (0, .os 34), (1, .fn (.func m) [.p 3 0])] [(34, some (.row 21 (p.2.map Bp))), (3, some (.var (.vec 8 (vE b))))]
theorem Ahk {l : List Evt} {m : Nat} {b : Vc} {P : Evt → Bool} (hP : Avz m b P) (hn : l.length ≤ 1000) {h d} (h6 : h 34 = some (.row 21 (l.map Bp))) (h3 : h 3 = some (.var (.vec 8 (vE b)))) :
 FunOk Try.prog 39 [.os 34, .fn (.func m) [.p 3 0]] h d (.pv (.sl false 21 ((Di P l).map Bp))) [.del 34, .del 3, .new d (.row 1 [])] := by
 refine Aon Am fn39 (by simp) rfl rfl fun F => ?_;simp (disch := omega) only [ir39, h6, h3, List.length_map, go_sem];refine Aa (Al8 (l := l) hP rfl rfl hn) ?_;by_cases hi : l.findIdx P < l.length
 · have ei : Ym P l = (l.findIdx P : Int) := by unfold Ym; rw [if_pos hi]
   have en : ¬ (l.findIdx P : Int) = -1 := by omega
   have hk0 : Di P (l.take (l.findIdx P)) = l.take (l.findIdx P) := by
    unfold Di;rw [List.filter_eq_self];intro v hv;obtain ⟨j, hj, rfl⟩ := List.getElem_of_mem hv;rw [List.getElem_take];have hj' : j < l.findIdx P := by simp at hj; omega
    have := List.not_of_lt_findIdx hj';simpa using this
   have hp0 : P l[l.findIdx P] = true := List.findIdx_getElem;have hk1 : Di P (l.take (l.findIdx P + 1)) = l.take (l.findIdx P) := by
    rw [T8 (List.getElem?_eq_getElem hi), if_pos hp0, List.append_nil, hk0]
   have hl1 : (Di P (l.take (l.findIdx P + 1))).length = l.findIdx P := by rw [hk1]; simp; omega
   generalize l.findIdx P = i0 at *;simp (disch := omega) only [ei, en, List.length_map, go_sem];refine Bd Am (Ack l m b P) (fun p => p.1 ≤ l.length ∧ p.2.length = l.length ∧ (Di P (l.take p.1)).length < p.1 ∧ p.2.take (Di P (l.take p.1)).length = Di P (l.take p.1) ∧ ∀ j, p.1 ≤ j → p.2[j]? = l[j]?) (fun p => l.length - p.1) (i0 + 1, l) ⟨by show i0 + 1 ≤ _; omega, rfl, by show _ < i0 + 1; rw [hl1]; omega, by show List.take _ l = _; rw [hl1, hk1], fun j _ => rfl⟩ (A2 ?_ ?_) fun p hp => ?_
   · (try simp only [D9, D8, D7, D6, D5, D4, D3, D2]); simp (disch := omega) only [hl1, go_sem]
   · (try simp only [D9, D8, D7, D6, D5, D4, D3, D2]); simp (disch := omega) only [go_sem]
   obtain ⟨k, M⟩ := p;obtain ⟨p1, p2, p3, p4, p5⟩ := hp;simp only at p1 p2 p3 p4 p5;by_cases hlt : k < l.length
   · have hx : l[k]? = some l[k] := List.getElem?_eq_getElem hlt;have hM : M[k]? = some l[k] := by rw [p5 k (Nat.le_refl k)]; exact hx
     have he : (M.map Bp)[k]? = some (Bp l[k]) := by rw [List.getElem?_map, hM]; rfl
     have hv := Be l[k];have hs := T8 (P := P) hx;generalize l[k] = v at *;simp (disch := omega) only [Ack, List.length_map, p2, he, B9, hv, go_sem];refine Aa (hP _ _ _ _ rfl rfl) ?_;by_cases hp : P v = true
     · rw [if_pos hp, List.append_nil] at hs;simp (disch := omega) only [hp, go_sem];refine Au (x := (k, M)) (k + 1, M) _ _ rfl ⟨by show k + 1 ≤ _; omega, p2, by show List.length (Di P (l.take (k + 1))) < k + 1; rw [hs]; omega, by show List.take (List.length (Di P (l.take (k + 1)))) M = Di P (l.take (k + 1)); rw [hs]; exact p4, fun j hj => p5 j (by simp only at hj; omega)⟩ (by show _ - (k + 1) < _; omega) ?_ ?_
       · (try simp only [D9, D8, D7, D6, D5, D4, D3, D2]); simp (disch := omega) only [hs, go_sem]
       · (try simp only [D9, D8, D7, D6, D5, D4, D3, D2]); simp (disch := omega) only [go_sem]
     · rw [if_neg hp] at hs;have hp' : P v = false := by simpa using hp
       generalize hK : Di P (l.take k) = K at *;have hi : K.length < M.length := by omega
       have hgd : ∃ u, (M.map Bp).getD K.length [] = Bp u := ⟨M[K.length], by rw [List.getD_eq_getElem?_getD, List.getElem?_map, List.getElem?_eq_getElem hi]; rfl⟩
       obtain ⟨u, hgd⟩ := hgd;have hsp := Agx u v;simp (disch := omega) only [hp', List.length_map, p2, hgd, hsp, hv, B9, go_sem];refine Au (x := (k, M)) (k + 1, M.set K.length v) _ _ rfl ⟨by show k + 1 ≤ _; omega, by show (M.set _ _).length = _; rw [List.length_set]; exact p2, by show List.length (Di P (l.take (k + 1))) < k + 1; rw [hs]; simp; omega, ?_, fun j hj => ?_⟩ (by show _ - (k + 1) < _; omega) ?_ ?_
       · show List.take (List.length (Di P (l.take (k + 1)))) (M.set K.length v) = Di P (l.take (k + 1));rw [hs, List.length_append, List.length_singleton, List.take_add_one, List.getElem?_set_self hi, List.take_set_of_le (Nat.le_refl _), p4]; rfl
       · show (M.set K.length v)[j]? = _;rw [List.getElem?_set_ne (by simp only at hj; omega)];exact p5 j (by simp only at hj; omega)
       · (try simp only [D9, D8, D7, D6, D5, D4, D3, D2]); simp (disch := omega) only [hs, List.length_append, List.length_singleton, go_sem]
       · (try simp only [D9, D8, D7, D6, D5, D4, D3, D2]); simp (disch := omega) only [List.map_set, go_sem]
   · obtain rfl : k = l.length := by omega
     rw [List.take_length] at p3 p4;have eL := List.take_length (l := l);have eK : ∀ z : List (List PV), ((M.map Bp).take (Di P l).length ++ z).take (Di P l).length = (Di P l).map Bp := fun z => by
      rw [List.take_append_of_le_length (by simp; omega), List.take_take, Nat.min_self, ← List.map_take, p4]
     simp (disch := omega) only [Ack, eL, List.length_map, p2, List.append_assoc, eK, go_sem];refine ⟨by simp; omega, _, .same _, ?_⟩
     (try simp only [D9, D8, D7, D6, D5, D4, D3, D2]); simp (disch := omega) only [go_sem]
 · have hP0 : ∀ x ∈ l, P x = false := List.findIdx_eq_length.1 (Nat.le_antisymm List.findIdx_le_length (by omega));have ei : Ym P l = -1 := by unfold Ym; rw [if_neg hi]
   have eK : Di P l = l := by
    unfold Di; rw [List.filter_eq_self]; intro v hv; rw [hP0 v hv]; rfl
   simp (disch := omega) only [ei, eK, go_sem];refine ⟨_, Ij 34 rfl (.same _), ?_⟩
   (try simp only [D9, D8, D7, D6, D5, D4, D3, D2]); simp (disch := omega) only [go_sem]
theorem Ac9 {f : Bool} {z : Nat} {es : List (List PV)} {h d} (hz : es = [] ∨ z = 21) (hb : es.length ≤ 1000) : FunOk Try.prog 40 [.pv (.sl f z es)] h d (.os d) [.new d (.row 21 es)] := by
 refine O1 Am fn40 (by simp) rfl (.inl rfl) fun F => ?_;simp (disch := omega) only [ir40, go_sem];intro b hb';cases b
 · simp (disch := omega) only [go_sem]
 · have he : es = [] := by
    cases es with
    | nil => rfl
    | cons c l => exact absurd (hb' (by simp)) (by simp)
   subst he
   (try simp only [D9, D8, D7, D6, D5, D4, D3, D2]); simp (disch := omega) only [go_sem]
   decide
def Qv (S : St) (fl v : Vc) : Int := if ¬ vLe fl v then 11 else if ¬ vLe v S.known then 10 else 0
def Zi (S : St) (fl v : Vc) : Vc := if Qv S fl v = 0 then v else fl
def Zh (S : St) (fl v : Vc) (L : List Evt) : List Evt := if Qv S fl v = 0 then Di (fun e => Bn v e.rep e.seq) L else L
set_option maxHeartbeats 2000000 in
theorem Asa {S : St} {fl : Vc} {L : List Evt} (v : Vc) (hn : L.length ≤ 1000) {g : Nat} {h d} (hg : h g = some (.var (Oz S fl L))) : FunOk Try.prog 20 [.p g 0, .vec 8 (vE v)] h d (.pv (.i .i64 (Qv S fl v))) [.upd g (.var (Oz S (Zi S fl v) (Zh S fl v L)))] := by
 refine FunOk.io (fun h d hg => ?_) rfl rfl rfl rfl hg;refine Ib (g := 900) Am fn20 (by simp) (by simp [Aw, tn]) (by simp [Aw, tn]) hg rfl (by simp [Blk.ptr, SV.kill]) rfl (fun _ => rfl) fun F => ?_;simp (disch := omega) only [ir20, Oz, Acu, A8, Ax, Blk.ptr, List.cons_append, List.nil_append, go_sem];refine Aa (Afn _ _) ?_;by_cases h1 : vLe fl v;rotate_left
 · have w : Qv S fl v = 11 := if_pos h1;have e1 : Zi S fl v = fl := if_neg (by rw [w]; decide);have e2 : Zh S fl v L = L := if_neg (by rw [w]; decide);have h1' := decide_eq_false h1;rw [e1, e2, w];simp (disch := omega) only [h1', go_sem];refine ⟨_, .same _, ?_⟩
   (try simp only [D9, D8, D7, D6, D5, D4, D3, D2]); simp (disch := omega) only [go_sem]
   exact ⟨900, rfl, rfl⟩
 have h1' := decide_eq_true h1;simp (disch := omega) only [h1', go_sem];refine Aa (Afn _ _) ?_;by_cases h2 : vLe v S.known;rotate_left
 · have w : Qv S fl v = 10 := by unfold Qv; rw [if_neg (fun q => q h1), if_pos h2]
   have e1 : Zi S fl v = fl := if_neg (by rw [w]; decide);have e2 : Zh S fl v L = L := if_neg (by rw [w]; decide);have h2' := decide_eq_false h2;rw [e1, e2, w];simp (disch := omega) only [h2', go_sem];refine ⟨_, .same _, ?_⟩
   (try simp only [D9, D8, D7, D6, D5, D4, D3, D2]); simp (disch := omega) only [go_sem]
   exact ⟨900, rfl, rfl⟩
 have h2' := decide_eq_true h2;have w : Qv S fl v = 0 := by unfold Qv; rw [if_neg (fun q => q h1), if_neg (fun q => q h2)]
 have e1 : Zi S fl v = v := if_pos w;have e2 : Zh S fl v L = Di (fun e => Bn v e.rep e.seq) L := if_pos w;rw [e1, e2, w];simp (disch := omega) only [h2', go_sem];refine Aa (Ac9 (es := L.map Bp) (.inr rfl) (by rw [List.length_map]; omega)) ?_;simp (disch := omega) only [go_sem];refine Aa (Ahk (l := L) (b := v) (P := fun e => Bn v e.rep e.seq) (fun e x h d h1 h2 => Asb e v h1 h2) hn rfl rfl) ?_;simp (disch := omega) only [go_sem];refine ⟨_, .same _, ?_⟩
 (try simp only [D9, D8, D7, D6, D5, D4, D3, D2]); simp (maxSteps := 10000000) (disch := omega) only [go_sem]
 exact ⟨900, rfl, rfl⟩
structure HAct where
 kind : Int
 v : Vc
 stop : Int
end Go.Proofs.Ythmjebkldgdeiaa.Fw
namespace Go.Proofs.Ythmjebkldgdeiaa.Fw
open Go.RowKit Go.Proofs
variable {P : Program} {F : Fr} {N : Nat} {ρ ρ' : Nat → Value} {s : FS} {ac : Act} {w w' : World} {V V' : View}
end Go.Proofs.Ythmjebkldgdeiaa.Fw
namespace Go.Proofs.Ythmjebkldgdeiaa.Fw
open Go.RowKit Go.Proofs
def A6q (l : List Evt) (e : Evt) : Bool := l.any fun x => decide (Ar x = Ar e)
end Go.Proofs.Ythmjebkldgdeiaa.Fw
namespace Go.Proofs.Ythmjebkldgdeiaa.Fw
open Go.RowKit Go.Proofs
open Classical in
noncomputable def rsL (fl kn : Vc) : List Evt → List Evt → List Evt → List Evt × Int
 | [], _, A => if vLe fl (C2 A) then (A, 0) else ([], 10)
 | e :: l, p, A => if Bn fl e.rep e.seq = true ∨ A6q p e = true then ([], 7) else if Bn kn e.rep e.seq = true then rsL fl kn l (p ++ [e]) A else if Fu (Ae A) e = 0 then rsL fl kn l (p ++ [e]) (A ++ [e]) else ([], Fu (Ae A) e)
structure RsI (fl : Vc) (B log : List Evt) (R : List Evt × Int) (p : Nat × List Evt) : Prop where
 le : p.1 ≤ log.length
 val : Val p.2
 len : p.2.length ≤ B.length + p.1
 eq : rsL fl (C2 B) (log.drop p.1) (log.take p.1) p.2 = R
def hiC (S : St) (fl : Vc) (L : List Evt) : List PV := vE S.known ++ [.sl false 15 (S.objs.map Av)] ++ [.sl false 15 (S.ents.map Bb)] ++ iE S.wards ++ wE S.ret ++ vE fl ++ [.sl false 21 (L.map Bp)]
def Lc (S : St) (fl : Vc) (L : List Evt) : SV := .pi 35 [hiC S fl L] 0 0
theorem Sa (S : St) (fl : Vc) (L : List Evt) : (hiC S fl L).length = 35 := by simp [hiC, vE, iE, wE, Cb]
theorem Ayg (S : St) (fl : Vc) (L : List Evt) (K : KK) : LoadK (some (hiC S fl L)) 0 8 true K = K (.vec 8 (vE S.known)) [] := by
 simp only [LoadK, Gr, eq_iff_iff];exact ⟨fun h => h.2.2, fun h => ⟨by simp [Sa], .inl trivial, h⟩⟩
theorem As7 (S : St) (fl : Vc) (L : List Evt) (K : KK) : LoadK (some (hiC S fl L)) 26 8 true K = K (.vec 8 (vE fl)) [] := by
 simp only [LoadK, Gr, eq_iff_iff];exact ⟨fun h => h.2.2, fun h => ⟨by simp [Sa], .inl trivial, h⟩⟩
theorem As6 (S : St) (fl : Vc) (L : List Evt) (K : KK) : LoadK (some (hiC S fl L)) 34 1 false K = K (.pv (.sl false 21 (L.map Bp))) [] := by
 simp only [LoadK, Gr, eq_iff_iff];exact ⟨fun h => h.2.2, fun h => ⟨by simp [Sa], .inr trivial, h⟩⟩
def stC (S : St) : List PV := vE S.known ++ [.sl false 15 (S.objs.map Av)] ++ [.sl false 15 (S.ents.map Bb)] ++ iE S.wards ++ wE S.ret
theorem Ank (S : St) (fl : Vc) (L : List Evt) (K : KK) : LoadK (some (hiC S fl L)) 0 26 true K = K (.vec 26 (stC S)) [] := by
 simp only [LoadK, Gr, eq_iff_iff];exact ⟨fun h => h.2.2, fun h => ⟨by simp [Sa], .inl trivial, h⟩⟩
theorem Ae9 (S : St) : Imp (.vec 26 (stC S)) (.agg (A8 S)) := Yk ⟨by simp [Bw], _, by simp only [stC, List.append_assoc]; rfl, _, rfl, _, rfl, by simp [Md], _, rfl, by simp [wE, Cb], [], by simp, rfl⟩
theorem Al6 {S : St} {fl : Vc} {L : List Evt} {h d} : FunOk Try.prog 12 [Lc S fl L] h d (.vec 8 (vE S.known)) [] := by
 refine A5 Am fn12 (by simp) rfl rfl fun F => ?_;simp (disch := omega) only [ir12, Lc, List.getElem?_cons_zero, Ayg, As7, As6, List.length_map, go_sem]
theorem Al1 {S : St} {fl : Vc} {L : List Evt} (hS : Fine S) {h d} : FunOk Try.prog 19 [Lc S fl L] h d (.agg (A8 S)) [] := by
 refine A5 Am fn19 (by simp) rfl rfl fun F => ?_;simp (disch := omega) only [ir19, Lc, List.getElem?_cons_zero, Ank, go_sem];refine Aa (FunOk.imp (P2 (s := S) hS) ⟨Ae9 S, trivial⟩ (by simp [Aw, tn, Nv])) ?_;simp (disch := omega) only [A8, Ax, go_sem]
end Go.Proofs.Ythmjebkldgdeiaa.Fw
namespace Go.Proofs.Ythmjebkldgdeiaa.Fw
open Go.RowKit Go.Proofs
variable {P : Program} {F : Fr} {N : Nat} {ρ ρ' : Nat → Value} {s : FS} {a : Act} {w w' : World} {V V' : View}
theorem A0m (h : RelR F N ρ s a w) (g : Grew w w') {n1 n2 : Nat} (hne : n1 ≠ n2) (b1 b2 : Blk) (p1 p2 : Value)
 (hid1 : ∀ b, Bm p1 = some b → w.heap.size ≤ b ∧ b < w'.heap.size) (hid2 : ∀ b, Bm p2 = some b → w.heap.size ≤ b ∧ b < w'.heap.size) (hap : ∀ b, Bm p1 = some b → Bm p2 = some b → False)
 (hown : (Ai w (F.out ρ s.h)).le (Ai w' (F.out (upd (upd ρ n1 p1) n2 p2) (s.hup [.new n1 b1, .new n2 b2]).h)) → Own w' (Ai w' (F.out (upd (upd ρ n1 p1) n2 p2) (s.hup [.new n1 b1, .new n2 b2]).h)) (upd (upd ρ n1 p1) n2 p2) n1 (b1.kill n2) ∧ Own w' (Ai w' (F.out (upd (upd ρ n1 p1) n2 p2) (s.hup [.new n1 b1, .new n2 b2]).h)) (upd (upd ρ n1 p1) n2 p2) n2 b2) :
 RelR F N (upd (upd ρ n1 p1) n2 p2) (s.hup [.new n1 b1, .new n2 b2]) a w' ∧ (Ai w (F.out ρ s.h)).le (Ai w' (F.out (upd (upd ρ n1 p1) n2 p2) (s.hup [.new n1 b1, .new n2 b2]).h)) := by
 generalize hR : upd (upd ρ n1 p1) n2 p2 = R at *;generalize hS : s.hup [.new n1 b1, .new n2 b2] = S at *;have R1 : R n1 = p1 := by rw [← hR, A6 hne, Al]
 have R2 : R n2 = p2 := by rw [← hR, Al]
 have Ro : ∀ m, m ≠ n1 → m ≠ n2 → R m = ρ m := fun m h1 h2 => by rw [← hR, A6 h2, A6 h1]
 have S1 : S.h n1 = some (b1.kill n2) := by rw [← hS]; simp [FS.hup, FS.seth, FS.kill, hne]
 have S2 : S.h n2 = some b2 := by rw [← hS]; simp [FS.hup, FS.seth, FS.kill]
 have So : ∀ m, m ≠ n1 → m ≠ n2 → S.h m = ((s.h m).map (Blk.kill n1)).map (Blk.kill n2) := fun m h1 h2 => by rw [← hS]; simp [FS.hup, FS.seth, FS.kill, h1, h2]
 have St : ∀ m, S.t m = ((s.t m).kill n1).kill n2 := fun m => by rw [← hS]; simp [FS.hup, FS.seth, FS.kill]
 have key : ∀ b, Bo R S.h b → Bo ρ s.h b ∨ Bm p1 = some b ∨ Bm p2 = some b := by
  rintro b ⟨m, y, hm, hb⟩;by_cases e1 : m = n1
  · subst e1; rw [R1] at hb; exact .inr (.inl hb)
  · by_cases e2 : m = n2
    · subst e2; rw [R2] at hb; exact .inr (.inr hb)
    · rw [So m e1 e2] at hm; rw [Ro m e1 e2] at hb;cases hs : s.h m with
      | none => rw [hs] at hm; cases hm
      | some z => exact .inl ⟨m, z, hs, hb⟩
 have hV : (Ai w (F.out ρ s.h)).le (Ai w' (F.out R S.h)) :=
  A4 fun b c ho hc => by
   have hlt := Hs hc;refine ⟨fun hb => ?_, by rw [Cj (g.block b hlt)]; exact hc⟩;rcases hb with hb | hb
   rotate_left
   · exact ho (.inr hb)
   rcases key b hb with h1 | h1 | h1
   · exact ho (.inl h1)
   · have := hid1 b h1; omega
   · have := hid2 b h1; omega
 obtain ⟨o1, o2⟩ := hown hV;have oth : ∀ m y, m ≠ n1 → m ≠ n2 → S.h m = some y → ∃ z, s.h m = some z ∧ y = (z.kill n1).kill n2 := fun m y h1 h2 hm => by
  rw [So m h1 h2] at hm;cases hs : s.h m with
  | none => rw [hs] at hm; cases hm
  | some z => rw [hs] at hm; cases hm; exact ⟨z, rfl, rfl⟩
 have ov : ∀ m y b, m ≠ n1 → m ≠ n2 → S.h m = some y → Bm (R m) = some b → b < w.heap.size := fun m y b h1 h2 hm hb => by
  obtain ⟨z, hs, _⟩ := oth m y h1 h2 hm;rw [Ro m h1 h2] at hb;exact (h.own m z hs).lt hb
 refine ⟨⟨h.fr.grew g, fun b hb => ?_, fun m y hm => ?_, fun m k x y b hm hk hbm hbk => ?_, fun m => ?_, h.size, h.defers⟩, hV⟩
 · rcases key b hb with h1 | h1 | h1
   · exact h.may b h1
   · exact .inl (Nat.le_trans h.fr.size (hid1 b h1).1)
   · exact .inl (Nat.le_trans h.fr.size (hid2 b h1).1)
 · by_cases e1 : m = n1
   · subst e1; rw [S1] at hm; cases hm; exact o1
   · by_cases e2 : m = n2
     · subst e2; rw [S2] at hm; cases hm; exact o2
     · obtain ⟨z, hs, rfl⟩ := oth m y e1 e2 hm;have ho := h.own m z hs;have hlt : ∀ b, Bm (ρ m) = some b → b < w.heap.size := fun b hb => ho.lt hb;have g1 := (ho.congr (V' := Ai w (F.out ρ s.h)) (w' := w') (fun _ _ x => x) (fun b hb => g.block b (hlt b hb)))
       have g2 : Own w' (Ai w (F.out ρ s.h)) (upd ρ n1 p1) m (z.kill n1) := g1.kill (fun _ _ x => x) e1;have g3 := g2.kill (n := n2) (p := p2) hV e2
       rwa [hR] at g3
 · by_cases e1 : m = n1
   · by_cases f1 : k = n1
     · rw [e1, f1]
     · exfalso;subst e1; rw [R1] at hbm;by_cases f2 : k = n2
       · subst f2; rw [R2] at hbk; exact hap b hbm hbk
       · have := ov k y b f1 f2 hk hbk; have := hid1 b hbm; omega
   · by_cases e2 : m = n2
     · by_cases f2 : k = n2
       · rw [e2, f2]
       · exfalso;subst e2; rw [R2] at hbm;by_cases f1 : k = n1
         · subst f1; rw [R1] at hbk; exact hap b hbk hbm
         · have := ov k y b f1 f2 hk hbk; have := hid2 b hbm; omega
     · by_cases f1 : k = n1
       · exfalso;subst f1; rw [R1] at hbk;have := ov m x b e1 e2 hm hbm; have := hid1 b hbk; omega
       · by_cases f2 : k = n2
         · exfalso;subst f2; rw [R2] at hbk;have := ov m x b e1 e2 hm hbm; have := hid2 b hbk; omega
         · obtain ⟨z, hz, _⟩ := oth m x e1 e2 hm;obtain ⟨z', hz', _⟩ := oth k y f1 f2 hk;rw [Ro m e1 e2] at hbm; rw [Ro k f1 f2] at hbk;exact h.inj m k z z' b hz hz' hbm hbk
 · show Conc _ R (S.t m) _;have g1 : Conc (Ai w (F.out ρ s.h)) (upd ρ n1 p1) ((s.t m).kill n1) (F.val a m) := (h.tmps m).kill (fun _ _ x => x);have g2 : Conc (Ai w' (F.out R S.h)) (upd (upd ρ n1 p1) n2 p2) (((s.t m).kill n1).kill n2) (F.val a m) := g1.kill hV;rw [hR] at g2;rw [St m]; exact g2
theorem Aip (hm : P.follows .mixedOrders = true) {f N' : Nat} {rs : List Rv} {c : C} (hf : A7 P f = some (N', rs, c)) {args : List SV} {h : Nat → Option Blk} {d d1 d2 : Nat} {sz sz' : Nat} {es es' : List (List PV)} {X : Nat → Nat → SV} (hlen : args.length ≤ N') (hd : d1 ≠ d2)
 (hargs : SV.closedL args = true) (hX : ∀ (V V' : View) (ρ ρ' : Nat → Value) (n m d e : Nat) (v : Value), View.le V V' → ρ' d = ρ n → ρ' e = ρ m → Conc V ρ (X n m) v → Conc V' ρ' (X d e) v)
 (hrun : ∀ F, sx (Rt P F N') c (Y8 rs fun y g => ∃ n m, n ≠ m ∧ y = X n m ∧ g.h n = some (.row sz es) ∧ g.h m = some (.row sz' es')) (mk (Ca 0 args) [])) :
 FunOk P f args h d (X d1 d2) [.new d1 (.row sz es), .new d2 (.row sz' es')] := by
 obtain ⟨h1, h2, h3⟩ := Bl hargs;refine ⟨Bs hf, fun F N ρ s a w hR hh vs hc => ?_⟩;refine Calls.mono (Cs hm hf (h := h) hlen h2 M5 (by rw [h3]; exact hrun) hR hh hc) fun e w' he => ?_;obtain ⟨v, rfl, hg, N'', ρ', s', a', y, hR', hy, n, m, hnm, rfl, hn, hm'⟩ := he;rw [h1, Ck] at hR' hy;have hown : ∀ k blk, s'.h k = some blk → ∀ b, Bm (ρ' k) = some b → w.heap.size ≤ b ∧ b < w'.heap.size := fun k blk hk b hb => by
  have ho : Bo ρ' s'.h b := ⟨k, _, hk, hb⟩
  exact ⟨(hR'.may b ho).resolve_right id, hR'.lt ho⟩
 have hle : (vw ⟨w, fun _ => False, F.out ρ s.h, fun _ => undef, []⟩ w' ρ' s').le (Ai w' (F.out (upd (upd ρ d1 (ρ' n)) d2 (ρ' m)) (s.hup [.new d1 (.row sz es), .new d2 (.row sz' es')]).h)) := A4 fun b' c' ho hc' => ⟨fun hb' => by
  rcases hb' with ⟨k, z, hk1, hk2⟩ | hb'
  · by_cases e2 : k = d2
    · subst e2; rw [Al] at hk2; exact ho (.inl ⟨m, _, hm', hk2⟩)
    · rw [A6 e2] at hk2;by_cases e1 : k = d1
      · subst e1; rw [Al] at hk2; exact ho (.inl ⟨n, _, hn, hk2⟩)
      · rw [A6 e1] at hk2;simp only [FS.hup, FS.seth, FS.kill, e1, e2, if_false] at hk1;obtain ⟨z', hz', _⟩ := Option.map_eq_some_iff.1 hk1;obtain ⟨z'', hz'', _⟩ := Option.map_eq_some_iff.1 hz';exact ho (.inr (.inl ⟨k, z'', hz'', hk2⟩))
  · exact ho (.inr (.inr hb')), hc'⟩
 have hrow : ∀ (k d sz : Nat) (es : List (List PV)), s'.h k = some (.row sz es) → upd (upd ρ d1 (ρ' n)) d2 (ρ' m) d = ρ' k → Own w' (Ai w' (F.out (upd (upd ρ d1 (ρ' n)) d2 (ρ' m)) (s.hup [.new d1 (.row sz es), .new d2 (.row sz' es')]).h)) (upd (upd ρ d1 (ρ' n)) d2 (ρ' m)) d (.row sz es) → True := fun _ _ _ _ _ _ _ => trivial;have own1 : ∀ (k d z : Nat) (l : List (List PV)), s'.h k = some (.row z l) → upd (upd ρ d1 (ρ' n)) d2 (ρ' m) d = ρ' k → Own w' (Ai w' (F.out (upd (upd ρ d1 (ρ' n)) d2 (ρ' m)) (s.hup [.new d1 (.row sz es), .new d2 (.row sz' es')]).h)) (upd (upd ρ d1 (ρ' n)) d2 (ρ' m)) d (.row z l) := fun k d z l hk he => by
  obtain ⟨base, cap, g1, g2, g3, g4, g5⟩ := hR'.own k _ hk;refine ⟨base, cap, by rw [he]; exact g1, g2, g3, g4, fun hcap => ?_⟩;obtain ⟨b, vs', ty, fr, k1, k2, k3, k4, k5, k6⟩ := g5 hcap;exact ⟨b, vs', ty, fr, k1, k2, k3, k4, k5, fun i c hi => (k6 i c hi).mono hle⟩
 have hnew := A0m hR hg hd (.row sz es) (.row sz' es') (ρ' n) (ρ' m) (hown n _ hn) (hown m _ hm') (fun b q1 q2 => hnm (hR'.inj n m _ _ b hn hm' q1 q2)) fun _ => ⟨own1 n d1 sz es hn (by rw [A6 hd, Al]), own1 m d2 sz' es' hm' (by rw [Al])⟩
 exact ⟨v, _, rfl, hnew.1, hX _ _ _ _ _ _ _ _ _ hle (by rw [A6 hd, Al]) (by rw [Al]) hy⟩
theorem Wn (hm : P.follows .mixedOrders = true) {f N' : Nat} {rs : List Rv} {c : C} (hf : A7 P f = some (N', rs, c)) {args : List SV} {h : Nat → Option Blk} {d : Nat} {sz : Nat} {es : List (List PV)} {X : Nat → SV} (hlen : args.length ≤ N')
 (hargs : SV.closedL args = true) (hX : ∀ (V V' : View) (ρ ρ' : Nat → Value) (n d : Nat) (v : Value), View.le V V' → ρ' d = ρ n → Conc V ρ (X n) v → Conc V' ρ' (X d) v)
 (hrun : ∀ F, sx (Rt P F N') c (Y8 rs fun y g => ∃ n, y = X n ∧ g.h n = some (.row sz es)) (mk (Ca 0 args) [])) :
 FunOk P f args h d (X d) [.new d (.row sz es)] := by
 obtain ⟨h1, h2, h3⟩ := Bl hargs;refine ⟨Bs hf, fun F N ρ s a w hR hh vs hc => ?_⟩;refine Calls.mono (Cs hm hf (h := h) hlen h2 M5 (by rw [h3]; exact hrun) hR hh hc) fun e w' he => ?_;obtain ⟨v, rfl, hg, N'', ρ', s', a', y, hR', hy, n, rfl, hn⟩ := he;rw [h1, Ck] at hR' hy;obtain ⟨base, cap, g1, g2, g3, g4, g5⟩ := hR'.own n _ hn;have hown : ∀ b, Bm (ρ' n) = some b → w.heap.size ≤ b ∧ b < w'.heap.size := fun b hb => by
  have ho : Bo ρ' s'.h b := ⟨n, _, hn, hb⟩
  exact ⟨(hR'.may b ho).resolve_right id, hR'.lt ho⟩
 have hle : (vw ⟨w, fun _ => False, F.out ρ s.h, fun _ => undef, []⟩ w' ρ' s').le (Ai w' (F.out (upd ρ d (ρ' n)) ((s.kill d).seth d (some (.row sz es))).h)) := A4 fun b' c' ho hc' => ⟨fun hb' => by
  rcases hb' with ⟨m, z, hm1, hm2⟩ | hb'
  · by_cases hmd : m = d
    · subst hmd;rw [Al] at hm2;exact ho (.inl ⟨n, _, hn, hm2⟩)
    · rw [A6 hmd] at hm2;simp only [FS.hup, FS.seth, FS.kill, hmd, if_false] at hm1;obtain ⟨z', hz', _⟩ := Option.map_eq_some_iff.1 hm1;exact ho (.inr (.inl ⟨m, z', hz', hm2⟩))
  · exact ho (.inr (.inr hb')), hc'⟩
 have hnew := hR.adopt hg d (.row sz es) (ρ' n) hown fun _ => by
  refine ⟨base, cap, by rw [Al]; exact g1, g2, g3, g4, fun hcap => ?_⟩;obtain ⟨b, vs', ty, fr, k1, k2, k3, k4, k5, k6⟩ := g5 hcap;exact ⟨b, vs', ty, fr, k1, k2, k3, k4, k5, fun i c hi => (k6 i c hi).mono hle⟩
 exact ⟨v, _, rfl, hnew.1, hX _ _ _ _ _ _ _ hle Al hy⟩
end Go.Proofs.Ythmjebkldgdeiaa.Fw
namespace Go.Proofs.Ythmjebkldgdeiaa.Fw
open Go.RowKit Go.Proofs
theorem V7 {f : Bool} {z : Nat} {es : List (List PV)} {h d} (hz : es = [] ∨ z = 2) (hb : es.length ≤ 1000) : FunOk Try.prog 51 [.pv (.sl f z es)] h d (.os d) [.new d (.row 2 es)] := by
 refine O1 Am fn51 (by simp) rfl (.inl rfl) fun F => ?_;simp (disch := omega) only [ir51, go_sem];intro b hb';cases b
 · simp (disch := omega) only [go_sem]
 · have he : es = [] := by
    cases es with
    | nil => rfl
    | cons c l => exact absurd (hb' (by simp)) (by simp)
   subst he
   (try simp only [D9, D8, D7, D6, D5, D4, D3, D2]); simp (disch := omega) only [go_sem]
   decide
def Ki (e : Evt) : List SV := [.pv (.i .i64 e.rep), .pv (.i .u32 e.seq), .vec 8 (vE e.dep), .pv (.i .i64 e.kind), .pv (.i .i64 e.orep), .pv (.i .u32 e.oseq), .pv (.i .i64 e.drep), .pv (.i .u32 e.dseq), .pv (.s e.name)]
def Kh (e : Evt) : List SV := [.pv (.i .i64 e.off), .pv (.s e.data), .pv (.i .i64 e.ward)]
def Mk (e : Evt) (x y : SV) : List SV := Ki e ++ x :: y :: Kh e
theorem Aox (e : Evt) : Imp (.vec 21 (Bp e)) (.agg (Mk e (.pv e.gone.pv) (.pv e.base.pv))) := Yk ⟨_, rfl, _, rfl, by simp [Bw], _, rfl, _, rfl, _, rfl, _, rfl, _, rfl, _, rfl, _, rfl, _, rfl, _, rfl, _, rfl, _, rfl, _, rfl, rfl⟩
theorem Aeb {V V' : View} {ρ ρ' : Nat → Value} {n m d e : Nat} {a b : List SV} {v : Value} (hV : V.le V') (h1 : ρ' d = ρ n) (h2 : ρ' e = ρ m) (ha : SV.closedL a = true) (hb : SV.closedL b = true) (h : Conc V ρ (.agg (a ++ .os n :: .os m :: b)) v) : Conc V' ρ' (.agg (a ++ .os d :: .os e :: b)) v := by
 simp only [Conc] at h ⊢;obtain ⟨us, rfl, hc⟩ := h;obtain ⟨va, vb, rfl, c1, c2⟩ := Gu hc;simp only [Cells] at c2;obtain ⟨u1, w1, rfl, k1, k2, k3, u2, w2, rfl, j1, j2, j3, c3⟩ := c2;refine ⟨_, rfl, Hr (Ci hV ha c1) ?_⟩;simp only [Cells];refine ⟨u1, _, rfl, ?_, k2, k3, u2, _, rfl, ?_, j2, j3, Ci hV hb c3⟩
 · simp only [Conc] at k1 ⊢; rw [h1]; exact k1
 · simp only [Conc] at j1 ⊢; rw [h2]; exact j1
theorem Ami (e : Evt) (he : ev e) {h d} : FunOk Try.prog 31 [.vec 21 (Bp e)] h d (.agg (Mk e (.os 1061) (.os 1062))) [.new 1061 (.row 2 (e.gone.l.map Ev)), .new 1062 (.row 2 (e.base.l.map Ev))] := by
 obtain ⟨h1, h2, h3, h4, h5⟩ := he;have hg : e.gone.pv = .sl e.gone.f e.gone.z (e.gone.l.map Ev) := rfl;have hb : e.base.pv = .sl e.base.f e.base.z (e.base.l.map Ev) := rfl;refine FunOk.imp (args' := [.agg (Mk e (.pv e.gone.pv) (.pv e.base.pv))]) ?_ ⟨Aox e, trivial⟩ (by simp [Aw, tn, Mk, Ki, Kh]);refine Aip (X := fun n m => .agg (Mk e (.os n) (.os m))) Am fn31 (by simp) (by decide) rfl (fun V V' ρ ρ' n m d e' v hV q1 q2 hc => Aeb hV q1 q2 rfl rfl hc) fun F => ?_;simp (disch := omega) only [ir31, hg, hb, Mk, Ki, Kh, List.cons_append, List.nil_append, go_sem];refine Aa (E := (Rt Try.prog F 12).reg) (V7 (es := e.gone.l.map Ev) (h1.imp (fun q => by rw [q]; rfl) id) (by rw [List.length_map]; omega)) ?_;simp (disch := omega) only [hb, go_sem];refine Aa (E := (Rt Try.prog F 12).reg) (V7 (es := e.base.l.map Ev) (h2.imp (fun q => by rw [q]; rfl) id) (by rw [List.length_map]; omega)) ?_;simp (disch := omega) only [go_sem];refine B0 ?_;simp (maxSteps := 10000000) (disch := omega) only [go_sem];exact ⟨5, 8, by decide, rfl, rfl, rfl⟩
def oS (s : St) : SV := .pv (.sl false 15 (s.objs.map Av))
def Arh (s : St) (k : Nat) : FS := mk [(15, .pv (.i .i64 k)), (14, .pv (.i .i64 s.objs.length)), (13, .pv (.sl false 15 (s.objs.map Av))), (3, .p 3 0), (2, .p 2 0)] [(3, some (.var (.agg (Ax s (cpS k) (.os 9))))), (2, some (.var G6)), (40, cpK s.objs k), (9, some (.row 15 (s.ents.map Bb)))]
set_option maxHeartbeats 8000000 in
theorem Ahl {s : St} (hs : Fine s) {h d} : FunOk Try.prog 28 [.agg (A8 s)] h d (.agg (Ax s (oS s) (.os d))) [.new d (.row 15 (s.ents.map Bb))] := by
 refine Wn (X := fun n => .agg (Ax s (oS s) (.os n))) Am fn28 (by simp) rfl (fun V V' ρ ρ' n d v hV q hc => Lj (a := [.vec 8 (vE s.known), oS s]) (b := [.vec 8 (iE s.wards), .vec 8 (wE s.ret)]) hV q rfl rfl hc) fun F => ?_;have hn := hs.on;have hv := hs.ov;have he := hs.en;simp (disch := omega) only [ir28, A8, Ax, go_sem];refine Aa (Ob (es := s.ents.map Bb) rfl rfl (.inr rfl) (by rw [List.length_map]; omega) (Ja _)) ?_;simp (disch := omega) only [List.length_map, go_sem];refine Bd Am (Arh s) (fun k => k ≤ s.objs.length) (fun k => s.objs.length - k) 0 (by simp) (A2 ?_ ?_) fun k hk => ?_
 · simp (disch := omega) only [go_sem]
 · simp (disch := omega) only [W0, W2, Ax, G6, go_sem]
 by_cases hlt : k < s.objs.length
 · have hx : s.objs[k]? = some s.objs[k] := List.getElem?_eq_getElem hlt;have hel : (s.objs.map Av)[k]? = some (Av s.objs[k]) := by rw [List.getElem?_map, hx]; rfl
   have ht := Iy hx;have hvk := hv _ (List.getElem_mem hlt);generalize s.objs[k] = o at *;have hsp : splice (Av o) 14 [.sl false 11 (o.vers.map Bk)] = Av o := S7 o false 11 o.vers;have hol := Oc o;have htm : (s.objs.take (k + 1)).map Av = (s.objs.take k).map Av ++ [Av o] := by rw [ht]; simp
   have hkl : ((s.objs.take k).map Av).length = k := by simp; omega
   simp (disch := omega) only [Arh, Ax, List.length_map, hel, Jy, go_sem];simp (disch := omega) only [Dm, go_sem];refine Aa (V6 (es := o.vers.map Bk) (.inr rfl) (by rw [List.length_map]; omega)) ?_;by_cases h0 : k = 0
   · subst h0;simp (disch := omega) only [hsp, W0, W2, Jy, hol, Ax, G6, go_sem];have hS := Rb (k := 1) (by omega);have hK := Rc (l := s.objs) (k := 1) (by omega);refine ⟨fun _ => trivial, (1 : Nat), by omega, by show _ - 1 < _ - 0; omega, Ks 27 40 (by decide) rfl (A2 ?_ ?_)⟩
     · simp (disch := omega) only [go_sem]
     · simp (disch := omega) only [hS, hK, htm, Ax, G6, go_sem];rfl
   · have hS := Rb h0;have hK := Rc (l := s.objs) h0;simp (disch := omega) only [hsp, hS, hK, Jy, hol, Ax, G6, hkl, go_sem];have hS' := Rb (k := k + 1) (by omega);have hK' := Rc (l := s.objs) (k := k + 1) (by omega);refine ⟨k + 1, by omega, by omega, Ks 27 40 (by decide) rfl (A2 ?_ ?_)⟩
     · simp (disch := omega) only [go_sem]
     · simp (disch := omega) only [hS', hK', htm, Ax, G6, go_sem]
 · obtain rfl : k = s.objs.length := by omega
   by_cases h0 : s.objs = []
   · have e : s.objs.length = 0 := by rw [h0]; rfl
     simp (disch := omega) only [Arh, Ax, e, W0, W2, G6, go_sem];have hi : Imp (.agg (Ax s (.pv (.sl true 0 [])) (.os 9))) (.agg (Ax s (oS s) (.os 9))) := by
      have ho : oS s = .pv (.sl false 15 []) := by unfold oS; rw [h0]; rfl
      rw [ho];exact Ub (l := [.vec 8 (vE s.known), .pv (.sl true 0 []), .os 9, .vec 8 (iE s.wards), .vec 8 (wE s.ret)]) (m := [.vec 8 (vE s.known), .pv (.sl false 15 []), .os 9, .vec 8 (iE s.wards), .vec 8 (wE s.ret)]) ⟨⟨Imp.refl _, rfl⟩, ⟨Ua (Hc (fun q => by cases q) (.inl rfl) (.refl _)), rfl⟩, ⟨Imp.refl _, rfl⟩, ⟨Imp.refl _, rfl⟩, ⟨Imp.refl _, rfl⟩, trivial⟩
     refine ⟨mk [(2, .p 2 0)] [(2, some (.var (.agg (Ax s (oS s) (.os 9))))), (9, some (.row 15 (s.ents.map Bb)))], A2 ?_ ?_, ?_⟩
     · simp (disch := omega) only [go_sem]
     · simp (disch := omega) only [go_sem];exact ⟨hi, rfl⟩
     (try simp only [D9, D8, D7, D6, D5, D4, D3, D2]); simp (disch := omega) only [Ax, oS, go_sem]
     exact ⟨9, rfl, rfl⟩
   · have e : s.objs.length ≠ 0 := fun e => h0 (List.eq_nil_of_length_eq_zero e);have hS := Rb e;have hK := Rc (l := s.objs) e;have htk : s.objs.take s.objs.length = s.objs := List.take_length;simp (disch := omega) only [Arh, Ax, hS, hK, G6, go_sem];refine ⟨_, Ij 40 rfl (.same _), ?_⟩
     (try simp only [D9, D8, D7, D6, D5, D4, D3, D2]); simp (disch := omega) only [Ax, oS, htk, go_sem]
     exact ⟨9, rfl, rfl⟩
theorem Al2 {S : St} {fl : Vc} {L : List Evt} (hS : Fine S) {h d} : FunOk Try.prog 19 [Lc S fl L] h d (.agg (Ax S (oS S) (.os d))) [.new d (.row 15 (S.ents.map Bb))] := by
 refine Wn (X := fun n => .agg (Ax S (oS S) (.os n))) Am fn19 (by simp) rfl (fun V V' ρ ρ' n d v hV q hc => Lj (a := [.vec 8 (vE S.known), oS S]) (b := [.vec 8 (iE S.wards), .vec 8 (wE S.ret)]) hV q rfl rfl hc) fun F => ?_;simp (disch := omega) only [ir19, Lc, List.getElem?_cons_zero, Ank, go_sem];refine Aa (FunOk.imp (Ahl (s := S) hS) ⟨Ae9 S, trivial⟩ (by simp [Aw, tn, Nv])) ?_;simp (disch := omega) only [Ax, oS, go_sem];refine B0 ?_;simp (disch := omega) only [go_sem];exact ⟨10, rfl, rfl⟩
end Go.Proofs.Ythmjebkldgdeiaa.Fw
namespace Go.Proofs.Ythmjebkldgdeiaa.Fw
open Go.RowKit Go.Proofs
variable {P : Program} {F : Fr} {N : Nat} {ρ ρ' : Nat → Value} {s : FS} {a : Act} {w w' : World} {V V' : View}
end Go.Proofs.Ythmjebkldgdeiaa.Fw
namespace Go.Proofs.Ythmjebkldgdeiaa.Fw
open Go.RowKit Go.Proofs
theorem Abs {T : List Evt} {e : Evt} (h : Val T) (hc : Gv e = e) : Rk (Ae T) e = Ae (Rl T e) ∧ Vb (Ae T) T e = Rl T e := by
 unfold Rl Rk Vb;by_cases hw : Fu (Ae T) e = 0
 · rw [if_pos hw, if_pos hw, if_pos hw, Uz h (Mi.1 hw), hc]; exact ⟨rfl, rfl⟩
 · rw [if_neg hw, if_neg hw, if_neg hw]; exact ⟨rfl, rfl⟩
noncomputable def Aku (l : List Evt) (more : Evt) (k : Nat) : FS := mk [(39, .pv (.i .i64 k)), (38, .pv (.i .i64 l.length)), (37, .pv (.sl false 21 (l.map Bp))), (5, .p 36 0), (6, .pv (.i .i64 (Hw (l.take k)).length)), (3, .p 3 0), (4, .p 4 0)] [(3, some (.var (.vec 21 (Bp more)))), (4, some (.var (.pv (.b false)))), (36, some (.var (Oz (Ae (Hw (l.take k))) (fun _ => 0) (Hw (l.take k)))))]
noncomputable def Akt (l0 : Nat) (T : List Evt) (S1 : St) (f1 : Vc) (L1 : List Evt) (C : SV) (j : Nat) : FS := mk [(8, .pv (.i .i64 j)), (7, .pv (.i .i64 T.length)), (6, .pv (.sl true 21 (T.map Bp))), (0, .fn (.yield l0) []), (2, .pi 8 [vE fun _ => 0] 0 0), (1000000, .pv (.i .i64 0)), (1000005, .p 4 0), (1000006, Lc S1 f1 L1), (1000007, .pv (.i .i64 T.length)), (1000010, C), (1000012, .p 11 0), (1000013, .p 12 0)] [(4, some (.var (.pv (.b false)))), (11, some (.var (.agg (A8 (Ae T))))), (12, some (.var (.pv (.i .i64 j))))]
theorem Avv (r : Int) (q : Nat) : Bn (fun _ => 0) r q = false := by
 unfold Bn Ng; simp; omega
theorem Ays {e : Evt} (h : Bt e = true) : ∀ id ∈ e.gone.l ++ e.base.l, id ≠ (0, 0) := by
 have no : ∀ id : Bg, Bn e.dep id.1 id.2 = true → id ≠ (0, 0) := fun id q hid => by
  subst hid; unfold Bn at q; simp at q
 have hz := (Lk h).2;have hk := Cr h;obtain ⟨_, _, _, _, _, k1, k9⟩ := hk;have hkk : e.kind = 1 ∨ e.kind = 2 ∨ e.kind = 3 ∨ e.kind = 4 ∨ e.kind = 5 ∨ e.kind = 6 ∨ e.kind = 7 ∨ e.kind = 8 ∨ e.kind = 9 := by omega
 intro id hid;rcases hkk with k | k | k | k | k | k | k | k | k
 ·
  rw [Av1 k] at hz; simp only [Cu, Bool.and_eq_true, Bool.or_eq_true, decide_eq_true_eq, Bool.false_eq_true, false_or, true_or, true_and] at hz;rw [List.length_eq_zero_iff.1 (show e.gone.l.length = 0 by omega), List.length_eq_zero_iff.1 (show e.base.l.length = 0 by omega)] at hid;cases hid
 ·
  rw [A04 k] at hz; simp only [Cu, Bool.and_eq_true, Bool.or_eq_true, decide_eq_true_eq, Bool.false_eq_true, false_or, true_or, true_and] at hz;rw [List.length_eq_zero_iff.1 (show e.gone.l.length = 0 by omega), List.length_eq_zero_iff.1 (show e.base.l.length = 0 by omega)] at hid;cases hid
 ·
  rw [A5y k] at hz; simp only [Cu, Bool.and_eq_true, Bool.or_eq_true, decide_eq_true_eq, Bool.false_eq_true, false_or, true_or, true_and] at hz;rw [List.length_eq_zero_iff.1 (show e.gone.l.length = 0 by omega)] at hid;exact no id (Ll h (by omega) id (by simpa using hid))
 ·
  rw [A03 k] at hz; simp only [Cu, Bool.and_eq_true, Bool.or_eq_true, decide_eq_true_eq, Bool.false_eq_true, false_or, true_or, true_and] at hz;rw [List.length_eq_zero_iff.1 (show e.gone.l.length = 0 by omega)] at hid;exact no id (Ll h (by omega) id (by simpa using hid))
 ·
  rw [A5x k] at hz; simp only [Cu, Bool.and_eq_true, Bool.or_eq_true, decide_eq_true_eq, Bool.false_eq_true, false_or, true_or, true_and] at hz;rw [List.length_eq_zero_iff.1 (show e.gone.l.length = 0 by omega)] at hid;exact no id (Ll h (by omega) id (by simpa using hid))
 ·
  rw [A5w k] at hz; simp only [Cu, Bool.and_eq_true, Bool.or_eq_true, decide_eq_true_eq, Bool.false_eq_true, false_or, true_or, true_and] at hz;rw [List.length_eq_zero_iff.1 (show e.base.l.length = 0 by omega), List.append_nil] at hid;exact no id (Ka h (by omega) id hid)
 ·
  rw [A5v k] at hz; simp only [Cu, Bool.and_eq_true, Bool.or_eq_true, decide_eq_true_eq, Bool.false_eq_true, false_or, true_or, true_and] at hz;rw [List.length_eq_zero_iff.1 (show e.base.l.length = 0 by omega), List.append_nil] at hid;exact no id (Ka h (by omega) id hid)
 ·
  rw [A02 k] at hz; simp only [Cu, Bool.and_eq_true, Bool.or_eq_true, decide_eq_true_eq, Bool.false_eq_true, false_or, true_or, true_and] at hz;rw [List.length_eq_zero_iff.1 (show e.gone.l.length = 0 by omega), List.length_eq_zero_iff.1 (show e.base.l.length = 0 by omega)] at hid;cases hid
 ·
  rw [A01 k] at hz; simp only [Cu, Bool.and_eq_true, Bool.or_eq_true, decide_eq_true_eq, Bool.false_eq_true, false_or, true_or, true_and] at hz;rw [List.length_eq_zero_iff.1 (show e.gone.l.length = 0 by omega), List.length_eq_zero_iff.1 (show e.base.l.length = 0 by omega)] at hid;cases hid
def tmO (l0 : Nat) (T : List Evt) (S1 : St) (f1 : Vc) (L1 : List Evt) (C : SV) (j : Nat) : List (Nat × SV) := [(4, .p 4 0), (5, Lc S1 f1 L1), (6, .pv (.i .i64 T.length)), (9, C), (11, .p 11 0), (12, .p 12 0), (1000009, .pv (.i .i64 j)), (1000008, .pv (.i .i64 T.length)), (1000007, .pv (.sl true 21 (T.map Bp))), (1000001, .fn (.yield l0) []), (1000003, .pi 8 [vE fun _ => 0] 0 0), (1000018, .pv (.b true)), (2000001, .pv (.i .i64 0)), (2000006, .p 4 0), (2000007, Lc S1 f1 L1), (2000008, .pv (.i .i64 T.length)), (2000011, C), (2000013, .p 11 0), (2000014, .p 12 0)]
noncomputable def Yo (T : List Evt) (k : Nat) : List (Nat × Option Blk) := [(4, some (.var (.pv (.b false)))), (11, some (.var (.agg (A8 (Ae T))))), (12, some (.var (.pv (.i .i64 k))))]
noncomputable def Agu (a b c n : Nat) (l0 : Nat) (T : List Evt) (S1 : St) (f1 : Vc) (L1 : List Evt) (C : SV) (j : Nat) (e : Evt) (G B : List Bg) (len : Nat) (i : Nat) : FS := mk ((a, .pv (.i .i64 i)) :: (b, .pv (.i .i64 len)) :: (c, .os n) :: (13, .p 13 0) :: tmO l0 T S1 f1 L1 C j) ((13, some (.var (.agg (Mk e (.os 1061) (.os 1062))))) :: (1061, some (.row 2 (G.map Ev))) :: (1062, some (.row 2 (B.map Ev))) :: Yo T (j + 1))
noncomputable def Awl (l0 : Nat) (T : List Evt) (S1 : St) (f1 : Vc) (L1 : List Evt) (C : SV) (j : Nat) (ids : List Bg) (i : Nat) : FS := mk ((109, .pv (.i .i64 i)) :: (108, .pv (.i .i64 ids.length)) :: (107, .os 107) :: tmO l0 T S1 f1 L1 C j) ((107, some (.row 2 (ids.map Ev))) :: Yo T T.length)
noncomputable def Aks (l0 : Nat) (T : List Evt) (S1 : St) (f1 : Vc) (L1 : List Evt) (C : SV) (j : Nat) : FS := mk [(8, .pv (.i .i64 j)), (7, .pv (.i .i64 T.length)), (6, .pv (.sl true 21 (T.map Bp))), (0, .fn (.yield l0) []), (2, .pi 8 [vE fun _ => 0] 0 0), (1000000, .pv (.i .i64 0)), (1000005, .p 4 0), (1000006, Lc S1 f1 L1), (1000007, .pv (.i .i64 T.length)), (1000010, C), (1000012, .p 11 0), (1000013, .p 12 0)] (Yo T T.length)
def Awk (T : List Evt) (S1 : St) (f1 : Vc) (L1 : List Evt) (keep : SV) (E : List Ent) (i : Nat) : FS := mk [(122, .pv (.i .i64 i)), (121, .pv (.i .i64 E.length)), (120, .os 118), (4, .p 4 0), (5, Lc S1 f1 L1), (6, .pv (.i .i64 T.length)), (11, .p 11 0), (12, .p 12 0), (19, .p 19 0)] [(4, some (.var (.pv (.b false)))), (11, some (.var keep)), (12, some (.var (.pv (.i .i64 T.length)))), (19, some (.var (.agg (Ax S1 (oS S1) (.os 118))))), (118, some (.row 15 (E.map Bb)))]
theorem Ak3 (a b : Bg) : splice (Ev a) 0 [.i .i64 0, .i .u32 0] = Ev (0, 0) := by simp [splice, Ev]
theorem Ak2 (x : Ent) (b : List UInt8) : splice (Bb x) 4 [.s b] = Bb { x with name := b } := by simp [splice, Bb, Ai1]
theorem Af8 {l : List Bg} {i : Nat} (h : i < l.length) : ∃ u, (l.map Ev).getD i [] = Ev u := ⟨l[i], by rw [List.getD_eq_getElem?_getD, List.getElem?_map, List.getElem?_eq_getElem h]; rfl⟩
theorem Aog {l : List Ent} {i : Nat} (h : i < l.length) : ∃ u, (l.map Bb).getD i [] = Bb u := ⟨l[i], by rw [List.getD_eq_getElem?_getD, List.getElem?_map, List.getElem?_eq_getElem h]; rfl⟩
theorem A08 {a b : Vc} (h : vE a = vE b) : vLe a b := fun i hi => by
 have h1 : (vE a)[i]? = (vE b)[i]? := by rw [h]
 unfold vE at h1;rw [E4 hi, E4 hi] at h1;simp at h1; omega
set_option maxHeartbeats 16000000 in
theorem As9 {l : List Evt} {more : Evt} (hl : ∀ e ∈ l, EvRaw e ∧ Gv e = e) (hm : EvRaw more ∧ Gv more = more) {h d} :
 FunOk Try.prog 5 [.pv (.sl false 21 (l.map Bp)), .vec 21 (Bp more)] h d (.pv (.b true)) [] := by
 refine A5 Am fn5 (by simp) rfl rfl fun F => ?_;have hml := Be more;simp (disch := omega) only [ir5, go_sem];refine Aa P1 ?_;simp (disch := omega) only [go_sem];refine Aa (Aae (l := l) rfl rfl) ?_;by_cases hf' : Abz l;rotate_left
 · have hf := Sd hf';simp (disch := omega) only [hf, go_sem];refine Aa P1 ?_;simp (disch := omega) only [go_sem]
 have hf := Ys hf';simp (disch := omega) only [hf, hml, go_sem];refine Aa (Aae (l := [more]) (x := .os 30) rfl rfl) ?_;by_cases hg' : Abz [more];rotate_left
 · have hg := Sd hg';simp (disch := omega) only [hg, go_sem];refine Aa P1 ?_;simp (disch := omega) only [go_sem]
 have hg := Ys hg';have hin : ∀ e ∈ l, EvIn e := fun x hx => Alu (hl x hx).1 (hf'.2 x hx);have him : EvIn more := Alu hm.1 (hg'.2 more (by simp));have hl25 := hf'.1;simp (disch := omega) only [hg, go_sem];refine Aa (FunOk.imp (Z7 (S := Ae []) Aot) ⟨Te, trivial⟩ (by simp [Aw, tn, Nv])) ?_;simp (disch := omega) only [Ann, List.length_map, go_sem];refine Bd Am (Aku l more) (fun k => k ≤ l.length) (fun k => l.length - k) 0 (by simp) (A2 ?_ ?_) fun k hk => ?_
 · simp (disch := omega) only [Hw, List.take_zero, List.foldl_nil, List.length_nil, go_sem]
 · simp (disch := omega) only [Hw, List.take_zero, List.foldl_nil, go_sem]
 by_cases hlt : k < l.length
 · have hx : l[k]? = some l[k] := List.getElem?_eq_getElem hlt;have he : (l.map Bp)[k]? = some (Bp l[k]) := by rw [List.getElem?_map, hx]; rfl
   have ht := Iy hx;have hmem := List.getElem_mem hlt;have hek := hin _ hmem;have hcan := (hl _ hmem).2;have htk := S0 (l.take k) l[k];rw [← ht] at htk;obtain ⟨ta, la, _⟩ := Zm (l.take k) fun e he => (hin e (List.mem_of_mem_take he)).ev;have lk := List.length_take_le k l;generalize l[k] = e at *;have hel := Be e;generalize hTA : Hw (l.take k) = TA at *;obtain ⟨q1, q2⟩ := Abs (e := e) ta hcan;simp (disch := omega) only [Aku, hTA, List.length_map, he, B9, hel, go_sem];refine Aa (Adb (S := Ae TA) (L := TA) (Po ta (by omega)) hek.ev (by omega) rfl) ?_;rw [q1, q2];by_cases hw : Fu (Ae TA) e = 0
   · have e1 : Rl TA e = TA ++ [e] := if_pos hw;rw [e1] at htk;simp (disch := omega) only [hw, e1, go_sem];refine Au (k + 1) _ _ rfl (by omega) (by omega) ?_ ?_
     · simp (disch := omega) only [htk, List.length_append, List.length_singleton, go_sem]
     · simp (disch := omega) only [htk, go_sem]
   · have e1 : Rl TA e = TA := if_neg hw;rw [e1] at htk;simp (disch := omega) only [hw, e1, go_sem];refine Au (k + 1) _ _ rfl (by omega) (by omega) ?_ ?_
     · simp (disch := omega) only [htk, go_sem]
     · simp (disch := omega) only [htk, go_sem]
 obtain rfl : k = l.length := by omega
 have htl : l.take l.length = l := List.take_length;obtain ⟨ta, la, ma⟩ := Zm l fun e he => (hin e he).ev;have hcT : ∀ e ∈ Hw l, ev e ∧ Gv e = e := fun e he => ⟨(hin e (ma e he)).ev, (hl e (ma e he)).2⟩
 simp (disch := omega) only [Aku, List.length_map, htl, go_sem];generalize Hw l = T at *;have hkT : (Ae T).known = C2 T := Dg T;have hfT := (Po ta (show T.length ≤ 400 by omega)).fine;refine Aa (FunOk.imp (Z8 (S := Ae T) (L := T) (fun _ => 0) (fun i _ => Nat.le_refl _) rfl) ⟨Imp.refl _, Anx, trivial⟩ (by simp [Aw, tn])) ?_;simp (disch := omega) only [Fs, go_sem];refine Aa (Al3 (S := Ae T) (L := T) hfT rfl) ?_;simp (disch := omega) only [A8, Ax, go_sem];refine Aa (Adb (S := Ae T) (L := T) (Po ta (by omega)) him.ev (by omega) rfl) ?_;obtain ⟨q1, q2⟩ := Abs (e := more) ta hm.2;rw [q1, q2];obtain ⟨tv, tl⟩ := Aq6 ta him.ev;generalize hT' : Rl T more = T' at *;simp (disch := omega) only [go_sem];refine Aa (Aaa (S := Ae T') (L := T') rfl) ?_;simp (disch := omega) only [go_sem];refine Aa (Asa (S := Ae T') (L := T') (Ae T').known (by omega) rfl) ?_;generalize Zi (Ae T') (fun _ => 0) (Ae T').known = f1 at *;generalize Zh (Ae T') (fun _ => 0) (Ae T').known T' = L1 at *;simp (disch := omega) only [go_sem];refine Acw Am fn33 (by simp) fun l0 XI hc => ?_;rw [Up _ _ _ (by show 3 ≤ 1000000; omega)];simp (disch := omega) only [ir33, List.getElem?_cons_zero, Adm, List.length_map, go_sem];refine Bd Am (Akt l0 T (Ae T') f1 L1 (Fs 33 (fun _ => 0) T)) (fun k => k ≤ T.length) (fun k => T.length - k) 0 (by simp) (Xh 36 (x := Oz (Ae T') f1 L1) (cs := hiC (Ae T') f1 L1) rfl rfl (A2 ?_ ?_)) fun j hj => ?_
 · simp (disch := omega) only [Lc, Fs, go_sem]
 · simp (disch := omega) only [A8, Ax, go_sem]
 by_cases hlt2 : j < T.length
 · have hx : T[j]? = some T[j] := List.getElem?_eq_getElem hlt2;have he : (T.map Bp)[j]? = some (Bp T[j]) := by rw [List.getElem?_map, hx]; rfl
   obtain ⟨hev, hce⟩ := hcT _ (List.getElem_mem hlt2);have hh0 := Avv T[j].rep T[j].seq;have hgl1 := hev.2.2.1;have hgl2 := hev.2.2.2.1;generalize T[j] = e at *;have hel := Be e;simp (disch := omega) only [Akt, Lc, Fs, A8, Ax, List.length_map, he, B9, hel, List.getElem?_cons_zero, E0, Ch, go_sem];refine Aa (E6 _ _ _) ?_;simp (disch := omega) only [hh0, B9, hel, go_sem];refine Aa (Ami e hev) ?_;simp (disch := omega) only [Mk, Ki, Kh, List.cons_append, List.nil_append, go_sem];refine Ab1 Am hc ?_ rfl fun XA XB => ?_
   · simp (disch := omega) only [go_sem]
   rw [Tj _ _ _ _ (Axj 72 (by decide))];simp (disch := omega) only [go_sem];refine Bd Am (fun p : Nat × List Bg => Agu 78 77 76 1061 l0 T (Ae T') f1 L1 (Fs 33 (fun _ => 0) T) j e p.2 e.base.l e.gone.l.length p.1) (fun p => p.1 ≤ e.gone.l.length ∧ p.2.length = e.gone.l.length) (fun p => e.gone.l.length - p.1) (0, e.gone.l) ⟨Nat.zero_le _, rfl⟩ (A2 ?_ ?_) fun p hp => ?_
   · (try simp only [D9, D8, D7, D6, D5, D4, D3, D2]); simp (disch := omega) only [tmO, Lc, Fs, go_sem]
   · (try simp only [D9, D8, D7, D6, D5, D4, D3, D2]); simp (disch := omega) only [Yo, A8, Ax, Mk, Ki, Kh, List.cons_append, List.nil_append, go_sem]
   obtain ⟨i, G⟩ := p;obtain ⟨p1, p2⟩ := hp;simp only at p1 p2;by_cases hi : i < e.gone.l.length
   · obtain ⟨u, hgd⟩ := Af8 (l := G) (i := i) (by omega);have hsp := Ak3 u u
     (try simp only [D9, D8, D7, D6, D5, D4, D3, D2]); simp (disch := omega) only [Agu, tmO, Yo, Lc, Fs, A8, Ax, Mk, Ki, Kh, List.cons_append, List.nil_append, List.length_map, p2, hgd, hsp, go_sem]
     refine Au (x := (i, G)) (i + 1, G.set i (0, 0)) _ _ rfl ⟨by show i + 1 ≤ _; omega, by show (G.set _ _).length = _; rw [List.length_set]; exact p2⟩ (by show e.gone.l.length - (i + 1) < e.gone.l.length - i; omega) ?_ ?_
     · (try simp only [D9, D8, D7, D6, D5, D4, D3, D2]); simp (disch := omega) only [tmO, Lc, Fs, go_sem]
     · (try simp only [D9, D8, D7, D6, D5, D4, D3, D2]); simp (disch := omega) only [Yo, A8, Ax, Mk, Ki, Kh, List.cons_append, List.nil_append, List.map_set, go_sem]
   obtain rfl : i = e.gone.l.length := by omega
   (try simp only [D9, D8, D7, D6, D5, D4, D3, D2]); simp (disch := omega) only [Agu, tmO, Yo, Lc, Fs, A8, Ax, Mk, Ki, Kh, List.cons_append, List.nil_append, List.length_map, p2, go_sem]
   refine Bd Am (fun p : Nat × List Bg => Agu 90 89 88 1062 l0 T (Ae T') f1 L1 (Fs 33 (fun _ => 0) T) j e G p.2 e.base.l.length p.1) (fun p => p.1 ≤ e.base.l.length ∧ p.2.length = e.base.l.length) (fun p => e.base.l.length - p.1) (0, e.base.l) ⟨Nat.zero_le _, rfl⟩ (A2 ?_ ?_) fun p hp => ?_
   · (try simp only [D9, D8, D7, D6, D5, D4, D3, D2]); simp (disch := omega) only [tmO, Lc, Fs, go_sem]
   · (try simp only [D9, D8, D7, D6, D5, D4, D3, D2]); simp (disch := omega) only [Yo, A8, Ax, Mk, Ki, Kh, List.cons_append, List.nil_append, go_sem]
   obtain ⟨i, M⟩ := p;obtain ⟨r1, r2⟩ := hp;simp only at r1 r2;by_cases hi : i < e.base.l.length
   · obtain ⟨u, hgd⟩ := Af8 (l := M) (i := i) (by omega);have hsp := Ak3 u u
     (try simp only [D9, D8, D7, D6, D5, D4, D3, D2]); simp (disch := omega) only [Agu, tmO, Yo, Lc, Fs, A8, Ax, Mk, Ki, Kh, List.cons_append, List.nil_append, List.length_map, r2, hgd, hsp, go_sem]
     refine Au (x := (i, M)) (i + 1, M.set i (0, 0)) _ _ rfl ⟨by show i + 1 ≤ _; omega, by show (M.set _ _).length = _; rw [List.length_set]; exact r2⟩ (by show e.base.l.length - (i + 1) < e.base.l.length - i; omega) ?_ ?_
     · (try simp only [D9, D8, D7, D6, D5, D4, D3, D2]); simp (disch := omega) only [tmO, Lc, Fs, go_sem]
     · (try simp only [D9, D8, D7, D6, D5, D4, D3, D2]); simp (disch := omega) only [Yo, A8, Ax, Mk, Ki, Kh, List.cons_append, List.nil_append, List.map_set, go_sem]
   obtain rfl : i = e.base.l.length := by omega
   (try simp only [D9, D8, D7, D6, D5, D4, D3, D2]); simp (disch := omega) only [Agu, tmO, Yo, Lc, Fs, A8, Ax, Mk, Ki, Kh, List.cons_append, List.nil_append, List.length_map, r2, go_sem]
   refine Au (j + 1) _ _ rfl (by omega) (by omega) ?_ ?_
   · simp (disch := omega) only [Lc, Fs, go_sem]
   · simp (disch := omega) only [A8, Ax, go_sem]
 obtain rfl : j = T.length := by omega
 simp (disch := omega) only [Akt, Lc, Fs, A8, Ax, List.length_map, go_sem];refine Acw Am fn33 (by simp) fun l1 XI hc => ?_;rw [Up _ _ _ (by show 3 ≤ 1000000; omega)];simp (disch := omega) only [ir33, List.getElem?_cons_zero, Adm, List.length_map, go_sem];refine Bd Am (Aks l1 T (Ae T') f1 L1 (Fs 33 (fun _ => 0) T)) (fun k => k ≤ T.length) (fun k => T.length - k) 0 (by simp) (A2 ?_ ?_) fun j hj => ?_
 · simp (disch := omega) only [Lc, Fs, go_sem]
 · simp (disch := omega) only [Yo, A8, Ax, go_sem]
 by_cases hlt2 : j < T.length
 · have hx : T[j]? = some T[j] := List.getElem?_eq_getElem hlt2;have he : (T.map Bp)[j]? = some (Bp T[j]) := by rw [List.getElem?_map, hx]; rfl
   obtain ⟨hev, hce⟩ := hcT _ (List.getElem_mem hlt2);have hh0 := Avv T[j].rep T[j].seq;obtain ⟨_, _, _, _, _, hac⟩ := ta.mem (List.getElem_mem hlt2);have hid := Ays hac.ck;have hgl1 := hev.2.2.1;have hgl2 := hev.2.2.2.1;generalize T[j] = e at *;have hel := Be e;have hgp : e.gone.pv = .sl e.gone.f e.gone.z (e.gone.l.map Ev) := rfl;have hbp : e.base.pv = .sl e.base.f e.base.z (e.base.l.map Ev) := rfl;have hg1 : e.gone.l.map Ev = [] ∨ e.gone.z = 2 := hev.1.imp (fun q => by rw [q]; rfl) id;have hb1 : e.base.l.map Ev = [] ∨ e.base.z = 2 := hev.2.1.imp (fun q => by rw [q]; rfl) id;simp (disch := omega) only [Aks, Yo, Lc, Fs, A8, Ax, List.length_map, he, B9, hel, List.getElem?_cons_zero, E0, Ch, go_sem];refine Aa (E6 _ _ _) ?_;simp (disch := omega) only [hh0, B9, hel, go_sem];refine Aa (P3 e hev) ?_;rw [hce];simp (disch := omega) only [go_sem];refine Ab1 Am hc ?_ rfl fun XA XB => ?_
   · simp (disch := omega) only [go_sem]
   rw [Tj _ _ _ _ (Axj 100 (by decide))];simp (disch := omega) only [B9, hel, go_sem];refine U7 ?_;simp (disch := omega) only [H9, Gh, hgp, hbp, hg1, hb1, List.nil_append, List.length_map, List.length_append, go_sem];refine Bd Am (Awl l1 T (Ae T') f1 L1 (Fs 33 (fun _ => 0) T) j (e.gone.l ++ e.base.l)) (fun i => i ≤ (e.gone.l ++ e.base.l).length) (fun i => (e.gone.l ++ e.base.l).length - i) 0 (Nat.zero_le _) (A2 ?_ ?_) fun i hi0 => ?_
   · simp (disch := omega) only [tmO, Lc, Fs, List.length_append, go_sem]
   · simp (disch := omega) only [Yo, A8, Ax, List.map_append, go_sem]
   have hil : (e.gone.l ++ e.base.l).length ≤ 2000 := by rw [List.length_append]; omega
   generalize e.gone.l ++ e.base.l = ids at *;by_cases hi : i < ids.length
   · have hxi : ids[i]? = some ids[i] := List.getElem?_eq_getElem hi;have hei : (ids.map Ev)[i]? = some (Ev ids[i]) := by rw [List.getElem?_map, hxi]; rfl
     have hne := hid _ (List.getElem_mem hi);generalize ids[i] = id at *;have hp : Rz [.i .i64 id.1, .i .u32 id.2] [.i .i64 0, .i .u32 0] = false := Xy (b := ((0 : Int), (0 : Nat))) hne;have hlen2 : (Ev id).length = 2 := rfl;simp (disch := omega) only [Awl, tmO, Yo, Lc, Fs, A8, Ax, List.length_map, hei, Im, hlen2, Ao, O5, Ah, hp, go_sem];refine Au (i + 1) _ _ rfl (by omega) (by omega) ?_ ?_
     · simp (disch := omega) only [tmO, Lc, Fs, go_sem]
     · simp (disch := omega) only [Yo, A8, Ax, go_sem]
   obtain rfl : i = ids.length := by omega
   simp (disch := omega) only [Awl, tmO, Yo, Lc, Fs, A8, Ax, List.length_map, go_sem];refine Au (j + 1) _ _ rfl (by omega) (by omega) ?_ ?_
   · simp (disch := omega) only [Lc, Fs, go_sem]
   · simp (disch := omega) only [Yo, A8, Ax, go_sem]
 obtain rfl : j = T.length := by omega
 have hfT' := (Po tv (show T'.length ≤ 400 by omega)).fine;simp (disch := omega) only [Aks, Yo, Lc, Fs, A8, Ax, List.length_map, go_sem];refine Aa (Al2 (S := Ae T') (fl := f1) (L := L1) hfT') ?_;simp (disch := omega) only [Ax, oS, List.length_map, go_sem];have hen := hfT'.en;refine Bd Am (fun p : Nat × List Ent => Awk T (Ae T') f1 L1 (.agg (A8 (Ae T))) p.2 p.1) (fun p => p.1 ≤ (Ae T').ents.length ∧ p.2.length = (Ae T').ents.length) (fun p => (Ae T').ents.length - p.1) (0, (Ae T').ents) ⟨Nat.zero_le _, rfl⟩ (A2 ?_ ?_) fun p hp => ?_
 · (try simp only [D9, D8, D7, D6, D5, D4, D3, D2]); simp (disch := omega) only [Lc, go_sem]
 · (try simp only [D9, D8, D7, D6, D5, D4, D3, D2]); simp (disch := omega) only [A8, Ax, oS, go_sem]
 obtain ⟨i, E⟩ := p;obtain ⟨p1, p2⟩ := hp;simp only at p1 p2;by_cases hi : i < (Ae T').ents.length
 · obtain ⟨u, hgd⟩ := Aog (l := E) (i := i) (by omega);have hsp := Ak2 u [63]
   (try simp only [D9, D8, D7, D6, D5, D4, D3, D2]); simp (disch := omega) only [Awk, Lc, A8, Ax, oS, List.length_map, p2, hgd, hsp, go_sem]
   refine Au (x := (i, E)) (i + 1, E.set i { u with name := [63] }) _ _ rfl ⟨by show i + 1 ≤ _; omega, by show (E.set _ _).length = _; rw [List.length_set]; exact p2⟩ (by show (Ae T').ents.length - (i + 1) < (Ae T').ents.length - i; omega) ?_ ?_
   · (try simp only [D9, D8, D7, D6, D5, D4, D3, D2]); simp (disch := omega) only [Lc, List.length_set, p2, go_sem]
   · (try simp only [D9, D8, D7, D6, D5, D4, D3, D2]); simp (disch := omega) only [A8, Ax, oS, List.map_set, go_sem]
 obtain rfl : i = (Ae T').ents.length := by omega
 have c4 := Uj (Ae T').known;have c5 := Uj (Ae T).known
 (try simp only [D9, D8, D7, D6, D5, D4, D3, D2]); simp (disch := omega) only [Awk, Lc, A8, Ax, oS, List.length_map, p2, go_sem]
 refine Aa (Al6 (S := Ae T') (fl := f1) (L := L1)) ?_;by_cases hw : Fu (Ae T) more = 0
 · have hac := Mi.1 hw;have eT : T' = T ++ [more] := by rw [← hT']; exact if_pos hw
   have hk1 : Bn (C2 T') (Ar more).1 (Ar more).2 = true := tv.has.2 ⟨more, by rw [eT]; simp, rfl⟩;have hk2 : Bn (C2 T) (Ar more).1 (Ar more).2 = false := by rw [← hkT]; exact hac.new
   have hpf : Rz (vE (Ae T').known) (vE (Ae T).known) = false := by
    unfold Rz;rw [decide_eq_false_iff_not];intro q;have hv := A08 q;rw [Dg, hkT] at hv;have := Aa3 (i := Ar more) hv hk1;rw [this] at hk2; cases hk2
   simp (disch := omega) only [c4, c5, hpf, go_sem]
 · have eT : T' = T := by rw [← hT']; exact if_neg hw
   subst eT;have hpq := Fh (vE (Ae T').known);simp (disch := omega) only [c4, c5, hpq, go_sem];refine Aa (Al1 (S := Ae T') (fl := f1) (L := L1) hfT') ?_;simp (disch := omega) only [A8, Ax, go_sem];refine Aa (Al5 (s := Ae T') hfT') ?_;simp (disch := omega) only [go_sem]
theorem Rs {c0 c1 : List PV} (g0 : GC (.sl V2) c0) (g1 : GC V2 c1) {h d} :
 FunOk Try.prog 5 [Hv (.sl V2) c0, Hv V2 c1] h d (.pv (.b true)) [] := by
 obtain ⟨es, rfl, _, g⟩ := Aqr g0;have key : ∀ {cs}, GC V2 cs → ∃ e : Evt, cs = Bp e ∧ (EvRaw e ∧ Gv e = e) := fun {cs} hc => by
  obtain ⟨e, h1, h2, h3, h4⟩ := Avh hc;refine ⟨e, h1, ⟨h2, by rw [h3]; exact .inr rfl, by rw [h4]; exact .inr rfl⟩, ?_⟩;unfold Gv;rw [← h3, ← h4]
 obtain ⟨l, rfl, hl⟩ := Yx (f := Bp) (p := fun e => EvRaw e ∧ Gv e = e) key g;obtain ⟨m, rfl, hm⟩ := key g1;exact (As9 hl hm).imp ⟨Imp.refl _, Ow (cs := Bp m) rfl (Be _), trivial⟩ (by simp [Aw, tn])
end Go.Proofs.Ythmjebkldgdeiaa.Fw
