/- What the functions compute that the laws of this seat Zk. -/
import Derived.Test.YthiamojjhdcegaaGreatWalk2
import Derived.OpenShut
import Derived.ShutString
import Derived.ChangeOld
import Derived.SizedLaws
import Derived.ChangeOld
import Derived.Lib.Bytealg
import Derived.Lib.Overlaps
import Derived.OpenShut
import Derived.ShutString
import Derived.SizedLaws
set_option linter.unusedVariables false
set_option linter.unusedSimpArgs false
set_option linter.unusedSectionVars false
set_option maxRecDepth 100000
namespace Go.Proofs.YthiamojjhdcegaaGreat.Fw
variable [Th]
open Go.RowKit Go.Proofs
theorem Ok {l : List Evt} {e : Evt} (h : Val l) (ha : Acc (A8 l) e) : NodE (l ++ [e]) := by
 unfold NodE;rw [List.map_append, List.nodup_append];refine ⟨h.nod, by simp, fun a hm b hb q => ?_⟩;obtain ⟨f, hf, rfl⟩ := List.mem_map.1 hm;simp at hb;exact Gr h ha f hf (by rw [q, hb])
theorem Aae {l : List Evt} (hn : NodE l) {e : Evt} (he : e ∈ l) : Ip l (Aj e) = some e := by
 unfold Ip
 induction l with
 | nil => cases he
 | cons f l ih =>
   unfold NodE at hn;rw [List.map_cons, List.nodup_cons] at hn;rw [List.find?_cons];rcases List.mem_cons.1 he with rfl | he
   · simp
   · have : Aj f ≠ Aj e := fun q => hn.1 (q ▸ List.mem_map_of_mem he);rw [decide_eq_false this];exact ih hn.2 he
theorem Aoo {l : List Evt} {i : Bo} (t : List Evt) (h : ∃ f ∈ l, Aj f = i) : Ip (l ++ t) i = Ip l i := by
 obtain ⟨f, hf, hi⟩ := h;unfold Ip;rw [List.find?_append];cases hq : List.find? (fun e => decide (Aj e = i)) l with
 | some x => rfl
 | none => exact absurd hi (by simpa using List.find?_eq_none.1 hq f hf)
theorem S7 (l : List Evt) (e : Evt) : ∀ m : List Evt, (C6 l m e).vers = Cv l (Aj e) l :=
 Wm rfl fun m f ih => by
  rw [Jh];unfold D5;split
  · split
    · split <;> exact ih
    · split <;> exact ih
  · exact ih
theorem Ra {l : List Evt} (hn : NodE l) : El (A8 l).objs ∧ (A8 l).objs.length ≤ l.length ∧ ∀ o, o ∈ (A8 l).objs ↔ ∃ e ∈ l, (e.kind = 1 ∨ e.kind = 2) ∧ o = C6 l l e := R7 l.length l rfl hn
theorem Ahu {l : List Obj} {i : Bo} {o : Obj} (h : E9 l i = some o) : o ∈ l ∧ o.id = i := ⟨List.mem_of_getElem? (Gv h).1, (Gv h).2⟩
theorem R8 {l : List Evt} {e : Evt} (h : Val l) (ha : Acc (A8 l) e) (hk : e.kind = 3 ∨ e.kind = 4 ∨ e.kind = 5 ∨ e.kind = 6 ∨ e.kind = 7) : ∃ f ∈ l, (f.kind = 1 ∨ f.kind = 2) ∧ Aj f = Ax e ∧ E9 (A8 l).objs (Ax e) = some (C6 l l f) ∧ (Pv e = true → (C6 l l f).dir = false ∧ ¬ C7 (Cv l (Ax e) l) e.base.l) := by
 have hw := ha.why;unfold Qv at hw;rw [if_neg (by omega), if_neg (by omega)] at hw;cases ho : E9 (A8 l).objs (Ax e) with
 | none => rw [ho] at hw; cases hw
 | some o =>
   rw [ho] at hw;obtain ⟨h1, h2⟩ := Ahu ho;obtain ⟨f, hf, hk12, rfl⟩ := ((Ra h.nod).2.2 o).1 h1;have h2' : Aj f = Ax e := by rw [← I9 l f l]; exact h2
   refine ⟨f, hf, hk12, h2', rfl, fun hwr => ?_⟩;have hk3 := of_decide_eq_true hwr;simp only at hw;rw [if_neg (by omega), if_neg (by omega)] at hw;split at hw
   · cases hw
   · split at hw
     · cases hw
     · rename_i hd hm;rw [S7, h2'] at hm;exact ⟨by simpa using hd, hm⟩
theorem J6 {l : List Evt} {e : Evt} (h : Val l) (ha : Acc (A8 l) e) (hw : Pv e = true) : ∀ b ∈ e.base.l, ∃ v, Bt (Cv l (Ax e) l) b.1 b.2 = some v ∧ ∃ g ∈ l, Pv g = true ∧ Ax g = Ax e ∧ Aj g = b ∧ v = Gu l l g := fun b hb => by
 have hk3 := of_decide_eq_true hw;obtain ⟨f, hf, hk, hi, ho, hm⟩ := R8 h ha (by omega);obtain ⟨_, hm⟩ := hm hw;cases hv : Bt (Cv l (Ax e) l) b.1 b.2 with
 | none => exact absurd ⟨b, hb, hv⟩ hm
 | some v =>
   obtain ⟨h1, h2⟩ := Aad hv;obtain ⟨g, hg, ⟨hw, ho⟩, rfl⟩ := (Oj l.length l rfl).1 h1;exact ⟨_, rfl, g, hg, hw, ho, Prod.ext h2.1 h2.2, rfl⟩
noncomputable def Aax (l : List Evt) (e : Evt) : List UInt8 := match e.base.l with
 | [] => []
 | b :: _ => Dc l l.length b
theorem X3 {e : Evt} (h : Bm e = true) (hw : Pv e = true) : e.data.length ≤ 200 := by
 have hK := N2 h;have hk := of_decide_eq_true hw;rcases hk with k | k | k
 · have h1 := hK.1;rw [Kn k] at h1;simp only [Bool.and_eq_true, Cq, decide_eq_true_eq] at h1;omega
 · have h1 := hK.2;rw [A78 k] at h1;simp only [Al, Bool.and_eq_true, Bool.or_eq_true, decide_eq_true_eq, Bool.false_eq_true, false_or, true_or] at h1;have : e.data = [] := h1.2.2.2.2.2.1;rw [this]; simp
 · have h1 := hK.1;rw [O0 k] at h1;simp only [Bool.and_eq_true, Cq, decide_eq_true_eq] at h1;omega
theorem Al9 {e : Evt} (h : Bm e = true) (hw : Pv e = true) {was : List UInt8} (hl : was.length ≤ 200) : (Gh e was).length ≤ 200 := by
 have hd := X3 h hw;unfold Gh;split
 · exact hd
 · split
   · unfold Y1; split
     · simp
     · rw [Af4]; omega
   · unfold Kz; split
     · simp
     · rename_i h; unfold D7 at h; rw [Wy]; omega
theorem Ol {l : List Evt} (h : Val l) : ∀ g ∈ l, Pv g = true → (Dc l l.length (Aj g)).length ≤ 200 ∧ ∀ t n, l.length ≤ n → Dc (l ++ t) n (Aj g) = Dc l l.length (Aj g) := by
 induction h with
 | nil => intro g hg; cases hg
 | @snoc l e hl he hw ih =>
   have ha := Vr.1 hw;intro g hg hgw;have hlen : (l ++ [e]).length = l.length + 1 := by simp
   rcases List.mem_append.1 hg with hg | hg
   · obtain ⟨h1, h2⟩ := ih g hg hgw;have e1 : Dc (l ++ [e]) (l ++ [e]).length (Aj g) = Dc l l.length (Aj g) := h2 [e] _ (by omega);rw [e1];refine ⟨h1, fun t n hn => ?_⟩;rw [List.append_assoc];exact h2 _ n (by omega)
   · rw [List.mem_singleton] at hg; subst hg;have key : ∀ t n, (l ++ [g]).length ≤ n → Dc ((l ++ [g]) ++ t) n (Aj g) = Gh g (Aax l g) := fun t n hn => by
      obtain ⟨n, rfl⟩ : ∃ k, n = k + 1 := ⟨n - 1, by omega⟩
      simp only [Dc];rw [Aoo t ⟨g, by simp, rfl⟩, Aae (Ok hl ha) (by simp)];simp only;congr 1;unfold Aax;cases hb : g.base.l with
      | nil => rfl
      | cons b r =>
        simp only;obtain ⟨v, hv, f, hf, hfw, _, rfl, _⟩ := J6 hl ha hgw b (by rw [hb]; simp);rw [List.append_assoc];exact (ih f hf hfw).2 _ n (by omega)
     have e1 : Dc (l ++ [g]) (l ++ [g]).length (Aj g) = Gh g (Aax l g) := by
      have := key [] (l ++ [g]).length (Nat.le_refl _)
      rwa [List.append_nil] at this
     rw [e1];refine ⟨Al9 ha.ck hgw ?_, key⟩;unfold Aax;cases hb : g.base.l with
     | nil => simp
     | cons b r =>
       simp only;obtain ⟨v, hv, f, hf, hfw, _, rfl, _⟩ := J6 hl ha hgw b (by rw [hb]; simp);exact (ih f hf hfw).1
theorem Apd {l : List Evt} {e : Evt} (h : Val l) (ha : Acc (A8 l) e) (hw : Pv e = true) : Dc (l ++ [e]) (l ++ [e]).length (Aj e) = Gh e (Aax l e) := by
 rw [show (l ++ [e]).length = l.length + 1 from by simp];simp only [Dc];rw [Aae (Ok h ha) (by simp)];simp only;congr 1;unfold Aax;cases hb : e.base.l with
 | nil => rfl
 | cons b r =>
   simp only;obtain ⟨v, hv, f, hf, hfw, _, rfl, _⟩ := J6 h ha hw b (by rw [hb]; simp);exact (Ol h f hf hfw).2 _ _ (Nat.le_refl _)
theorem Adl {l : List Evt} {e : Evt} (h : Val l) {g : Evt} (hg : g ∈ l) (hw : Pv g = true) : Gu (l ++ [e]) (l ++ [e]) g = if Z5 e (Ax g) (Aj g) = true then Es (Gu l l g) e.rep e.seq else Gu l l g := by
 have hb := (Ol h g hg hw).2 [e] (l ++ [e]).length (by simp);unfold Gu;rw [hb, Afp];split <;> rfl
theorem Ayv {l : List Evt} {e : Evt} (h : Val l) (ha : Acc (A8 l) e) (obj : Bo) {g : Evt} (hg : g ∈ l ++ [e]) : Z5 g obj (Aj e) = false := by
 cases hq : Z5 g obj (Aj e) with
 | false => rfl
 | true =>
   unfold Z5 at hq;simp only [Bool.and_eq_true, decide_eq_true_eq] at hq;rcases List.mem_append.1 hg with hg | hg
   · obtain ⟨a, b, rfl, h1, _, h3⟩ := h.mem hg;obtain ⟨_, _, f, hf, _, _, hi, _⟩ := J6 h1 h3 hq.1 _ hq.2.2;exact absurd hi (Gr h ha f (by simp [hf]))
   · rw [List.mem_singleton] at hg; subst hg;obtain ⟨_, _, f, hf, _, _, hi, _⟩ := J6 h ha hq.1 _ hq.2.2;exact absurd hi (Gr h ha f hf)
theorem Azx {l : List Evt} {e : Evt} (h : Val l) (ha : Acc (A8 l) e) (obj : Bo) : gvG (l ++ [e]) obj (Aj e) = fun _ => 0 := by
 unfold gvG;have : ∀ m : List Evt, (∀ g ∈ m, Z5 g obj (Aj e) = false) → m.foldl (fun a g => if Z5 g obj (Aj e) = true then Bc a g.rep g.seq else a) (fun _ => 0 : Vc) = fun _ => 0 := fun m hm => by
  induction m with
  | nil => rfl
  | cons g m ih =>
    rw [List.foldl_cons, if_neg (by rw [hm g List.mem_cons_self]; simp)];exact ih fun f hf => hm f (List.mem_cons_of_mem _ hf)
 exact this _ fun g hg => Ayv h ha obj hg
theorem Gj {l : List Evt} (h : NodE l) (obj : Bo) : Ck (Cv l obj l) ∧ (Cv l obj l).length ≤ l.length ∧ ∀ v, v ∈ Cv l obj l ↔ ∃ e ∈ l, (Pv e = true ∧ Ax e = obj) ∧ v = Gu l l e := ⟨(I7 l.length l rfl h).1, (I7 l.length l rfl h).2, fun v => Oj l.length l rfl⟩
theorem Oi {l : List Evt} {e : Evt} (h : Val l) (ha : Acc (A8 l) e) {obj : Bo} (hx : ¬ (Pv e = true ∧ Ax e = obj)) : Cv (l ++ [e]) obj (l ++ [e]) = Cv l obj l := by
 obtain ⟨s1, _, m1⟩ := Gj h.nod obj;obtain ⟨s2, _, m2⟩ := Gj (Ok h ha) obj;refine Zh s2 s1 fun v => ?_;have key : ∀ g ∈ l, Pv g = true ∧ Ax g = obj → Gu (l ++ [e]) (l ++ [e]) g = Gu l l g := fun g hg ⟨hw, ho⟩ => by
  rw [Adl h hg hw, if_neg];unfold Z5;rw [ho];simp only [Bool.and_eq_true, decide_eq_true_eq];exact fun q => hx ⟨q.1, q.2.1⟩
 rw [m1, m2];constructor
 · rintro ⟨g, hg, hc, rfl⟩;rcases List.mem_append.1 hg with hg | hg
   · exact ⟨g, hg, hc, key g hg hc⟩
   · rw [List.mem_singleton] at hg; subst hg; exact absurd hc hx
 · rintro ⟨g, hg, hc, rfl⟩;exact ⟨g, List.mem_append_left _ hg, hc, (key g hg hc).symm⟩
theorem Apf {l : List Evt} {e : Evt} (h : Val l) (ha : Acc (A8 l) e) (hw : Pv e = true) : E6 (Cv l (Ax e) l) e = Gh e (Aax l e) := by
 have hd : ∀ v ∈ Cv l (Ax e) l, v.data.length ≤ 200 := fun v hv => by
  obtain ⟨g, hg, hc, rfl⟩ := ((Gj h.nod (Ax e)).2.2 v).1 hv;exact (Ol h g hg hc.1).1
 have hk := of_decide_eq_true hw;have hf := X2 ha.ck hk hd;have hwas : (Dp (Cv l (Ax e) l) (Ea e).1 (Ea e).2).1 = Aax l e := by
  unfold Ea Aax;cases hb : e.base.l with
  | nil => simp only; rw [R2 ⟨rfl, rfl⟩]
  | cons b r =>
    simp only;obtain ⟨v, hv, f, hf, hfw, _, rfl, rfl⟩ := J6 h ha hw b (by rw [hb]; simp);obtain ⟨a, c, _, _, _, h3⟩ := h.mem hf;have hbp := Cr h3.ck;have hbp1 : 1 ≤ f.rep := hbp.1;rw [Mu (fun q => by have := q.1; simp only at this; omega) hv];rfl
 have hwl : (Dp (Cv l (Ax e) l) (Ea e).1 (Ea e).2).1.length ≤ 200 := Aah hd _ _;unfold E6 Gh;rw [hwas] at hwl ⊢;by_cases h5 : e.kind = 5
 · rw [if_pos h5, if_pos h5]
 rw [if_neg h5, if_neg h5];obtain ⟨o1, o2⟩ := hf.off h5;by_cases h4 : e.kind = 4
 · rw [if_pos h4, if_pos h4];unfold Y1; rw [if_neg (by omega)]
 · rw [if_neg h4, if_neg h4];have hl := hf.len (by omega);unfold Kz; rw [if_neg (by unfold D7; omega)]
theorem Aqb {l : List Evt} {e : Evt} (h : Val l) (ha : Acc (A8 l) e) (hw : Pv e = true) : Cv (l ++ [e]) (Ax e) (l ++ [e]) = Fk (Cv l (Ax e) l) e.base.l (Si e.rep e.seq (E6 (Cv l (Ax e) l) e)) := by
 obtain ⟨s1, _, m1⟩ := Gj h.nod (Ax e);obtain ⟨s2, _, m2⟩ := Gj (Ok h ha) (Ax e);have hnew : Bt (Cv l (Ax e) l) e.rep e.seq = none := Qd.2 fun v hv ⟨h1, h2⟩ => by
  obtain ⟨g, hg, _, rfl⟩ := (m1 v).1 hv;exact Gr h ha g hg (Prod.ext h1 h2)
 have hE : Gu (l ++ [e]) (l ++ [e]) e = Si e.rep e.seq (E6 (Cv l (Ax e) l) e) := by
  unfold Gu Si;rw [Apd h ha hw, Azx h ha, Apf h ha hw]
 refine Zh s2 (Agq s1 hnew) fun v => ?_;rw [m2, As3, ← hE];have key : ∀ g ∈ l, Pv g = true ∧ Ax g = Ax e → Gu (l ++ [e]) (l ++ [e]) g = Pp e.base.l e.rep e.seq (Gu l l g) := fun g hg ⟨hgw, ho⟩ => by
  rw [Adl h hg hgw];unfold Pp;have : Z5 e (Ax g) (Aj g) = decide (((Gu l l g).rep, (Gu l l g).seq) ∈ e.base.l) := by
   unfold Z5;rw [hw, ho];simp; rfl
  rw [this];by_cases hin : ((Gu l l g).rep, (Gu l l g).seq) ∈ e.base.l
  · rw [if_pos (decide_eq_true hin), if_pos hin]
  · rw [if_neg (by simpa using hin), if_neg hin]
 constructor
 · rintro ⟨g, hg, hc, rfl⟩;rcases List.mem_append.1 hg with hg | hg
   · exact .inr ⟨Gu l l g, (m1 _).2 ⟨g, hg, hc, rfl⟩, key g hg hc⟩
   · rw [List.mem_singleton] at hg; subst hg; exact .inl rfl
 · rintro (rfl | ⟨y, hy, rfl⟩)
   · exact ⟨e, by simp, ⟨hw, rfl⟩, rfl⟩
   · obtain ⟨g, hg, hc, rfl⟩ := (m1 y).1 hy;exact ⟨g, List.mem_append_left _ hg, hc, (key g hg hc).symm⟩
theorem Ag4 (e f : Evt) (o : Obj) (v : List Ver) : D5 e { o with vers := v } f = { D5 e o f with vers := v } := by
 unfold D5;by_cases h1 : Ax f = Aj e
 · rw [if_pos h1, if_pos h1];by_cases h7 : f.kind = 7
   · rw [if_pos h7, if_pos h7];by_cases hl : Ch o.last.1 o.last.2 f.rep f.seq = true
     · rw [if_pos hl, if_pos hl]
     · rw [if_neg hl, if_neg hl]
   · rw [if_neg h7, if_neg h7];by_cases h6 : f.kind = 6
     · rw [if_pos h6, if_pos h6]
     · rw [if_neg h6, if_neg h6]
 · rw [if_neg h1, if_neg h1]
theorem Ayr (l L : List Evt) (e : Evt) : ∀ m : List Evt, C6 L m e = { C6 l m e with vers := Cv L (Aj e) L } :=
 Wm rfl fun m f ih => by
  rw [Jh, Jh, ih, Ag4]
theorem Ash (l : List Evt) (e f : Evt) : C6 (l ++ [e]) (l ++ [e]) f = { D5 f (C6 l l f) e with vers := Cv (l ++ [e]) (Aj f) (l ++ [e]) } := by
 rw [Ayr l, Jh]
theorem Aex {l : List Evt} {e : Evt} (h : Val l) (ha : Acc (A8 l) e) : C6 (l ++ [e]) (l ++ [e]) e = W9 e := by
 have hv : Cv (l ++ [e]) (Aj e) (l ++ [e]) = [] := by
  refine List.eq_nil_iff_forall_not_mem.2 fun v hv => ?_;obtain ⟨g, hg, hc, _⟩ := ((Gj (Ok h ha) (Aj e)).2.2 v).1 hv;exact Asp h ha hg hc.2
 unfold C6 W9;rw [hv];have : ∀ (m : List Evt) (o : Obj), (∀ g ∈ m, Ax g ≠ Aj e) → m.foldl (D5 e) o = o := fun m => by
  induction m with
  | nil => intro o _; rfl
  | cons g m ih =>
    intro o hm;rw [List.foldl_cons, show D5 e o g = o from if_neg (hm g List.mem_cons_self)];exact ih o fun f hf => hm f (List.mem_cons_of_mem _ hf)
 exact this _ _ fun g hg => Asp h ha hg
def GO (e : Evt) (x : Obj) : Obj :=
 if e.kind = 7 then Xb e x
 else if e.kind = 6 then { x with seen := Cw x.seen (Bc e.dep e.rep e.seq) }
 else { x with vers := Fk x.vers e.base.l (Si e.rep e.seq (E6 x.vers e)) }
theorem Asy (e : Evt) (x : Obj) : (Xb e x).id = x.id := by unfold Xb; split <;> rfl
theorem Bcs (e : Evt) (x : Obj) : (GO e x).id = x.id := by
 unfold GO;split
 · exact Asy e x
 · split <;> rfl
theorem Aq7 {l : List Obj} (hs : El l) {i : Bo} {o : Obj} (h : E9 l i = some o) (g : Obj → Obj) : l.set (B0 l i) (g o) = l.map fun x => if x.id = i then g x else x := by
 obtain ⟨h1, h2⟩ := Gv h;apply List.ext_getElem?;intro j;rw [List.getElem?_map];by_cases hj : B0 l i = j
 · subst hj;rw [List.getElem?_set_self (List.getElem?_eq_some_iff.1 h1).1, h1];simp only [Option.map_some];rw [if_pos h2]
 · rw [List.getElem?_set_ne hj];cases hy : l[j]? with
   | none => rfl
   | some y =>
     simp only [Option.map_some];rw [if_neg];intro q;rcases Nat.lt_or_gt_of_ne hj with k | k
     · have := La hs h1 hy k; rw [h2, q] at this; exact Ga this
     · have := La hs hy h1 k; rw [h2, q] at this; exact Ga this
theorem A0i {s : St} (hs : El s.objs) {e : Evt} (hk : e.kind = 3 ∨ e.kind = 4 ∨ e.kind = 5 ∨ e.kind = 6 ∨ e.kind = 7) {o : Obj} (h : E9 s.objs (Ax e) = some o) : (doS s e).objs = s.objs.map fun x => if x.id = Ax e then GO e x else x := by
 unfold doS;rw [if_neg (by omega), if_neg (by omega), if_neg (by omega), h, ← Aq7 hs h (GO e)];simp only;unfold GO;by_cases h7 : e.kind = 7
 · rw [if_pos h7, if_pos h7]; rfl
 rw [if_neg h7, if_neg h7];by_cases h6 : e.kind = 6
 · rw [if_pos h6, if_pos h6]; rfl
 · rw [if_neg h6, if_neg h6]; rfl
theorem Amj {l : List Obj} (hs : El l) {g : Obj → Obj} (hg : ∀ x, (g x).id = x.id) : El (l.map g) := by
 rw [Wj] at *;rw [List.pairwise_map];exact hs.imp fun {a b} h => by rw [hg, hg]; exact h
theorem A3t {l : List Evt} (h : Val l) {f : Evt} (hf : f ∈ l) : Aj f ≠ (0, 0) := fun q => by
 obtain ⟨a, b, _, _, _, h3⟩ := h.mem hf;have h1 : 1 ≤ f.rep := (Cr h3.ck).1;have h2 : f.rep = 0 := congrArg Prod.fst q;omega
theorem Akv {l : List Evt} {e : Evt} (h : Val l) (ha : Acc (A8 l) e) {f : Evt} (hf : f ∈ l) :
 C6 (l ++ [e]) (l ++ [e]) f = if (e.kind = 3 ∨ e.kind = 4 ∨ e.kind = 5 ∨ e.kind = 6 ∨ e.kind = 7) ∧ Aj f = Ax e then GO e (C6 l l f) else C6 l l f := by
 rw [Ash];have hov := S7 l f l;by_cases hk : e.kind = 3 ∨ e.kind = 4 ∨ e.kind = 5 ∨ e.kind = 6 ∨ e.kind = 7;rotate_left
 · rw [if_neg fun q => hk q.1];have hw : Pv e = false := decide_eq_false (by omega);rw [Oi h ha (fun q => by rw [hw] at q; simp at q), ← hov];have h0 := X0 ha.ck hk;have : D5 f (C6 l l f) e = C6 l l f := if_neg (by rw [h0]; exact fun q => A3t h hf q.symm);rw [this]
 by_cases hi : Aj f = Ax e;rotate_left
 · rw [if_neg fun q => hi q.2, Oi h ha (fun q => hi q.2.symm), ← hov];have : D5 f (C6 l l f) e = C6 l l f := if_neg fun q => hi q.symm;rw [this]
 rw [if_pos ⟨hk, hi⟩];unfold D5 GO;rw [if_pos hi.symm];by_cases h7 : e.kind = 7
 · have hw : Pv e = false := decide_eq_false (by omega);rw [if_pos h7, if_pos h7, Oi h ha (fun q => by rw [hw] at q; simp at q), ← hov];unfold Xb;split <;> rfl
 rw [if_neg h7, if_neg h7];by_cases h6 : e.kind = 6
 · have hw : Pv e = false := decide_eq_false (by omega);rw [if_pos h6, if_pos h6, Oi h ha (fun q => by rw [hw] at q; simp at q), ← hov]
 · rw [if_neg h6, if_neg h6];have hw : Pv e = true := decide_eq_true (by omega);rw [hi, Aqb h ha hw, hov, hi]
theorem Anb {l : List Evt} {e : Evt} (h : Val l) (ha : Acc (A8 l) e) : (A8 (l ++ [e])).objs = (I4 (A8 l) e).objs := by
 obtain ⟨s1, _, m1⟩ := Ra h.nod;obtain ⟨s2, _, m2⟩ := Ra (Ok h ha);have hkn : (Gk (A8 l) e).objs = (A8 l).objs := rfl;by_cases hk : e.kind = 3 ∨ e.kind = 4 ∨ e.kind = 5 ∨ e.kind = 6 ∨ e.kind = 7
 · obtain ⟨f0, hf0, _, _, ho, _⟩ := R8 h ha hk;have hd := A0i (s := Gk (A8 l) e) s1 hk ho;unfold I4;rw [hd];refine Sr s2 (Amj s1 fun x => by split; exact Bcs e x; rfl) fun x => ?_;rw [m2, List.mem_map];have key : ∀ f ∈ l, C6 (l ++ [e]) (l ++ [e]) f = if (C6 l l f).id = Ax e then GO e (C6 l l f) else C6 l l f := fun f hf => by
    rw [Akv h ha hf, I9];by_cases hi : Aj f = Ax e
    · rw [if_pos ⟨hk, hi⟩, if_pos hi]
    · rw [if_neg fun q => hi q.2, if_neg hi]
   constructor
   · rintro ⟨f, hf, hc, rfl⟩;rcases List.mem_append.1 hf with hf | hf
     · exact ⟨C6 l l f, (m1 _).2 ⟨f, hf, hc, rfl⟩, (key f hf).symm⟩
     · rw [List.mem_singleton] at hf; subst hf; omega
   · rintro ⟨y, hy, rfl⟩;obtain ⟨f, hf, hc, rfl⟩ := (m1 y).1 hy;exact ⟨f, List.mem_append_left _ hf, hc, (key f hf).symm⟩
 have key : ∀ f ∈ l, C6 (l ++ [e]) (l ++ [e]) f = C6 l l f := fun f hf => by
  rw [Akv h ha hf, if_neg fun q => hk q.1]
 have hb := Cr ha.ck;obtain ⟨_, _, _, _, _, b6, b7⟩ := hb;by_cases h12 : e.kind = 1 ∨ e.kind = 2
 · have hd : (I4 (A8 l) e).objs = Hn (A8 l).objs (W9 e) := by
    unfold I4 doS;rw [if_neg (by omega), if_neg (by omega), if_pos h12]; rfl
   rw [hd];have hne : ∀ x ∈ (A8 l).objs, x.id ≠ (W9 e).id := fun x hx q => by
    obtain ⟨f, hf, hc, rfl⟩ := (m1 x).1 hx;rw [I9] at q;exact Gr h ha f hf q
   refine Sr s2 (Zi s1 hne) fun x => ?_;rw [m2, Ae2];constructor
   · rintro ⟨f, hf, hc, rfl⟩;rcases List.mem_append.1 hf with hf | hf
     · exact .inr ((m1 _).2 ⟨f, hf, hc, key f hf⟩)
     · rw [List.mem_singleton] at hf; subst hf; exact .inl (Aex h ha)
   · rintro (rfl | hx)
     · exact ⟨e, by simp, h12, (Aex h ha).symm⟩
     · obtain ⟨f, hf, hc, rfl⟩ := (m1 x).1 hx;exact ⟨f, List.mem_append_left _ hf, hc, (key f hf).symm⟩
 · have hd : (I4 (A8 l) e).objs = (A8 l).objs := by
    unfold I4 doS;by_cases h8 : e.kind = 8
    · rw [if_pos h8]; rfl
    · rw [if_neg h8, if_pos (by omega)]; rfl
   rw [hd];refine Sr s2 s1 fun x => ?_;rw [m2, m1];constructor
   · rintro ⟨f, hf, hc, rfl⟩;rcases List.mem_append.1 hf with hf | hf
     · exact ⟨f, hf, hc, key f hf⟩
     · rw [List.mem_singleton] at hf; subst hf; exact absurd hc h12
   · rintro ⟨f, hf, hc, rfl⟩;exact ⟨f, List.mem_append_left _ hf, hc, (key f hf).symm⟩
end Go.Proofs.YthiamojjhdcegaaGreat.Fw
namespace Go.Proofs.YthiamojjhdcegaaGreat.Fw
variable [Th]
open Go.RowKit Go.Proofs
theorem St.eq {a b : St} (h1 : a.known = b.known) (h2 : a.objs = b.objs) (h3 : a.ents = b.ents) (h4 : a.wards = b.wards) (h5 : a.ret = b.ret) : a = b := by
 cases a; cases b; simp only at h1 h2 h3 h4 h5; subst h1 h2 h3 h4 h5; rfl
theorem Bbv (l l' : List Evt) : ∀ m : List Evt, (F3 l m).1.wards = (F3 l' m).1.wards ∧ (F3 l m).1.ret = (F3 l' m).1.ret ∧ (F3 l m).2 = (F3 l' m).2 :=
 Wm ⟨rfl, rfl, rfl⟩ fun m e ⟨h1, h2, h3⟩ => by
  rw [H3, H3];unfold Du;by_cases k12 : e.kind = 1 ∨ e.kind = 2
  · rw [if_pos k12, if_pos k12]; exact ⟨h1, h2, h3⟩
  rw [if_neg k12, if_neg k12];by_cases k8 : e.kind = 8
  · rw [if_pos k8, if_pos k8, h3];split
    · exact ⟨by simp only [I5, h1], h2, by simp only [h3]⟩
    · exact ⟨h1, h2, h3⟩
  rw [if_neg k8, if_neg k8];by_cases k9 : e.kind = 9
  · rw [if_pos k9, if_pos k9]; exact ⟨h1, by simp only [P0, h2], h3⟩
  rw [if_neg k9, if_neg k9]; exact ⟨h1, h2, h3⟩
theorem Al0 {a b : Vc} {r : Int} {q : Nat} {i : Nat} (h : ∀ i, a i ≤ b i) : Bc a r q i ≤ Bc b r q i := by
 by_cases hr : 1 ≤ r ∧ r ≤ 8
 · rw [Qu hr, Qu hr]; have := h i; split <;> omega
 · unfold Bc; rw [if_neg hr, if_neg hr]; exact h i
theorem Anr (L : List Evt) : ∀ (m : List Evt) (i : Nat), (F3 L m).2 i ≤ Dl m i :=
 Wm (fun i => Nat.le_refl _) fun m e ih i => by
  rw [H3, Km];unfold Du;split
  · exact Nat.le_trans (ih i) (Aaw i)
  · split
    · split
      · exact Al0 ih
      · exact Nat.le_trans (ih i) (Aaw i)
    · split <;> exact Nat.le_trans (ih i) (Aaw i)
theorem Au5 (s : St) (e : Evt) : (doS s e).known = s.known := by
 unfold doS;split
 · rfl
 · split
   · rfl
   · split
     · rfl
     · split
       · rfl
       · split
         · rfl
         · split <;> rfl
theorem Ai1 {l : List Evt} {e : Evt} (h : Val l) (ha : Acc (A8 l) e) : A8 (l ++ [e]) = I4 (A8 l) e := by
 obtain ⟨n1, n2, n3⟩ := Agr ha;obtain ⟨_, _, _, _, _, b6, b7⟩ := Cr ha.ck;rw [G9] at n3;have hb : A8 (l ++ [e]) = (Du (l ++ [e]) (F3 (l ++ [e]) l) e).1 := by
  show (F3 (l ++ [e]) (l ++ [e])).1 = _;rw [H3]
 obtain ⟨w1, w2, w3⟩ := Bbv (l ++ [e]) l l;have hen := Aos h ha;rw [← Pa (l ++ [e]), ← Pa l] at hen;refine St.eq ?_ (Anb h ha) ?_ ?_ ?_
 · rw [G9, Km];unfold I4; rw [Au5];show _ = Bc (A8 l).known e.rep e.seq;rw [G9]
 · rw [hen];unfold I4 doS;by_cases h8 : e.kind = 8
   · rw [if_pos h8, if_neg (by omega), if_neg (by omega), if_neg (by omega)]; rfl
   rw [if_neg h8];by_cases h9 : e.kind = 9
   · rw [if_pos h9, if_neg (by omega), if_neg (by omega), if_neg (by omega)]; rfl
   rw [if_neg h9];by_cases h12 : e.kind = 1 ∨ e.kind = 2
   · rw [if_pos h12, if_pos h12]; rfl
   rw [if_neg h12, if_neg h12];obtain ⟨f0, hf0, _, _, ho, _⟩ := R8 h ha (by omega);rw [show E9 (Gk (A8 l) e).objs (Ax e) = some (C6 l l f0) from ho];simp only;by_cases h7 : e.kind = 7
   · rw [if_pos h7, if_pos h7]; rfl
   rw [if_neg h7, if_neg h7];by_cases h6 : e.kind = 6
   · rw [if_pos h6, if_pos h6]; rfl
   · rw [if_neg h6, if_neg h6]; rfl
 · rw [hb];unfold I4 doS Du;by_cases h8 : e.kind = 8
   · have hlt : Ho (F3 (l ++ [e]) l).2 e.rep < e.seq := by
      unfold Ho; rw [if_pos ⟨n1, n2⟩, w3];have := Anr l l (e.rep - 1).toNat;omega
     rw [if_pos h8, if_neg (by omega), if_pos h8, if_pos hlt];simp only [I5, w1]; rfl
   rw [if_neg h8, if_neg h8];by_cases h9 : e.kind = 9
   · rw [if_pos h9, if_neg (by omega), if_pos h9];simp only [P0, w1]; rfl
   rw [if_neg h9, if_neg h9];by_cases h12 : e.kind = 1 ∨ e.kind = 2
   · rw [if_pos h12, if_pos h12]; simp only [w1]; rfl
   rw [if_neg h12, if_neg h12];obtain ⟨f0, hf0, _, _, ho, _⟩ := R8 h ha (by omega);rw [show E9 (Gk (A8 l) e).objs (Ax e) = some (C6 l l f0) from ho];simp only;rw [w1];split
   · rfl
   · split <;> rfl
 · rw [hb];unfold I4 doS Du;by_cases h8 : e.kind = 8
   · rw [if_pos h8, if_neg (by omega), if_pos h8];split
     · simp only [I5, w2]; rfl
     · simp only [I5, w2]; rfl
   rw [if_neg h8, if_neg h8];by_cases h9 : e.kind = 9
   · rw [if_pos h9, if_neg (by omega), if_pos h9];simp only [P0, w2]; rfl
   rw [if_neg h9, if_neg h9];by_cases h12 : e.kind = 1 ∨ e.kind = 2
   · rw [if_pos h12, if_pos h12]; simp only [w2]; rfl
   rw [if_neg h12, if_neg h12];obtain ⟨f0, hf0, _, _, ho, _⟩ := R8 h ha (by omega);rw [show E9 (Gk (A8 l) e).objs (Ax e) = some (C6 l l f0) from ho];simp only;rw [w2];split
   · rfl
   · split <;> rfl
theorem Ax2 {l : List Evt} {e : Evt} (h : Val l) (hw : Gt (A8 l) e = 0) : Yt (A8 l) e = A8 (l ++ [e]) := by
 unfold Yt; rw [if_pos hw, Ai1 h (Vr.1 hw)]
theorem Aay {l : List Evt} (h : Val l) (hn : l.length ≤ 400) : StIn (A8 l) := by
 obtain ⟨s1, l1, m1⟩ := Ra h.nod;have hv : ∀ o ∈ (A8 l).objs, ∃ f ∈ l, o.vers = Cv l (Aj f) l := fun o ho => by
  obtain ⟨f, hf, _, rfl⟩ := (m1 o).1 ho;exact ⟨f, hf, S7 l f l⟩
 have hs := (S9 (l := l) l h.nod).1;refine ⟨⟨⟨by omega, fun o ho => ?_, ?_⟩, s1, ?_⟩, fun o ho => ?_, fun o ho v hq => ?_, fun o ho v hq => ?_⟩
 · obtain ⟨f, hf, e⟩ := hv o ho;rw [e]; have := (Gj h.nod (Aj f)).2.1; omega
 · rw [Pa]; have := Tr l l.length l rfl; omega
 · rw [Pa]; exact hs
 · obtain ⟨f, hf, e⟩ := hv o ho;rw [e]; exact (Gj h.nod (Aj f)).1
 · obtain ⟨f, hf, e⟩ := hv o ho;rw [e] at hq;obtain ⟨g, hg, hc, rfl⟩ := ((Gj h.nod (Aj f)).2.2 v).1 hq;exact (Ol h g hg hc.1).1
 · obtain ⟨f, hf, e⟩ := hv o ho;rw [e] at hq;obtain ⟨g, hg, hc, rfl⟩ := ((Gj h.nod (Aj f)).2.2 v).1 hq;rw [G9];exact h.has.2 ⟨g, hg, rfl⟩
theorem Xz {e : Evt} (h : Bm e = true) (hw : Pv e = false) : e.base.l = [] ∧ e.data = [] := by
 obtain ⟨b1, b2, b3, b4, b5, b6, b7⟩ := Cr h;have hz := (N2 h).2;have hk : ¬ (e.kind = 3 ∨ e.kind = 4 ∨ e.kind = 5) := of_decide_eq_false hw;have h4 : e.kind = 1 ∨ e.kind = 2 ∨ e.kind = 6 ∨ e.kind = 7 ∨ e.kind = 8 ∨ e.kind = 9 := by omega
 rcases h4 with k | k | k | k | k | k
 · skip
   rw [A2e k] at hz; simp only [Al, Bool.and_eq_true, Bool.or_eq_true, decide_eq_true_eq, Bool.false_eq_true, false_or, true_or, true_and] at hz;exact ⟨List.length_eq_zero_iff.1 (by omega), hz.2.2.2.2.1⟩
 · skip
   rw [A2d k] at hz; simp only [Al, Bool.and_eq_true, Bool.or_eq_true, decide_eq_true_eq, Bool.false_eq_true, false_or, true_or, true_and] at hz;exact ⟨List.length_eq_zero_iff.1 (by omega), hz.2.2.2.2.1⟩
 · skip
   rw [A77 k] at hz; simp only [Al, Bool.and_eq_true, Bool.or_eq_true, decide_eq_true_eq, Bool.false_eq_true, false_or, true_or, true_and] at hz;exact ⟨List.length_eq_zero_iff.1 (by omega), hz.2.2.2.1⟩
 · skip
   rw [A76 k] at hz; simp only [Al, Bool.and_eq_true, Bool.or_eq_true, decide_eq_true_eq, Bool.false_eq_true, false_or, true_or, true_and] at hz;exact ⟨List.length_eq_zero_iff.1 (by omega), hz.2.2.1⟩
 · skip
   rw [A2c k] at hz; simp only [Al, Bool.and_eq_true, Bool.or_eq_true, decide_eq_true_eq, Bool.false_eq_true, false_or, true_or, true_and] at hz;exact ⟨List.length_eq_zero_iff.1 (by omega), hz.2.2.2.2.2.1⟩
 · skip
   rw [A2b k] at hz; simp only [Al, Bool.and_eq_true, Bool.or_eq_true, decide_eq_true_eq, Bool.false_eq_true, false_or, true_or, true_and] at hz;exact ⟨List.length_eq_zero_iff.1 (by omega), hz.2.2.2.2.2.1⟩
def rkL (l : List Evt) (e : Evt) : Nat := l.findIdx fun x => decide (Aj x = Aj e)
theorem Ajq {l : List Evt} (h : Val l) (hn : l.length ≤ 400) : EvsOk l (rkL l) := by
 refine ⟨hn, h.nod, fun e he => ?_, fun e he h5 b t hb e' hf => ?_, fun e he => ?_⟩
 · obtain ⟨a, c, _, _, hv, h3⟩ := h.mem he;refine ⟨hv, ?_⟩;by_cases hw : Pv e = true
   · have := X3 h3.ck hw; omega
   · rw [(Xz h3.ck (by simpa using hw)).2]; simp
 · obtain ⟨a, c, rfl, h1, hv, h3⟩ := h.mem he;by_cases hw : Pv e = true
   · obtain ⟨_, _, g, hg, _, _, hi, _⟩ := J6 h1 h3 hw b (by rw [hb]; simp);have hi' : Aj e' = b := by simpa using List.find?_some hf
     have e1 : rkL (a ++ e :: c) e' < a.length := by
      unfold rkL;rw [List.findIdx_append];have : List.findIdx (fun x => decide (Aj x = Aj e')) a < a.length := List.findIdx_lt_length_of_exists ⟨g, hg, by simp [hi, hi']⟩;rw [if_pos this]; exact this
     have e2 : a.length ≤ rkL (a ++ e :: c) e := by
      unfold rkL;rw [List.findIdx_append];have : ¬ List.findIdx (fun x => decide (Aj x = Aj e)) a < a.length := fun q => by
       have := List.findIdx_getElem (w := q);simp only [decide_eq_true_eq] at this;exact Gr h1 h3 _ (List.getElem_mem _) this
      rw [if_neg this]; omega
     omega
   · rw [(Xz h3.ck (by simpa using hw)).1] at hb; cases hb
 · exact List.findIdx_lt_length_of_exists ⟨e, he, by simp⟩
theorem Ajp {l : List Evt} (h : Val l) : ∀ e ∈ l, 1 ≤ e.rep ∧ e.rep ≤ 8 := fun e he => by
 obtain ⟨a, c, _, _, hv, h3⟩ := h.mem he;exact ⟨(Cr h3.ck).1, (Cr h3.ck).2.1⟩
open Classical in
noncomputable def Aqh (out : List Evt) (e : Evt) : List Evt := if Gt (A8 out) e = 0 then out ++ [e] else out
noncomputable def Ig (l : List Evt) : List Evt := l.foldl Aqh []
theorem V8 (l : List Evt) (e : Evt) : Ig (l ++ [e]) = Aqh (Ig l) e := by simp [Ig]
theorem V9 : ∀ l : List Evt, (∀ e ∈ l, ev e) → Val (Ig l) ∧ (Ig l).length ≤ l.length ∧ ∀ e ∈ Ig l, e ∈ l :=
 Wm (fun _ => ⟨Val.nil, Nat.le_refl _, fun e he => by cases he⟩) fun l e ih hl => by
  obtain ⟨h1, h2, h3⟩ := ih fun f hf => hl f (List.mem_append_left _ hf);rw [V8];unfold Aqh;split
  · rename_i hw;refine ⟨Val.snoc h1 (hl e (by simp)) hw, by simp only [List.length_append, List.length_singleton]; omega, fun f hf => ?_⟩;rcases List.mem_append.1 hf with hf | hf
    · exact List.mem_append_left _ (h3 f hf)
    · exact List.mem_append_right _ hf
  · exact ⟨h1, by simp only [List.length_append, List.length_singleton]; omega, fun f hf => List.mem_append_left _ (h3 f hf)⟩
theorem Aug (x : Ent) : Ef [K1.int .i64, K1.int .u32, K1.int .i64, K1.int .u32, .str, K1.int .i64, K1.int .u32, .int .u32, .int .u32, .int .u32, .int .u32, .int .u32, .int .u32, .int .u32, .int .u32] (Bj x) = True := eq_true rfl
theorem Jq (c : List PV) : Yl c c = true := by simp [Yl]
def Wb (f g : Bool) (l m : List Ent) (k : Nat) : FS := mk [(5, .pv (.i .i64 k)), (0, .pv (.sl f 15 (l.map Bj))), (1, .pv (.sl g 15 (m.map Bj)))] []
theorem Ar0 {x y : SV} {f g : Bool} {l m : List Ent} {h d} (hx : Cl h [x, y] = [.pv (.sl f 15 (l.map Bj)), .pv (.sl g 15 (m.map Bj))]) (hl : Bf [x, y] = true) (he : l = m) (hn : l.length ≤ 1000) :
 FunOk Tryz.prog 27 [x, y] h d (.pv (.b true)) [] := by
 refine Cg Af fn27 (by simp) hl rfl fun F => ?_;subst he;rw [hx];simp (disch := omega) only [ir27, List.length_map, go_sem];refine A0 Af (Wb f g l l) (fun k => k ≤ l.length) (fun k => l.length - k) 0 (by simp) (Ak ?_ ?_) fun k hk => ?_
 · simp (disch := omega) only [go_sem]
 · simp (disch := omega) only [go_sem]
 by_cases hlt : k < l.length
 · have h2 : (l.map Bj)[k]? = some (Bj l[k]) := by simp [hlt]
   generalize l[k] = v at *;have hp := Jq (Bj v);have hf := Aug v;simp (disch := omega) only [Wb, List.length_map, h2, Fd, hp, hf, go_sem];refine Ad (k + 1) _ _ rfl (by omega) (by omega) ?_ ?_
   · simp (disch := omega) only [go_sem]
   · simp (disch := omega) only [go_sem]
 · simp (disch := omega) only [Wb, List.length_map, go_sem]
theorem Auh (v : Vc) : Ef [K1.int .u32, .int .u32, .int .u32, .int .u32, .int .u32, .int .u32, .int .u32, .int .u32] (vE v) = True := eq_true rfl
theorem A55 (v : Nat → Int) : Ef [K1.int .i64, .int .i64, .int .i64, .int .i64, .int .i64, .int .i64, .int .i64, .int .i64] (iE v) = True := eq_true rfl
theorem A54 (v : Nat → Bool) : Ef [K1.bool, .bool, .bool, .bool, .bool, .bool, .bool, .bool] (wE v) = True := eq_true rfl
theorem Az4 (i : Bo) : Ef [K1.int .i64, .int .u32] [.i .i64 i.1, .i .u32 i.2] = True := eq_true rfl
def Ag6 (s : St) (k : Nat) : FS := mk [(5, .pv (.i .i64 k)), (2, .p 2 0), (3, .p 3 0)] [(2, some (.var (.agg (Bi s)))), (3, some (.var (.agg (Bi s))))]
set_option maxHeartbeats 2000000 in
theorem Ar1 {s : St} (hs : Fine s) {h d} : FunOk Tryz.prog 10 [.agg (Bi s), .agg (Bi s)] h d (.pv (.b true)) [] := by
 refine Aw Af fn10 (by simp) rfl rfl fun F => ?_;have p1 := Jq (vE s.known);have p2 := Jq (iE s.wards);have p3 := Jq (wE s.ret);have f1 := Auh s.known;have f2 := A55 s.wards;have f3 := A54 s.ret;simp (disch := omega) only [ir10, Bi, A2, p1, p2, p3, f1, f2, f3, go_sem];refine Aa (Ar0 (l := s.ents) rfl rfl rfl (Nat.le_trans hs.en (by omega))) ?_;simp (disch := omega) only [List.length_map, go_sem];refine A0 Af (Ag6 s) (fun k => k ≤ s.objs.length) (fun k => s.objs.length - k) 0 (by simp) (Ak ?_ ?_) fun k hk => ?_
 · simp (disch := omega) only [go_sem]
 · simp (disch := omega) only [Bi, A2, go_sem]
 by_cases hlt : k < s.objs.length
 · have h2 : (s.objs.map A4)[k]? = some (A4 s.objs[k]) := by simp [hlt]
   have hvk := hs.ov _ (List.getElem_mem hlt);have hon := hs.on;generalize s.objs[k] = o at *;have hol := Ep o;have q1 := Jq [.i .i64 o.id.1, .i .u32 o.id.2];have q2 := Jq [.i .i64 o.last.1, .i .u32 o.last.2];have q3 := Jq (vE o.seen);have q4 := Auh o.seen;simp (disch := omega) only [Ag6, Bi, A2, List.length_map, go_sem];refine N9 ?_;simp (disch := omega) only [h2, List.length_map, Fc, hol, Jx, Ln, Jw, Ah3, Qa, Mi, Az4, q1, q2, q3, q4, go_sem];refine Aa (A4d (l := o.vers) (m := o.vers) rfl rfl rfl (by omega)) ?_;simp (disch := omega) only [go_sem];refine Ad (k + 1) _ _ rfl (by omega) (by omega) ?_ ?_
   · simp (disch := omega) only [go_sem]
   · simp (disch := omega) only [Bi, A2, go_sem]
 · obtain rfl : k = s.objs.length := by omega
   simp (disch := omega) only [Ag6, Bi, A2, List.length_map, go_sem]
end Go.Proofs.YthiamojjhdcegaaGreat.Fw
namespace Go.Proofs.YthiamojjhdcegaaGreat.Fw
variable [Th]
open Go.RowKit Go.Proofs
noncomputable def A2x (f : Bool) (l : List Evt) (k : Nat) : FS := mk [(4, .pv (.i .i64 k)), (3, .os 40), (0, .pv (.sl f 21 (l.map Bq)))] [(40, some (.row 21 ((Ig (l.take k)).map Bq)))]
structure EvIn (e : Evt) : Prop where
 ev : ev e
 dep : ∀ i, i < 8 → e.dep i < 4294967296
set_option maxHeartbeats 4000000 in
theorem A4c {f : Bool} {l : List Evt} {h d} (hn : l.length ≤ 400) (hev : ∀ e ∈ l, EvIn e) : FunOk Tryz.prog 7 [.pv (.sl f 21 (l.map Bq))] h d (.pv (.sl false 21 ((Ig l).map Bq))) [] := by
 refine Rt Af fn7 (by simp) rfl fun F => ?_;simp (disch := omega) only [ir7, go_sem];refine A0 Af (A2x f l) (fun k => k ≤ l.length) (fun k => l.length - k) 0 (by simp) (Vx 3 40 21 rfl (by omega) (Ak ?_ ?_)) fun k hk => ?_
 · simp (disch := omega) only [go_sem]
 · simp (disch := omega) only [Ig, List.take_zero, List.foldl_nil, List.map_nil, go_sem]
 by_cases hlt : k < l.length
 · have hx : l[k]? = some l[k] := List.getElem?_eq_getElem hlt;have he : (l.map Bq)[k]? = some (Bq l[k]) := by rw [List.getElem?_map, hx]; rfl
   have ht := C4 hx;have hsn := V8 (l.take k) l[k];rw [← ht] at hsn;obtain ⟨t1, t2, t3⟩ := V9 (l.take k) fun e he => (hev e (List.mem_of_mem_take he)).ev;have tl : (Ig (l.take k)).length ≤ 400 := by have := List.length_take_le k l; omega
   have hek := hev _ (List.getElem_mem hlt);generalize l[k] = e at *;have hel := Ac e;generalize hT : Ig (l.take k) = T at *;have hin := Aay t1 tl;simp (disch := omega) only [A2x, hT, go_sem];refine Aa (Asb (Ajq t1 tl) (Ajp t1) rfl) ?_;simp (disch := omega) only [List.length_map, he, Bx, hel, go_sem];refine ⟨rfl, Aa (A82 hin hek.ev hek.dep) ?_⟩;by_cases hw : Gt (A8 T) e = 0
   · have e1 : Aqh T e = T ++ [e] := if_pos hw;rw [e1] at hsn;simp (disch := omega) only [hw, List.length_map, he, Bx, hel, go_sem];refine ⟨k + 1, by omega, by omega, Ei 25 40 (by decide) rfl (Ak ?_ ?_)⟩
     · simp (disch := omega) only [go_sem]
     · simp (disch := omega) only [hsn, List.map_append, List.map_cons, List.map_nil, go_sem]
   · have e1 : Aqh T e = T := if_neg hw;rw [e1] at hsn;simp (disch := omega) only [hw, go_sem];refine Ad (k + 1) _ _ rfl (by omega) (by omega) ?_ ?_
     · simp (disch := omega) only [go_sem]
     · simp (disch := omega) only [hsn, go_sem]
 · obtain rfl : k = l.length := by omega
   have htk : l.take l.length = l := List.take_length;simp (disch := omega) only [A2x, List.length_map, htk, go_sem]
def A1q (e : Evt) : Prop := e.name.length ≤ 30 ∧ e.data.length ≤ 250 ∧ e.gone.l.length ≤ 10 ∧ e.base.l.length ≤ 10
def Yi (l : List Evt) : Prop := l.length ≤ 30 ∧ ∀ e ∈ l, A1q e
open Classical in
noncomputable def Aac (l : List Evt) : Bool := decide (Yi l)
theorem Acr {l : List Evt} (h : Yi l) : Aac l = true := by simp [Aac, h]
theorem Vm {l : List Evt} (h : ¬ Yi l) : Aac l = false := by simp [Aac, h]
def We (f : Bool) (l : List Evt) (k : Nat) : FS := mk [(10, .pv (.i .i64 k)), (9, .pv (.i .i64 l.length)), (8, .pv (.sl f 21 (l.map Bq)))] []
set_option maxHeartbeats 2000000 in
theorem Aes {x : SV} {f : Bool} {l : List Evt} {h d} (hx : Cl h [x] = [.pv (.sl f 21 (l.map Bq))]) (hl : Bf [x] = true) :
 FunOk Tryz.prog 5 [x] h d (.pv (.b (Aac l))) [] := by
 refine Cg Af fn5 (by simp) hl rfl fun F => ?_;rw [hx];by_cases h30 : 30 < (l.length : Int)
 · have hf := Vm (l := l) fun h => by have := h.1; omega
   simp (disch := omega) only [ir5, List.length_map, hf, go_sem]
 simp (disch := omega) only [ir5, List.length_map, go_sem];refine A0 Af (We f l) (fun k => k ≤ l.length ∧ ∀ j e, j < k → l[j]? = some e → A1q e) (fun k => l.length - k) 0 ⟨by simp, fun j e hj => absurd hj (Nat.not_lt_zero j)⟩ (Ak ?_ ?_) fun k hk => ?_
 · simp (disch := omega) only [List.length_map, go_sem]
 · simp (disch := omega) only [go_sem]
 obtain ⟨hk1, hk2⟩ := hk;by_cases hlt : k < l.length
 · have hx' : l[k]? = some l[k] := List.getElem?_eq_getElem hlt;have he : (l.map Bq)[k]? = some (Bq l[k]) := by rw [List.getElem?_map, hx']; rfl
   have hm := List.getElem_mem hlt;generalize l[k] = e at *;have hel := Ac e;have hg : e.gone.pv = .sl e.gone.f e.gone.z (e.gone.l.map Em) := rfl;have hb : e.base.pv = .sl e.base.f e.base.z (e.base.l.map Em) := rfl;have hno : ¬ A1q e → Aac l = false := fun q => Vm fun h => q (h.2 e hm);by_cases c1 : 30 < (e.name.length : Int)
   · have hf := hno fun q => by have := q.1; omega
     simp (disch := omega) only [We, List.length_map, he, Bx, hel, Dq, c1, hf, go_sem]
   by_cases c2 : 250 < (e.data.length : Int)
   · have hf := hno fun q => by have := q.2.1; omega
     simp (disch := omega) only [We, List.length_map, he, Bx, hel, Dq, c1, Hc, c2, hf, go_sem]
   by_cases c3 : 10 < (e.gone.l.length : Int)
   · have hf := hno fun q => by have := q.2.2.1; omega
     simp (disch := omega) only [We, List.length_map, he, Bx, hel, Dq, c1, Hc, c2, Gq, hg, c3, hf, go_sem]
   by_cases c4 : 10 < (e.base.l.length : Int)
   · have hf := hno fun q => by have := q.2.2.2; omega
     simp (disch := omega) only [We, List.length_map, he, Bx, hel, Dq, c1, Hc, c2, Gq, hg, c3, Gp, hb, c4, hf, go_sem]
   simp (disch := omega) only [We, List.length_map, he, Bx, hel, Dq, c1, Hc, c2, Gq, hg, c3, Gp, hb, c4, go_sem];refine Ad (k + 1) _ _ rfl ⟨by omega, fun j x hj hjx => ?_⟩ (by omega) ?_ ?_
   · by_cases ej : j = k
     · subst ej; rw [hx'] at hjx; cases hjx; exact ⟨by omega, by omega, by omega, by omega⟩
     · exact hk2 j x (by omega) hjx
   · simp (disch := omega) only [go_sem]
   · simp (disch := omega) only [go_sem]
 · obtain rfl : k = l.length := by omega
   have hf := Acr (l := l) ⟨by omega, fun e he => by
    obtain ⟨j, hj⟩ := List.mem_iff_getElem?.1 he;exact hk2 j e (List.getElem?_eq_some_iff.1 hj).1 hj⟩
   simp (disch := omega) only [We, hf, go_sem]
abbrev Wp : Sh := .st [Ad2, .arr 8 (.int .u32), .int .i64, Ad2, Ad2, .str, .sl Ad2, .sl Ad2, .int .i64, .str, .int .i64]
theorem A7v {cs : List PV} (h : GC Wp cs) : ∃ e : Evt, cs = Bq e ∧ (∀ i, i < 8 → e.dep i < 4294967296) ∧ e.gone.ok ∧ e.base.ok ∧ e.name.length ≤ maxLen ∧ e.data.length ≤ maxLen := by
 simp only [GC] at h;simp only [GCL] at h;obtain ⟨c0, r0, rfl, g0, c1, r1, rfl, g1, c2, r2, rfl, ⟨n2, rfl, w2⟩, c3, r3, rfl, g3, c4, r4, rfl, g4, c5, r5, rfl, ⟨s5, rfl, w5⟩, c6, r6, rfl, g6, c7, r7, rfl, g7, c8, r8, rfl, ⟨n8, rfl, w8⟩, c9, r9, rfl, ⟨s9, rfl, w9⟩, c10, r10, rfl, ⟨n10, rfl, w10⟩, rfl⟩ := h;obtain ⟨b0, rfl, hb0⟩ := Agt (by simp only [GC]; exact g0);obtain ⟨a, rfl, ha⟩ := Bct (by simp only [GC]; exact g1);obtain ⟨b3, rfl, hb3⟩ := Agt (by simp only [GC]; exact g3);obtain ⟨b4, rfl, hb4⟩ := Agt (by simp only [GC]; exact g4);obtain ⟨e6, rfl, l6, g6⟩ := Awn (s := Ad2) (by simp only [GC]; exact g6);obtain ⟨e7, rfl, l7, g7⟩ := Awn (s := Ad2) (by simp only [GC]; exact g7);obtain ⟨m6, rfl, _⟩ := Ac0 (f := Em) Agt g6;obtain ⟨m7, rfl, _⟩ := Ac0 (f := Em) Agt g7;exact ⟨⟨b0.1, b0.2, a, n2, b3.1, b3.2, b4.1, b4.2, s5, ⟨false, 2, m6⟩, ⟨false, 2, m7⟩, n8, s9, n10⟩, by simp [Bq, Em, SlI.pv]; rfl, ha, .inr rfl, .inr rfl, w5, w9⟩
structure EvRaw (e : Evt) : Prop where
 dep : ∀ i, i < 8 → e.dep i < 4294967296
 gone : e.gone.ok
 base : e.base.ok
theorem Ahh {e : Evt} (h : EvRaw e) (k : A1q e) : EvIn e := by
 obtain ⟨k1, k2, k3, k4⟩ := k;exact ⟨⟨h.gone, h.base, by omega, by omega, by omega⟩, h.dep⟩
theorem Awo {cs : List PV} (h : GC Wp cs) : ∃ e : Evt, cs = Bq e ∧ EvRaw e := by
 obtain ⟨e, h1, h2, h3, h4, _, _⟩ := A7v h;exact ⟨e, h1, ⟨h2, h3, h4⟩⟩
theorem A7w {cs : List PV} (h : GC (.sl Wp) cs) : ∃ l : List Evt, cs = [.sl false 21 (l.map Bq)] ∧ ∀ e ∈ l, EvRaw e := by
 obtain ⟨es, rfl, _, g⟩ := Awn h;obtain ⟨l, rfl, hl⟩ := Ac0 (f := Bq) (p := EvRaw) Awo g;exact ⟨l, rfl, hl⟩
theorem A4p {f : Bool} {z : Nat} {es : List (List PV)} {h d} (hz : es = [] ∨ z = 15) (hb : es.length ≤ 1000) : FunOk Tryz.prog 20 [.pv (.sl f z es)] h d (.os d) [.new d (.row 15 es)] := by
 refine Xp Af fn20 (by simp) rfl (.inl rfl) fun F => ?_;simp (disch := omega) only [ir20, go_sem];intro b hb';cases b
 · simp (disch := omega) only [go_sem]
 · have he : es = [] := by
    cases es with
    | nil => rfl
    | cons c l => exact absurd (hb' (by simp)) (by simp)
   subst he
   (try simp only [D4, D3, D2, D1, D0, Dx, Dw, Dv]); simp (disch := omega) only [go_sem]
   first | exact ⟨_, rfl⟩ | decide
theorem A4o {f : Bool} {z : Nat} {es : List (List PV)} {h d} (hz : es = [] ∨ z = 11) (hb : es.length ≤ 1000) : FunOk Tryz.prog 21 [.pv (.sl f z es)] h d (.pv (.sl false 11 es)) [] := by
 refine Rt Af fn21 (by simp) rfl fun F => ?_;simp (disch := omega) only [ir21, go_sem];intro b hb';cases b
 · simp (disch := omega) only [go_sem]
 · have he : es = [] := by
    cases es with
    | nil => rfl
    | cons c l => exact absurd (hb' (by simp)) (by simp)
   subst he
   (try simp only [D4, D3, D2, D1, D0, Dx, Dw, Dv]); simp (disch := omega) only [go_sem]
   first | exact ⟨_, rfl⟩ | decide
def A0m (j f : Nat) (args : List SV) : M9 := match args with
 | [.pv (.sl _ z es)] => if es.length ≤ 1000 then
    if f = 20 ∧ (es.isEmpty = true ∨ z = 15) then some (.os j, [.new j (.row 15 es)])
    else if f = 21 ∧ (es.isEmpty = true ∨ z = 11) then some (.pv (.sl false 11 es), [])
    else none
   else none
 | _ => none
def A38 : Vt := fun _ f args H => A0m (fresh H [] 1000 500000) f args
def Arx : Vt := fun d f args _ => A0m d f args
theorem Alr {j f : Nat} {args : List SV} {x : SV} {u : List HU} {h d} (e : A0m j f args = some (x, u)) : FunOk Tryz.prog f args h d x u := by
 unfold A0m at e;split at e
 · split at e
   · rename_i hb;split at e
     · rename_i hf; cases e; rw [hf.1]; exact A4p (Acy hf.2) hb
     · split at e
       · rename_i hf; cases e; rw [hf.1]; exact A4o (Acy hf.2) hb
       all_goals cases e
   · cases e
 · cases e
theorem Aya : A7t Tryz.prog A38 := fun d f args H x u h => FunOk.deep (d := d) (Alr h)
theorem Akh : A1o Tryz.prog Arx := fun d f args H x u h => Alr h
theorem Axx {f : Nat} {args : List SV} {x : SV} {u : List HU} (n : Nat) {H : HL} {d : Nat} (e : N3 Tryz.prog Arx (Vn Tryz.prog A38 Arx n) d f args H = some (x, u)) : FunOk Tryz.prog f args (fun k => lk none k H) d x u :=
 Aan Af Akh (Auo Af Aya Akh n) e
def A5n : M9 → Bool
 | some (.pv (.b true), []) => true
 | _ => false
theorem Azk {r : M9} (h : A5n r = true) : r = some (.pv (.b true), []) := by
 unfold A5n at h;split at h
 · rfl
 · cases h
theorem Bdv : A5n (N3 Tryz.prog Arx (Vn Tryz.prog A38 Arx 60) 0 4 [] []) = true := by kernel_rfl
theorem W2 {h d} : FunOk Tryz.prog 4 [] h d (.pv (.b true)) [] :=
 let ⟨h1, h2⟩ := Axx (H := []) (d := 0) 60 (Azk Bdv)
 ⟨h1, fun F N ρ s a w hR _ => h2 F N ρ s a w hR (by simp [A5])⟩
theorem Ab9 {P : Program} {t ty : Nat} {rest : List TypeId} (h : ∃ e, P.underlying t = some (.slice e)) (a : Option Addr) (n c : Nat) (w : World) : (Builtin.len_ ⟨t :: rest⟩ ty #[.slice a n c]).run P w = .ok (.int .i64 n) w := by
 obtain ⟨e, h⟩ := h;simp [Builtin.len_, Fw.run_underlying h, goInt]
def Z0 (v : Value) : Prop := ∃ s, v = .string s
structure Sim (T : Nat) (w w' : World) : Prop where
 os : w'.os = w.os
 tape : w'.tape = w.tape
 output : w'.output = w.output
 size : w'.heap.size = w.heap.size
 old : ∀ b, b < T → w'.heap[b]? = w.heap[b]?
 cells : ∀ (b : Nat) (c : Array Value) (ty : TypeId) (fr : Nat × Nat), w.heap[b]? = some (.cells c ty fr) → ∃ c' : Array Value, w'.heap[b]? = some (.cells c' ty fr) ∧ c'.size = c.size ∧ ∀ (i : Nat) (v : Value), c[i]? = some v → ∃ v', c'[i]? = some v' ∧ (v' = v ∨ Z0 v ∧ Z0 v')
theorem Sim.refl (T : Nat) (w : World) : Sim T w w := ⟨rfl, rfl, rfl, rfl, fun _ _ => rfl, fun b c ty fr h => ⟨c, h, rfl, fun i v hv => ⟨v, hv, .inl rfl⟩⟩⟩
theorem Sim.val {T : Nat} {w w' : World} (h : Sim T w w') {b : Nat} {c : Array Value} {ty fr} (hb : w.heap[b]? = some (.cells c ty fr)) {i : Nat} {v : Value} (hv : c[i]? = some v) (hs : ¬ Z0 v) : ∃ c' : Array Value, w'.heap[b]? = some (.cells c' ty fr) ∧ c'.size = c.size ∧ c'[i]? = some v := by
 obtain ⟨c', h1, h2, h3⟩ := h.cells b c ty fr hb;obtain ⟨v', h4, h5⟩ := h3 i v hv;rcases h5 with rfl | h5
 · exact ⟨c', h1, h2, h4⟩
 · exact absurd h5.1 hs
def CellW (w : World) (b i : Nat) (v : Value) : Prop := ∃ (c : Array Value) (ty : TypeId) (fr : Nat × Nat), w.heap[b]? = some (.cells c ty fr) ∧ c[i]? = some v ∧ noFroz fr c.size
theorem Sim.get {T : Nat} {w w' : World} (h : Sim T w w') {b i : Nat} {v : Value} (hc : CellW w b i v) (hs : ¬ Z0 v) : w'.cell? ⟨b, i, none⟩ = some v := by
 obtain ⟨c, ty, fr, h1, h2, _⟩ := hc;obtain ⟨c', k1, _, k3⟩ := h.val h1 h2 hs;rw [O9 k1]; exact k3
theorem Sim.str {T : Nat} {w w' : World} (h : Sim T w w') {b i : Nat} {v : Value} (hc : CellW w b i v) (hs : Z0 v) (hT : T ≤ b) (l : ByteArray) :
 (∃ s, w'.cell? ⟨b, i, none⟩ = some (.string s)) ∧ w'.frozen? ⟨b, i, none⟩ = false ∧ Sim T w (w'.setCell ⟨b, i, none⟩ (.string l)) := by
 obtain ⟨c, ty, fr, h1, h2, h3⟩ := hc;obtain ⟨c', k1, k2, k3⟩ := h.cells b c ty fr h1;have hi := (Array.getElem?_eq_some_iff.1 h2).1;obtain ⟨v', k4, k5⟩ := k3 i v h2;have hv' : Z0 v' := by
  rcases k5 with rfl | k5
  · exact hs
  · exact k5.2
 obtain ⟨s, rfl⟩ := hv';have hb' : b < w'.heap.size := (Array.getElem?_eq_some_iff.1 k1).1;refine ⟨⟨s, by rw [O9 k1]; exact k4⟩, ?_, ?_⟩
 · unfold World.frozen?;simp only [k1];have := noFroz.at h3 i hi;simp only [Bool.and_eq_false_iff, decide_eq_false_iff_not];omega
 · have hh : ∀ k, (w'.setCell ⟨b, i, none⟩ (.string l)).heap[k]? = if k = b then some (.cells (c'.setIfInBounds i (.string l)) ty fr) else w'.heap[k]? := fun k => by
    unfold World.setCell;simp only [Array.getElem?_modify];by_cases e : k = b
    · subst e; simp [k1]
    · rw [if_neg (Ne.symm e), if_neg e]
   refine ⟨h.os, h.tape, h.output, by unfold World.setCell; simpa using h.size, fun k hk => ?_, fun k ck tk fk hk => ?_⟩
   · rw [hh, if_neg (by omega)]; exact h.old k hk
   · by_cases e : k = b
     · subst e;rw [h1] at hk; cases hk;refine ⟨_, by rw [hh, if_pos rfl], by simpa using k2, fun j u hu => ?_⟩;obtain ⟨v', g1, g2⟩ := k3 j u hu;have hj := (Array.getElem?_eq_some_iff.1 g1).1;by_cases ej : j = i
       · subst ej;rw [h2] at hu; cases hu;exact ⟨.string l, by simp [Array.getElem?_setIfInBounds]; omega, .inr ⟨hs, l, rfl⟩⟩
       · exact ⟨v', by rw [Array.getElem?_setIfInBounds, if_neg (Ne.symm ej)]; exact g1, g2⟩
     · obtain ⟨c2, q1, q2, q3⟩ := h.cells k ck tk fk hk;exact ⟨c2, by rw [hh, if_neg e]; exact q1, q2, q3⟩
def Lh : Nat → Code → Code
 | 0, .seq a _ => a
 | n + 1, .seq _ b => Lh n b
 | _, c => c
def Eb (f : Func) : Code := f.body.getD .skip
def Jb : Code → Code
 | .seq a _ => a
 | c => c
def Fo : Code → Code
 | .seq _ b => b
 | c => c
def unB : Code → Code
 | .block _ c => c
 | c => c
def unL : Code → Code
 | .loop c => c
 | c => c
structure Kp (a a' : Act) : Prop where
 size : a'.tmps.size = a.tmps.size
 defers : a'.defers = a.defers
 tmp : ∀ n, n < 8 → a'.tmps[n]? = a.tmps[n]?
theorem Kp.refl (a : Act) : Kp a a := ⟨rfl, rfl, fun _ _ => rfl⟩
theorem Kp.trans {a b c : Act} (h : Kp a b) (k : Kp b c) : Kp a c := ⟨k.size.trans h.size, k.defers.trans h.defers, fun n hn => (k.tmp n hn).trans (h.tmp n hn)⟩
theorem ge {a : Act} {n : Nat} {v : Value} (h : a.tmps[n]? = some v) : ∃ h, a.tmps[n]'h = v := Array.getElem?_eq_some_iff.1 h
theorem Bai (a : Option Addr) (n c : Nat) (w : World) : (Builtin.len_ #[33] 3 #[.slice a n c]).run Tryz.prog w = .ok (.int .i64 n) w := Ab9 (P := Tryz.prog) (t := 33) (rest := []) ⟨_, Tryz.underlying33⟩ a n c w
theorem Bah (a : Option Addr) (n c : Nat) (w : World) : (Builtin.len_ #[34] 3 #[.slice a n c]).run Tryz.prog w = .ok (.int .i64 n) w := Ab9 (P := Tryz.prog) (t := 34) (rest := []) ⟨_, Tryz.underlying34⟩ a n c w
theorem Bag (a : Option Addr) (n c : Nat) (w : World) : (Builtin.len_ #[45] 3 #[.slice a n c]).run Tryz.prog w = .ok (.int .i64 n) w := Ab9 (P := Tryz.prog) (t := 45) (rest := []) ⟨_, Tryz.underlying45⟩ a n c w
noncomputable def cO : Code := Lh 6 (Eb Tryz.f3)
noncomputable def lO : Code := unL (unB (Fo cO))
noncomputable def bO : Code := unB (Jb (Fo (Fo lO)))
noncomputable def lI : Code := unL (unB (Fo (Fo (Fo bO))))
theorem Bek : cO = .seq (Jb cO) (.block 0 (.loop lO)) := rfl
theorem Bdx : lO = .seq (Jb lO) (.seq (.cond (.tmp 45) .skip (.exit 0)) (.seq (.block 1 bO) (Fo (Fo (Fo lO))))) := rfl
theorem Ber : bO = .seq (Jb bO) (.seq (Jb (Fo bO)) (.seq (Jb (Fo (Fo bO))) (.block 2 (.loop lI)))) := rfl
theorem Bdy : lI = .seq (Jb lI) (.seq (.cond (.tmp 60) .skip (.exit 2)) (.seq (.block 3 (unB (Jb (Fo (Fo lI))))) (Fo (Fo (Fo lI))))) := rfl
def muN (t n : Nat) (a : Act) : Nat := match a.tmps[t]? with
 | some (.int _ k) => n - k.toNat
 | _ => 0
structure VerAt (w0 : World) (T b0 o0 k m : Nat) (ad : Option Addr) (cap : Nat) : Prop where
 hd : CellW w0 b0 (o0 + k * 15 + 14) (.slice ad m cap)
 el : 0 < m → ∃ bV oV, ad = some ⟨bV, oV, none⟩ ∧ T ≤ bV ∧ ∀ j, j < m → ∃ s, CellW w0 bV (oV + j * 11 + 2) (.string s)
theorem Bav {Q : Exit → Act → World → Prop} {w0 : World} {T b7 n cap b0 o0 k m cv : Nat} {adv : Option Addr} {a : Act} {w : World} (hs : a.tmps.size = 88) (h7 : a.tmps[7]? = some (.pointer (some ⟨b7, 0, none⟩)))
 (h9 : a.tmps[9]? = some (.int .i64 (k : Int))) (h43 : a.tmps[43]? = some (.int .i64 (n : Int))) (h44 : a.tmps[44]? = some (.int .i64 (k : Int))) (h58 : a.tmps[58]? = some (.int .i64 (m : Int))) (h59 : a.tmps[59]? = some (.int .i64 (0 : Nat)))
 (hk : k < n) (hm : m ≤ 1000000) (hS : Sim T w0 w) (hO : CellW w0 b7 8 (.slice (some ⟨b0, o0, none⟩) n cap)) (hV : VerAt w0 T b0 o0 k m adv cv)
 (hQ : ∀ a' w', Kp a a' → a'.tmps[43]? = some (.int .i64 (n : Int)) → a'.tmps[44]? = some (.int .i64 (k : Int)) → Sim T w0 w' → Q .normal a' w') : (Code.block 2 (.loop lI)).wpIn (Gd none) 0 Tryz.prog Q a w := by
 refine wpIn_block ?_;refine wpIn_loop (fun a' w' => ∃ j : Nat, j ≤ m ∧ Kp a a' ∧ a'.tmps[9]? = some (.int .i64 (k : Int)) ∧ a'.tmps[43]? = some (.int .i64 (n : Int)) ∧ a'.tmps[44]? = some (.int .i64 (k : Int)) ∧ a'.tmps[58]? = some (.int .i64 (m : Int)) ∧ a'.tmps[59]? = some (.int .i64 (j : Int)) ∧ Sim T w0 w') (fun a' _ => muN 59 m a') ⟨0, by omega, Kp.refl a, h9, h43, h44, h58, h59, hS⟩ fun a' w' ⟨j, hj, hK, g9, g43, g44, g58, g59, hS'⟩ => ?_;have hs' : a'.tmps.size = 88 := hK.size.trans hs;have g7 : a'.tmps[7]? = some (.pointer (some ⟨b7, 0, none⟩)) := (hK.tmp 7 (by omega)).trans h7;obtain ⟨_, e7⟩ := ge g7;obtain ⟨_, e9⟩ := ge g9;obtain ⟨_, e43⟩ := ge g43;obtain ⟨_, e44⟩ := ge g44;obtain ⟨_, e58⟩ := ge g58;obtain ⟨_, e59⟩ := ge g59;rw [Bdy];refine wpIn_seq ?_;simp only [lI, bO, lO, cO, Lh, Eb, Tryz.f3, Option.getD_some, Jb, Fo, unB, unL];apply wpIn_region;simp [wpOpsIn, Oper.wpIn, Oper.uponIn, Result.andThen, go_sem, Exit.then, hs', e59, e58];have q1 := hS'.get hO (fun ⟨_, h⟩ => by cases h);have q2 := hS'.get hV.hd (fun ⟨_, h⟩ => by cases h);refine wpIn_seq ?_;by_cases hlt : j < m
 · refine wpIn_cond (t := true) (by simp [Act.eval, hs', hlt]) ?_;simp only [if_true];refine wpIn_skip ?_;obtain ⟨bV, oV, rfl, hT, hel⟩ := hV.el (by omega);obtain ⟨s, hc⟩ := hel j hlt;obtain ⟨⟨s', q3⟩, q4, q5⟩ := hS'.str hc ⟨s, rfl⟩ hT { data := #[63] };have hkn : (k : Int) < n := by omega
   have hjm : (j : Int) < m := by omega
   refine wpIn_seq ?_;refine wpIn_block ?_;refine wpIn_seq ?_;apply wpIn_region;simp [wpOpsIn, Oper.wpIn, Oper.uponIn, Result.andThen, go_sem, Exit.then, hs', e59];apply wpIn_region;simp [wpOpsIn, Oper.wpIn, Oper.uponIn, Result.andThen, go_sem, Exit.then, Exit.inBlock, hs', e59, e7, e9, q1, q2, q3, q4, hkn, hjm];apply wpIn_region;have hwr : IntKind.i64.wrap ((j : Int) + 1) = ((j + 1 : Nat) : Int) := Qt (by omega);simp [wpOpsIn, Oper.wpIn, Oper.uponIn, Result.andThen, go_sem, hs', e59];have m1 : muN 59 m a' = m - j := by simp [muN, g59]
   refine ⟨⟨j + 1, by omega, hK.trans ⟨by simp, rfl, fun n hn => by simp (disch := omega) only [Array.getElem?_setIfInBounds_ne]⟩, e9, e43, e44, e58, hwr, q5⟩, ?_⟩;rw [m1];simp [muN, hs', hwr];omega
 · refine wpIn_cond (t := false) (by simp [Act.eval, hs', hlt]) ?_;simp only [Bool.false_eq_true, if_false];refine wpIn_exit ?_;simp only [Exit.then, Exit.inBlock, if_true];refine hQ _ _ (hK.trans ⟨by simp, rfl, fun n hn => by simp (disch := omega) only [Array.getElem?_setIfInBounds_ne]⟩) ?_ ?_ hS'
   · simp (disch := omega) only [Array.getElem?_setIfInBounds_ne]; exact g43
   · simp (disch := omega) only [Array.getElem?_setIfInBounds_ne]; exact g44
theorem Kp.trans' {a b c : Act} (k : Kp b c) (h : Kp a b) : Kp a c := h.trans k
set_option maxHeartbeats 1000000 in
theorem A3k {Q : Exit → Act → World → Prop} {w0 : World} {T b7 n cap b0 o0 k m cv : Nat} {adv : Option Addr} {a : Act} {w : World} (hs : a.tmps.size = 88) (h7 : a.tmps[7]? = some (.pointer (some ⟨b7, 0, none⟩)))
 (h9 : a.tmps[9]? = some (.int .i64 (k : Int))) (h43 : a.tmps[43]? = some (.int .i64 (n : Int))) (h44 : a.tmps[44]? = some (.int .i64 (k : Int)))
 (hk : k < n) (hm : m ≤ 1000000) (hS : Sim T w0 w) (hO : CellW w0 b7 8 (.slice (some ⟨b0, o0, none⟩) n cap)) (hV : VerAt w0 T b0 o0 k m adv cv)
 (hQ : ∀ a' w', Kp a a' → a'.tmps[43]? = some (.int .i64 (n : Int)) → a'.tmps[44]? = some (.int .i64 (k : Int)) → Sim T w0 w' → Q .normal a' w') : (Code.seq (Jb (Fo (Fo bO))) (.block 2 (.loop lI))).wpIn (Gd none) 0 Tryz.prog Q a w := by
 obtain ⟨_, e7⟩ := ge h7;obtain ⟨_, e9⟩ := ge h9;obtain ⟨_, e43⟩ := ge h43;obtain ⟨_, e44⟩ := ge h44;have p1 := hS.get hO (fun ⟨_, h⟩ => by cases h);have p2 := hS.get hV.hd (fun ⟨_, h⟩ => by cases h);have hkn : (k : Int) < n := by omega
 refine wpIn_seq ?_;simp only [bO, lO, cO, Lh, Eb, Tryz.f3, Option.getD_some, Jb, Fo, unB, unL];apply wpIn_region;simp [wpOpsIn, Oper.wpIn, Oper.uponIn, Result.andThen, go_sem, Exit.then, hs, e7, e9, p1, p2, hkn, Bag];refine Bav (T := T) (w0 := w0) (b7 := b7) (n := n) (k := k) (m := m) (by simp [hs]) (by simp [hs, e7]) (by simp [hs, e9]) (by simp [hs, e43]) (by simp [hs, e44]) (by simp [hs]) (by simp [hs]) hk hm hS hO hV fun a2 w2 k1 k2 k3 k4 => hQ a2 w2 (Kp.trans' k1 ?_) k2 k3 k4;exact ⟨by simp, rfl, fun n hn => by simp (disch := omega) only [Array.getElem?_setIfInBounds_ne]⟩
set_option maxHeartbeats 1000000 in
theorem Bbu {Q : Exit → Act → World → Prop} {w0 : World} {T b7 n cap b0 o0 k m cv : Nat} {adv : Option Addr} {a : Act} {w : World} {s : ByteArray} (hs : a.tmps.size = 88) (h7 : a.tmps[7]? = some (.pointer (some ⟨b7, 0, none⟩)))
 (h43 : a.tmps[43]? = some (.int .i64 (n : Int))) (h44 : a.tmps[44]? = some (.int .i64 (k : Int)))
 (hk : k < n) (hm : m ≤ 1000000) (hS : Sim T w0 w) (hT : T ≤ b0) (hO : CellW w0 b7 8 (.slice (some ⟨b0, o0, none⟩) n cap)) (hN : CellW w0 b0 (o0 + k * 15 + 5) (.string s)) (hV : VerAt w0 T b0 o0 k m adv cv)
 (hQ : ∀ a' w', Kp a a' → a'.tmps[43]? = some (.int .i64 (n : Int)) → a'.tmps[44]? = some (.int .i64 (k : Int)) → Sim T w0 w' → Q .normal a' w') : bO.wpIn (Gd none) 0 Tryz.prog Q a w := by
 obtain ⟨⟨s', q3⟩, q4, q5⟩ := hS.str hN ⟨s, rfl⟩ hT { data := #[63] };obtain ⟨_, e7⟩ := ge h7;obtain ⟨_, e43⟩ := ge h43;obtain ⟨_, e44⟩ := ge h44;have p1 := hS.get hO (fun ⟨_, h⟩ => by cases h);have hkn : (k : Int) < n := by omega
 rw [Ber];refine wpIn_seq ?_;have f1 : Jb bO = Jb (unB (Jb (Fo (Fo (unL (unB (Fo (Lh 6 (Eb Tryz.f3))))))))) := rfl;have f2 : Jb (Fo bO) = Jb (Fo (unB (Jb (Fo (Fo (unL (unB (Fo (Lh 6 (Eb Tryz.f3)))))))))) := rfl;rw [f1, f2];generalize hG : Jb (Fo (Fo bO)) = G;simp only [Lh, Eb, Tryz.f3, Option.getD_some, Jb, Fo, unB, unL];apply wpIn_region;simp [wpOpsIn, Oper.wpIn, Oper.uponIn, Result.andThen, go_sem, Exit.then, hs, e44];refine wpIn_seq ?_;apply wpIn_region;simp [wpOpsIn, Oper.wpIn, Oper.uponIn, Result.andThen, go_sem, Exit.then, hs, e7, p1, q3, q4, hkn];rw [← hG];refine A3k (T := T) (w0 := w0) (b7 := b7) (n := n) (k := k) (m := m) (by simp [hs]) (by simp [hs, e7]) (by simp [hs]) (by simp [hs, e43]) (by simp [hs, e44]) hk hm q5 hO hV fun a2 w2 k1 k2 k3 k4 => hQ a2 w2 (Kp.trans' k1 ?_) k2 k3 k4;exact ⟨by simp, rfl, fun n hn => by simp (disch := omega) only [Array.getElem?_setIfInBounds_ne]⟩
set_option maxHeartbeats 1000000 in
theorem Bae {Q : Exit → Act → World → Prop} {w0 : World} {T b7 n cap : Nat} {ad : Option Addr} {a : Act} {w : World} (hs : a.tmps.size = 88) (h7 : a.tmps[7]? = some (.pointer (some ⟨b7, 0, none⟩)))
 (hn : n ≤ 1000000) (hS : Sim T w0 w) (hO : CellW w0 b7 8 (.slice ad n cap))
 (hV : 0 < n → ∃ b0 o0, ad = some ⟨b0, o0, none⟩ ∧ T ≤ b0 ∧ ∀ k, k < n → (∃ s, CellW w0 b0 (o0 + k * 15 + 5) (.string s)) ∧ ∃ m adv cv, m ≤ 1000000 ∧ VerAt w0 T b0 o0 k m adv cv)
 (hQ : ∀ a' w', Kp a a' → Sim T w0 w' → Q .normal a' w') : cO.wpIn (Gd none) 0 Tryz.prog Q a w := by
 rw [Bek];refine wpIn_seq ?_;have q1 := hS.get hO (fun ⟨_, h⟩ => by cases h);obtain ⟨_, e7⟩ := ge h7;have L : ∀ a1, Kp a a1 → a1.tmps[43]? = some (.int .i64 (n : Int)) → a1.tmps[44]? = some (.int .i64 (0 : Nat)) → (Code.block 0 (.loop lO)).wpIn (Gd none) 0 Tryz.prog Q a1 w := by
  intro a1 K1 f43 f44;refine wpIn_block ?_;refine wpIn_loop (fun a' w' => ∃ k : Nat, k ≤ n ∧ Kp a a' ∧ a'.tmps[43]? = some (.int .i64 (n : Int)) ∧ a'.tmps[44]? = some (.int .i64 (k : Int)) ∧ Sim T w0 w') (fun a' _ => muN 44 n a') ⟨0, by omega, K1, f43, f44, hS⟩ fun a' w' ⟨k, hk, hK, g43, g44, hS'⟩ => ?_;have hs' : a'.tmps.size = 88 := hK.size.trans hs;have g7 : a'.tmps[7]? = some (.pointer (some ⟨b7, 0, none⟩)) := (hK.tmp 7 (by omega)).trans h7;obtain ⟨_, e7⟩ := ge g7;obtain ⟨_, e43⟩ := ge g43;obtain ⟨_, e44⟩ := ge g44;have q1 := hS'.get hO (fun ⟨_, h⟩ => by cases h);rw [Bdx];refine wpIn_seq ?_;simp only [lO, cO, Lh, Eb, Tryz.f3, Option.getD_some, Jb, Fo, unB, unL];apply wpIn_region;simp [wpOpsIn, Oper.wpIn, Oper.uponIn, Result.andThen, go_sem, Exit.then, hs', e43, e44];refine wpIn_seq ?_;by_cases hlt : k < n
  · refine wpIn_cond (t := true) (by simp [Act.eval, hs', hlt]) ?_;simp only [if_true];refine wpIn_skip ?_;obtain ⟨b0, o0, rfl, hT, hel⟩ := hV (by omega);obtain ⟨⟨s, hc⟩, m, adv, cv, hm, hVA⟩ := hel k hlt;obtain ⟨⟨s', q3⟩, q4, q5⟩ := hS'.str hc ⟨s, rfl⟩ hT { data := #[63] };have hkn : (k : Int) < n := by omega
    refine wpIn_seq ?_;refine wpIn_block ?_;refine Bbu (T := T) (w0 := w0) (b7 := b7) (n := n) (k := k) (m := m) (by simp [hs']) (by simp [hs', e7]) (by simp [hs', e43]) (by simp [hs', e44]) hlt hm hS' hT hO hc hVA fun a2 w2 k1 k2 k3 k4 => ?_;simp only [Exit.inBlock, Exit.then];have hs2 : a2.tmps.size = 88 := by rw [k1.size]; simp [hs']
    obtain ⟨_, x44⟩ := ge k3;obtain ⟨_, x43⟩ := ge k2;apply wpIn_region;have hwr : IntKind.i64.wrap ((k : Int) + 1) = ((k + 1 : Nat) : Int) := Qt (by omega);simp [wpOpsIn, Oper.wpIn, Oper.uponIn, Result.andThen, go_sem, hs2, x44];have m1 : muN 44 n a' = n - k := by simp [muN, g44]
    refine ⟨⟨k + 1, by omega, hK.trans (Kp.trans' (Kp.trans' ?_ k1) ?_), x43, hwr, k4⟩, ?_⟩
    · exact ⟨by simp, rfl, fun n hn => by simp (disch := omega) only [Array.getElem?_setIfInBounds_ne]⟩
    · exact ⟨by simp, rfl, fun n hn => by simp (disch := omega) only [Array.getElem?_setIfInBounds_ne]⟩
    rw [m1];simp [muN, hs2, hwr];omega
  · refine wpIn_cond (t := false) (by simp [Act.eval, hs', hlt]) ?_;simp only [Bool.false_eq_true, if_false];refine wpIn_exit ?_;simp only [Exit.then, Exit.inBlock, if_true];exact hQ _ _ (hK.trans ⟨by simp, rfl, fun n hn => by simp (disch := omega) only [Array.getElem?_setIfInBounds_ne]⟩) hS'
 simp only [cO, Lh, Eb, Tryz.f3, Option.getD_some, Jb];apply wpIn_region;simp [wpOpsIn, Oper.wpIn, Oper.uponIn, Result.andThen, go_sem, Exit.then, hs, e7, q1, Bai];refine L _ ⟨by simp, rfl, fun n hn => by simp (disch := omega) only [Array.getElem?_setIfInBounds_ne]⟩ ?_ ?_
 · simp [hs]
 · simp [hs]
noncomputable def cE : Code := Lh 7 (Eb Tryz.f3)
noncomputable def lE : Code := unL (unB (Fo cE))
theorem Bel : cE = .seq (Jb cE) (.block 4 (.loop lE)) := rfl
set_option maxHeartbeats 1000000 in
theorem Baf {Q : Exit → Act → World → Prop} {w0 : World} {T b7 n cap : Nat} {ad : Option Addr} {a : Act} {w : World} (hs : a.tmps.size = 88) (h7 : a.tmps[7]? = some (.pointer (some ⟨b7, 0, none⟩)))
 (hn : n ≤ 1000000) (hS : Sim T w0 w) (hO : CellW w0 b7 9 (.slice ad n cap))
 (hV : 0 < n → ∃ b0 o0, ad = some ⟨b0, o0, none⟩ ∧ T ≤ b0 ∧ ∀ k, k < n → ∃ s, CellW w0 b0 (o0 + k * 15 + 4) (.string s))
 (hQ : ∀ a' w', Kp a a' → Sim T w0 w' → Q .normal a' w') : cE.wpIn (Gd none) 0 Tryz.prog Q a w := by
 rw [Bel];refine wpIn_seq ?_;have q1 := hS.get hO (fun ⟨_, h⟩ => by cases h);obtain ⟨_, e7⟩ := ge h7;have L : ∀ a1, Kp a a1 → a1.tmps[75]? = some (.int .i64 (n : Int)) → a1.tmps[76]? = some (.int .i64 (0 : Nat)) → (Code.block 4 (.loop lE)).wpIn (Gd none) 0 Tryz.prog Q a1 w := by
  intro a1 K1 f43 f44;refine wpIn_block ?_;refine wpIn_loop (fun a' w' => ∃ k : Nat, k ≤ n ∧ Kp a a' ∧ a'.tmps[75]? = some (.int .i64 (n : Int)) ∧ a'.tmps[76]? = some (.int .i64 (k : Int)) ∧ Sim T w0 w') (fun a' _ => muN 76 n a') ⟨0, by omega, K1, f43, f44, hS⟩ fun a' w' ⟨k, hk, hK, g43, g44, hS'⟩ => ?_;have hs' : a'.tmps.size = 88 := hK.size.trans hs;have g7 : a'.tmps[7]? = some (.pointer (some ⟨b7, 0, none⟩)) := (hK.tmp 7 (by omega)).trans h7;obtain ⟨_, e7⟩ := ge g7;obtain ⟨_, e43⟩ := ge g43;obtain ⟨_, e44⟩ := ge g44;have q1 := hS'.get hO (fun ⟨_, h⟩ => by cases h);simp only [lE, cE, Lh, Eb, Tryz.f3, Option.getD_some, Jb, Fo, unB, unL];refine wpIn_seq ?_;apply wpIn_region;simp [wpOpsIn, Oper.wpIn, Oper.uponIn, Result.andThen, go_sem, Exit.then, hs', e43, e44];refine wpIn_seq ?_;by_cases hlt : k < n
  · refine wpIn_cond (t := true) (by simp [Act.eval, hs', hlt]) ?_;simp only [if_true];refine wpIn_skip ?_;obtain ⟨b0, o0, rfl, hT, hel⟩ := hV (by omega);obtain ⟨s, hc⟩ := hel k hlt;obtain ⟨⟨s', q3⟩, q4, q5⟩ := hS'.str hc ⟨s, rfl⟩ hT { data := #[63] };have hkn : (k : Int) < n := by omega
    refine wpIn_seq ?_;refine wpIn_block ?_;refine wpIn_seq ?_;apply wpIn_region;simp [wpOpsIn, Oper.wpIn, Oper.uponIn, Result.andThen, go_sem, Exit.then, hs', e44];apply wpIn_region;simp [wpOpsIn, Oper.wpIn, Oper.uponIn, Result.andThen, go_sem, Exit.then, Exit.inBlock, hs', e44, e7, q1, q3, q4, hkn];apply wpIn_region;have hwr : IntKind.i64.wrap ((k : Int) + 1) = ((k + 1 : Nat) : Int) := Qt (by omega);simp [wpOpsIn, Oper.wpIn, Oper.uponIn, Result.andThen, go_sem, hs', e44];have m1 : muN 76 n a' = n - k := by simp [muN, g44]
    refine ⟨⟨k + 1, by omega, hK.trans ⟨by simp, rfl, fun n hn => by simp (disch := omega) only [Array.getElem?_setIfInBounds_ne]⟩, e43, hwr, q5⟩, ?_⟩;rw [m1];simp [muN, hs', hwr];omega
  · refine wpIn_cond (t := false) (by simp [Act.eval, hs', hlt]) ?_;simp only [Bool.false_eq_true, if_false];refine wpIn_exit ?_;simp only [Exit.then, Exit.inBlock, if_true];exact hQ _ _ (hK.trans ⟨by simp, rfl, fun n hn => by simp (disch := omega) only [Array.getElem?_setIfInBounds_ne]⟩) hS'
 simp only [cE, Lh, Eb, Tryz.f3, Option.getD_some, Jb];apply wpIn_region;simp [wpOpsIn, Oper.wpIn, Oper.uponIn, Result.andThen, go_sem, Exit.then, hs, e7, q1, Bah];refine L _ ⟨by simp, rfl, fun n hn => by simp (disch := omega) only [Array.getElem?_setIfInBounds_ne]⟩ ?_ ?_
 · simp [hs]
 · simp [hs]
end Go.Proofs.YthiamojjhdcegaaGreat.Fw
namespace Go.Proofs.YthiamojjhdcegaaGreat.Fw
variable [Th]
open Go.RowKit Go.Proofs
section
variable {P : Program} {ops : Array Oper} {Q : Exit → Act → World → Prop} {i : Nat} {rest : List Nat} {a : Act} {w w' : World} {o : Oper} {v : Value}
theorem Kk (d : Option Nat) (ho : ops[i]? = some o) (hd : o.dst = d) (hw : Region.wanted o (yielded ops a.tmps) = true) (h : (execOp a.eval o).run P w = .ok (.value v) w') (k : wpOpsIn (Gd none) 0 P ops Q rest (a.put d v) w') : wpOpsIn (Gd none) 0 P ops Q (i :: rest) a w := by
 subst hd;simp only [wpOpsIn, ho];rw [if_pos hw];refine ⟨fun _ _ => trivial, ?_⟩;rw [Oper.semAt_none, h]; exact k
theorem Aeh (d : Option Nat) (ho : ops[i]? = some o) (hd : o.dst = d) (hw : Region.wanted o (yielded ops a.tmps) = true) (h : (execOp a.eval o).run P w = .ok .skip w') (k : wpOpsIn (Gd none) 0 P ops Q rest (a.put d undef) w') : wpOpsIn (Gd none) 0 P ops Q (i :: rest) a w := by
 subst hd;simp only [wpOpsIn, ho];rw [if_pos hw];refine ⟨fun _ _ => trivial, ?_⟩;rw [Oper.semAt_none, h]; exact k
theorem Aei (d : Option Nat) {f : Nat} {args : Array Value} (ho : ops[i]? = some o) (hd : o.dst = d) (hw : Region.wanted o (yielded ops a.tmps) = true) (h : (execOp a.eval o).run P w = .ok (.enter f args) w') (hc : Calls P f args w' fun e w2 => ∃ v, e = .returned v ∧ wpOpsIn (Gd none) 0 P ops Q rest (a.put d v) w2) : wpOpsIn (Gd none) 0 P ops Q (i :: rest) a w := by
 subst hd;simp only [wpOpsIn, ho];rw [if_pos hw];refine ⟨fun _ _ => trivial, ?_⟩;rw [Oper.semAt_none, h];refine ⟨fun h => by simp at h, CallsIn.mono (callsIn_wide.2 hc) fun e w2 he => ?_⟩;obtain ⟨v, rfl, k⟩ := he;exact k
theorem Acs {t : TypeId} {x : Operand} (hp : o.op = .load t x) (h : (Instr.loadAt t (a.eval x)).run P w = .ok v w') : (execOp a.eval o).run P w = .ok (.value v) w' := by
 unfold execOp; rw [hp]; simp only;rw [Ab h]; rfl
theorem Aln {x : Operand} (hp : o.op = .move x ∨ o.op = .assign x) : (execOp a.eval o).run P w = .ok (.value (a.eval x)) w := by
 unfold execOp;rcases hp with hp | hp <;> rw [hp] <;> rfl
theorem Aum {x : Operand} {k : Nat} {vs : Array Value} (hp : o.op = .extract x k) (hx : a.eval x = .tuple vs) (hk : vs[k]? = some v) : (execOp a.eval o).run P w = .ok (.value v) w := by
 unfold execOp; rw [hp]; simp only [hx];unfold Instr.extract;simp only [hk]; rfl
theorem Aun {t : TypeId} {zv : Value} (hp : o.op = .alloc t) (hz : (zeroValue t).run P w = .ok zv w) : (execOp a.eval o).run P w = .ok (.value (.pointer (some ⟨w.heap.size, 0, none⟩))) { w with heap := w.heap.push (.cells zv.cells t) } := by
 unfold execOp; rw [hp]; simp only;have : (Instr.alloc t true (.tuple #[])).run P w = .ok (.pointer (some ⟨w.heap.size, 0, none⟩)) { w with heap := w.heap.push (.cells zv.cells t) } := by
  unfold Instr.alloc;rw [Ab hz];simp only;rw [Ab Pz]; rfl
 rw [Ab this]; rfl
theorem Afz {t : TypeId} {x y : Operand} (hp : o.op = .store t x y) (h : (Instr.storeAt t (a.eval x) (a.eval y)).run P w = .ok () w') : (execOp a.eval o).run P w = .ok .skip w' := by
 unfold execOp; rw [hp]; simp only;rw [Ab h]; rfl
end
theorem Arq {a : Act} {d n : Nat} {v : Value} (h : d ≠ n) : (a.put (some d) v).tmps[n]? = a.tmps[n]? := Array.getElem?_setIfInBounds_ne h
theorem Aed {a : Act} {v : Value} : a.put none v = a := rfl
noncomputable def c5 : Code := Lh 4 (Eb Tryz.f3)
noncomputable def c6 : Code := Lh 5 (Eb Tryz.f3)
theorem Bbq (args : Array Value) (w : World) : (callFunc 9 args).run Tryz.prog w = .ok (.enter 9 args) w := by simp [go_sem, Tryz.func9, Tryz.f9]
theorem Bbr (args : Array Value) (w : World) : (callFunc 8 args).run Tryz.prog w = .ok (.enter 8 args) w := by simp [go_sem, Tryz.func8, Tryz.f8]
theorem z38 : Ai Tryz.prog 38 = some 26 := by kernel_rfl
theorem A2a : Tz Tryz.prog 38 = some (.agg [.vec 8 (List.replicate 8 (.i .u32 0)), .pv (.sl true 0 []), .pv (.sl true 0 []), .vec 8 (List.replicate 8 (.i .i64 0)), .vec 8 (List.replicate 8 (.b false))]) := by kernel_rfl
set_option maxHeartbeats 4000000 in
theorem Bdi {Q : Exit → Act → World → Prop} {b5 b3 : Nat} {vS vX : Value} {a : Act} {w : World} {G : List Value → Int → World → Prop} (hs : a.tmps.size = 88) (h5 : a.tmps[5]? = some (.pointer (some ⟨b5, 0, none⟩))) (h3 : a.tmps[3]? = some (.pointer (some ⟨b3, 0, none⟩)))
 (hl5 : (Instr.loadAt 38 (.pointer (some ⟨b5, 0, none⟩))).run Tryz.prog w = .ok vS w) (hl3 : (Instr.loadAt 30 (.pointer (some ⟨b3, 0, none⟩))).run Tryz.prog w = .ok vX w)
 (hc : Calls Tryz.prog 9 #[vS, vX] w fun e w2 => ∃ cs why, e = .returned (.tuple #[.agg ⟨cs⟩, .int .i64 why]) ∧ cs.length = 26 ∧ (∀ c ∈ cs, A3 c) ∧ G cs why w2)
 (hQ : ∀ a' w2 w3 cs why, G cs why w2 → a'.tmps.size = 88 → a'.defers = a.defers → (∀ n, n < 7 → a'.tmps[n]? = a.tmps[n]?) → a'.tmps[7]? = some (.pointer (some ⟨w2.heap.size, 0, none⟩)) → a'.tmps[8]? = some (.int .i64 why) → Grew w2 w3 → w3.heap[w2.heap.size]? = some (.cells ⟨cs⟩ 38 (0, 0)) → cs.length = 26 → Q .normal a' w3) : c5.wpIn (Gd none) 0 Tryz.prog Q a w := by
 obtain ⟨_, e5⟩ := ge h5;obtain ⟨_, e3⟩ := ge h3;obtain ⟨zv, hzr, hzc⟩ := Vw A2a;obtain ⟨_, hzl, hzo⟩ := hzc (fun _ => none) (fun _ => undef);have hzl : (Ar zv).length = 26 := hzl;simp only [c5, Lh, Eb, Tryz.f3, Option.getD_some];apply wpIn_region;show wpOpsIn _ _ _ _ _ [0, 1, 2, 3, 4, 5, 6, 7, 8] _ _;refine Kk (some 32) rfl rfl (by simp [Region.wanted]) (Acs rfl (by simpa [Act.eval, e5, hs] using hl5)) ?_;refine Kk (some 33) rfl rfl (by simp [Region.wanted]) (Acs rfl (by simpa [Act.eval, Act.put, e3, hs] using hl3)) ?_;refine Aei (some 34) (f := 9) (args := #[vS, vX]) rfl rfl (by simp [Region.wanted]) ?_ (hc.mono fun e w2 he => ?_)
 · have := Bbq #[vS, vX] w;simp [go_sem, hs, Act.put, Act.eval]
 obtain ⟨cs, why, rfl, hcl, hco, hG⟩ := he;refine ⟨_, rfl, ?_⟩;refine Kk (some 31) rfl rfl (by simp [Region.wanted]) (Aln (.inl rfl)) ?_;refine Kk (some 35) (v := .agg ⟨cs⟩) rfl rfl (by simp [Region.wanted]) (Aum (vs := #[.agg ⟨cs⟩, .int .i64 why]) rfl (by simp [Act.eval, Act.put, hs]) rfl) ?_;refine Kk (some 36) (v := .int .i64 why) rfl rfl (by simp [Region.wanted]) (Aum (vs := #[.agg ⟨cs⟩, .int .i64 why]) rfl (by simp [Act.eval, Act.put, hs]) rfl) ?_;refine Kk (some 7) rfl rfl (by simp [Region.wanted]) (Aun rfl (hzr _)) ?_;have hb : ({ w2 with heap := w2.heap.push (.cells zv.cells 38) } : World).heap[w2.heap.size]? = some (.cells ⟨Ar zv⟩ 38 (0, 0)) := by simp [Mp]
 obtain ⟨w3, r1, r2⟩ := G2 (P := Tryz.prog) (t := 38) (size := 26) (b := w2.heap.size) (off := 0) (u := .agg ⟨cs⟩) z38 hb (.inl rfl) (by simpa [Ar] using hcl) (by simpa [Ar] using hco) (by omega);refine Aeh none rfl rfl (by simp [Region.wanted]) (Afz rfl (w' := w3) (by simpa [Act.eval, Act.put, hs] using r1)) ?_;refine Kk (some 8) rfl rfl (by simp [Region.wanted]) (Aln (.inr rfl)) ?_;simp only [wpOpsIn];have hh : w3.heap[w2.heap.size]? = some (.cells ⟨cs⟩ 38 (0, 0)) := by
  rw [r2.here, List.take_zero, List.nil_append, List.drop_eq_nil_of_le (by omega), List.append_nil];rfl
 have hgr : Grew w2 w3 := ⟨r2.os, r2.tape, r2.output, by rw [r2.size]; simp, fun b hb => by
  rw [r2.block b (by omega)];simp [Array.getElem?_push, Nat.ne_of_lt hb]⟩
 refine hQ _ w2 w3 cs why hG ?_ ?_ (fun n hn => ?_) ?_ ?_ hgr hh hcl
 · simp [Act.put, hs]
 · simp [Act.put]
 · skip
   simp (disch := omega) only [Arq, Aed]
 · simp [Act.put, hs]
 · simp [Act.put, Act.eval, hs]
set_option maxHeartbeats 4000000 in
theorem Bdh {Q : Exit → Act → World → Prop} {b5 b7 : Nat} {why : Int} {vS : Value} {cs0 : List Value} {a : Act} {w : World} {G : List Value → World → Prop} (hs : a.tmps.size = 88) (h5 : a.tmps[5]? = some (.pointer (some ⟨b5, 0, none⟩))) (h7 : a.tmps[7]? = some (.pointer (some ⟨b7, 0, none⟩))) (h8 : a.tmps[8]? = some (.int .i64 why))
 (hl5 : (Instr.loadAt 38 (.pointer (some ⟨b5, 0, none⟩))).run Tryz.prog w = .ok vS w)
 (hc : Calls Tryz.prog 8 #[vS] w fun e w2 => ∃ cs, e = .returned (.agg ⟨cs⟩) ∧ cs.length = 26 ∧ (∀ c ∈ cs, A3 c) ∧ w2.heap[b7]? = some (.cells ⟨cs0⟩ 38 (0, 0)) ∧ cs0.length = 26 ∧ G cs w2)
 (hQ1 : why = 0 → ∀ a', Kp a a' → Q .normal a' w)
 (hQ2 : why ≠ 0 → ∀ a' w2 w3 cs, G cs w2 → Kp a a' → w3.heap.size = w2.heap.size → (∀ b, b ≠ b7 → w3.heap[b]? = w2.heap[b]?) → w3.os = w2.os → w3.tape = w2.tape → w3.output = w2.output → w3.heap[b7]? = some (.cells ⟨cs⟩ 38 (0, 0)) → cs.length = 26 → Q .normal a' w3) : c6.wpIn (Gd none) 0 Tryz.prog Q a w := by
 obtain ⟨_, e5⟩ := ge h5;obtain ⟨_, e7⟩ := ge h7;obtain ⟨_, e8⟩ := ge h8;simp only [c6, Lh, Eb, Tryz.f3, Option.getD_some];refine wpIn_seq ?_;apply wpIn_region;simp [wpOpsIn, Oper.wpIn, Oper.uponIn, Result.andThen, go_sem, Exit.then, hs, e8];by_cases hy : why = 0
 · refine wpIn_cond (t := false) (by simp [Act.eval, hs, hy]) ?_;simp only [Bool.false_eq_true, if_false];refine wpIn_skip ?_;exact hQ1 hy _ ⟨by simp, rfl, fun n hn => by simp (disch := omega) only [Array.getElem?_setIfInBounds_ne]⟩
 · refine wpIn_cond (t := true) (by simp [Act.eval, hs, hy]) ?_;simp only [if_true];apply wpIn_region;show wpOpsIn _ _ _ _ _ [0, 1, 2] _ _;refine Kk (some 39) rfl rfl (by simp [Region.wanted]) (Acs rfl (by simpa [Act.eval, e5, hs] using hl5)) ?_;refine Aei (some 40) (f := 8) (args := #[vS]) rfl rfl (by simp [Region.wanted]) ?_ (hc.mono fun e w2 he => ?_)
   · have := Bbr #[vS] w;simp [go_sem, hs, Act.put, Act.eval]
   obtain ⟨cs, rfl, hcl, hco, hb, hl0, hG⟩ := he;refine ⟨_, rfl, ?_⟩;obtain ⟨w3, r1, r2⟩ := G2 (P := Tryz.prog) (t := 38) (size := 26) (b := b7) (off := 0) (u := .agg ⟨cs⟩) z38 hb (.inl rfl) (by simpa [Ar] using hcl) (by simpa [Ar] using hco) (by omega);refine Aeh none rfl rfl (by simp [Region.wanted]) (Afz rfl (w' := w3) (by simpa [Act.eval, Act.put, hs, e7] using r1)) ?_;simp only [wpOpsIn];have hh : w3.heap[b7]? = some (.cells ⟨cs⟩ 38 (0, 0)) := by
    rw [r2.here, List.take_zero, List.nil_append, List.drop_eq_nil_of_le (by omega), List.append_nil];rfl
   refine hQ2 hy _ w2 w3 cs hG ⟨?_, ?_, fun n hn => ?_⟩ r2.size (fun b hb => r2.block b hb) r2.os r2.tape r2.output hh hcl
   · simp [Act.put]
   · simp [Act.put]
   · simp (disch := omega) only [Arq, Aed, Array.getElem?_setIfInBounds_ne]
end Go.Proofs.YthiamojjhdcegaaGreat.Fw
namespace Go.Proofs.YthiamojjhdcegaaGreat.Fw
variable [Th]
open Go.RowKit Go.Proofs
inductive NF : PV → Prop
 | i (k n) : NF (.i k n)
 | b (x) : NF (.b x)
 | s (l) : NF (.s l)
 | v (x) : NF (.v x)
 | sl (f z es) (h : ∀ c ∈ es, ∀ x ∈ c, NF x) : NF (.sl f z es)
theorem Wx {t1 t2 : Nat} {V V' : View} (hV : V.le V') {x : PV} {v : Value} (h : @PConc ⟨t1⟩ V x v) (n : NF x) : @PConc ⟨t2⟩ V' x v := by
 induction h with
 | i k m => exact @PConc.i ⟨t2⟩ V' k m
 | b x => exact @PConc.b ⟨t2⟩ V' x
 | s l => exact @PConc.s ⟨t2⟩ V' l
 | v x h => exact @PConc.v ⟨t2⟩ V' x h
 | sl full sz es a cap cs bl off arr hcap hfull hsz ha hcs hel ih =>
   cases n with
   | sl _ _ _ hn => exact @PConc.sl ⟨t2⟩ V' full sz es a cap cs bl off arr hcap hfull hsz (fun h => ⟨(ha h).1, hV _ _ (ha h).2⟩) hcs fun i j c x hi hj => ih i j c x hi hj (hn c (List.mem_of_getElem? hi) x (List.mem_of_getElem? hj))
 | fs => cases n
theorem Ov {t1 t2 : Nat} {V V' : View} (hV : V.le V') {cs : List PV} {vs : List Value} (h : @PCells ⟨t1⟩ V cs vs) (n : ∀ x ∈ cs, NF x) : @PCells ⟨t2⟩ V' cs vs :=
 ⟨h.1, fun j x hx => let ⟨v, a, b⟩ := h.2 j x hx; ⟨v, a, Wx hV b (n x (List.mem_of_getElem? hx))⟩⟩
theorem Ae0 (v : Vc) : ∀ x ∈ vE v, NF x := by
 intro x hx;simp only [vE, Cj] at hx;obtain ⟨i, _, rfl⟩ := List.mem_map.1 hx;constructor
theorem Ayy (v : Ver) : ∀ x ∈ A6 v, NF x := by
 intro x hx;simp only [A6, List.mem_cons] at hx;rcases hx with rfl | rfl | rfl | hx
 · constructor
 · constructor
 · constructor
 · exact Ae0 _ x hx
theorem Ayz (o : Obj) : ∀ x ∈ A4 o, NF x := by
 intro x hx;simp only [A4, E0, List.mem_append, List.mem_cons, List.not_mem_nil, or_false] at hx;rcases hx with (hx | hx) | rfl
 · rcases hx with rfl | rfl | rfl | rfl | rfl | rfl <;> constructor
 · exact Ae0 _ x hx
 · refine .sl _ _ _ fun c hc y hy => ?_;obtain ⟨v, _, rfl⟩ := List.mem_map.1 hc;exact Ayy v y hy
theorem Aix {t1 t2 : Nat} (h : t1 ≤ t2) {w : World} {b : Nat} {c : Array Value} (hc : @Dg ⟨t1⟩ w b = some c) : @Dg ⟨t2⟩ w b = some c := by
 unfold Dg at *;split at hc
 · rename_i c' ty fr e;split at hc
   · cases hc
   · rename_i hn;cases hc;show (if _ then none else some c) = some c;rw [if_neg fun q => hn ⟨Nat.le_trans h q.1, q.2⟩]
 · cases hc
theorem Y8 {t1 t2 : Nat} (h : t1 ≤ t2) {w : World} {O O' : Nat → Prop} (hO : ∀ b, O' b → O b) : (@Am ⟨t1⟩ w O).le (@Am ⟨t2⟩ w O') := by
 intro b c hb;unfold Am at *;by_cases ho : O b
 · simp [ho] at hb
 · simp only [ho, if_false] at hb;rw [if_neg fun q => ho (hO b q)];exact Aix h hb
theorem CellW.same {w w' : World} {b i : Nat} {v : Value} (h : CellW w b i v) (hb : b < w.heap.size → w'.heap[b]? = w.heap[b]?) : CellW w' b i v := by
 obtain ⟨c, ty, fr, h1, h2, h3⟩ := h;exact ⟨c, ty, fr, (hb (Array.getElem?_eq_some_iff.1 h1).1).trans h1, h2, h3⟩
theorem Aih {w : World} {O : Nat → Prop} {sz : Nat} {es : List (List PV)} {v : Value} (h : PConc (Am w O) (.fs sz es) v) : ∃ ad cap, v = .slice ad es.length cap ∧ (0 < es.length → ∃ b0 o0, ad = some ⟨b0, o0, none⟩ ∧ Th.t ≤ b0 ∧ ∀ k c, es[k]? = some c → ∀ j x, c[j]? = some x → ∃ u, PConc (Am w O) x u ∧ CellW w b0 (o0 + k * sz + j) u) := by
 cases h with
 | fs sz es a cap cs bl off arr hcap hsz ha hcs hel =>
   refine ⟨a, cap, rfl, fun hp => ?_⟩;obtain ⟨rfl, hv, ht⟩ := ha (List.length_pos_iff.1 hp);have hv' : Dg w bl = some arr := by
    unfold Am at hv;split at hv
    · cases hv
    · exact hv
   obtain ⟨ty, fr, e1, e2⟩ := Kt hv';refine ⟨bl, off, rfl, ht, fun k c hk j x hj => ⟨_, hel k j c x hk hj, arr, ty, fr, e1, ?_, e2 ht⟩⟩;have hkl := (List.getElem?_eq_some_iff.1 hk).1;have hjl := (List.getElem?_eq_some_iff.1 hj).1;rw [hsz c (List.mem_of_getElem? hk)] at hjl;rw [Nat.add_assoc];exact hcs k j hkl hjl
theorem Aa4 {V : View} {l : List UInt8} {v : Value} (h : PConc V (.s l) v) : ∃ s, v = .string s := by cases h; exact ⟨_, rfl⟩
theorem Ayq (o : Obj) : (Av o)[5]? = some (.s o.name) := by
 obtain ⟨i, b, l, n, s, v⟩ := o;simp only [Av, vE, Cj]; rfl
theorem Asg (o : Obj) : (Av o)[14]? = some (.fs 11 (o.vers.map A6)) := by
 obtain ⟨i, b, l, n, s, v⟩ := o;simp only [Av, vE, Cj]; rfl
theorem Aht {w : World} {O : Nat → Prop} {l : List Obj} {v : Value} (h : PConc (Am w O) (.fs 15 (l.map Av)) v) (hl : ∀ o ∈ l, o.vers.length ≤ 1000000) :
 ∃ ad cap, v = .slice ad l.length cap ∧ (0 < l.length → ∃ b0 o0, ad = some ⟨b0, o0, none⟩ ∧ Th.t ≤ b0 ∧ ∀ k, k < l.length → (∃ s, CellW w b0 (o0 + k * 15 + 5) (.string s)) ∧ ∃ m adv cv, m ≤ 1000000 ∧ VerAt w Th.t b0 o0 k m adv cv) := by
 obtain ⟨ad, cap, rfl, hp⟩ := Aih h;rw [List.length_map] at hp ⊢;refine ⟨ad, cap, rfl, fun h0 => ?_⟩;obtain ⟨b0, o0, e1, e2, e3⟩ := hp h0;refine ⟨b0, o0, e1, e2, fun k hk => ?_⟩;have hx : (l.map Av)[k]? = some (Av l[k]) := by rw [List.getElem?_map, List.getElem?_eq_getElem hk]; rfl
 constructor
 · obtain ⟨u, h1, h2⟩ := e3 k _ hx 5 _ (Ayq _);obtain ⟨s, rfl⟩ := Aa4 h1;exact ⟨s, h2⟩
 · obtain ⟨u, h1, h2⟩ := e3 k _ hx 14 _ (Asg _);obtain ⟨ad2, cap2, rfl, hq⟩ := Aih h1;rw [List.length_map] at hq h2;refine ⟨_, ad2, cap2, hl _ (List.getElem_mem hk), h2, fun hm => ?_⟩;obtain ⟨bV, oV, g1, g2, g3⟩ := hq hm;refine ⟨bV, oV, g1, g2, fun j hj => ?_⟩;have hy : (l[k].vers.map A6)[j]? = some (A6 l[k].vers[j]) := by rw [List.getElem?_map, List.getElem?_eq_getElem hj]; rfl
   obtain ⟨u, h1, h2⟩ := g3 j _ hy 2 _ rfl;obtain ⟨s, rfl⟩ := Aa4 h1;exact ⟨s, h2⟩
theorem Aip {w : World} {O : Nat → Prop} {l : List Ent} {v : Value} (h : PConc (Am w O) (.fs 15 (l.map Bj)) v) :
 ∃ ad cap, v = .slice ad l.length cap ∧ (0 < l.length → ∃ b0 o0, ad = some ⟨b0, o0, none⟩ ∧ Th.t ≤ b0 ∧ ∀ k, k < l.length → ∃ s, CellW w b0 (o0 + k * 15 + 4) (.string s)) := by
 obtain ⟨ad, cap, rfl, hp⟩ := Aih h;rw [List.length_map] at hp ⊢;refine ⟨ad, cap, rfl, fun h0 => ?_⟩;obtain ⟨b0, o0, e1, e2, e3⟩ := hp h0;refine ⟨b0, o0, e1, e2, fun k hk => ?_⟩;have hx : (l.map Bj)[k]? = some (Bj l[k]) := by rw [List.getElem?_map, List.getElem?_eq_getElem hk]; rfl
 obtain ⟨u, h1, h2⟩ := e3 k _ hx 4 _ rfl;obtain ⟨s, rfl⟩ := Aa4 h1;exact ⟨s, h2⟩
theorem Afv {v : Value} (h : A3 v) : Ar v = [v] := by cases v <;> first | rfl | exact h.elim
theorem Su {V : View} {ρ : Nat → Value} {s : St} {cs : List Value} (h : Cells V ρ (Ff s) cs) : cs.length = 26 ∧ (∀ c ∈ cs, A3 c) ∧ ∃ u1 u2, cs[8]? = some u1 ∧ PConc V (.fs 15 (s.objs.map Av)) u1 ∧ cs[9]? = some u2 ∧ PConc V (.fs 15 (s.ents.map Bj)) u2 := by
 simp only [Ff, A2, Cd, Cells, Conc] at h;obtain ⟨u, us, rfl, ⟨vs, rfl, hl, _⟩, hw, ho, u1, us1, rfl, h1, w1, o1, u2, us2, rfl, h2, w2, o2, u3, us3, rfl, _, w3, o3, u4, us4, rfl, _, w4, o4, rfl⟩ := h;simp only [SV.width] at hw w1 w2 w3 w4;have f1 := Afv h1.one;have f2 := Afv h2.one;refine ⟨by simp only [List.length_append, hw, w1, w2, w3, w4, List.length_nil], fun c hc => ?_, u1, u2, ?_, h1, ?_, h2⟩
 · simp only [List.mem_append, List.not_mem_nil, or_false] at hc;rcases hc with hc | hc | hc | hc | hc
   · exact ho c hc
   · exact o1 c hc
   · exact o2 c hc
   · exact o3 c hc
   · exact o4 c hc
 · rw [List.getElem?_append_right (by omega), hw, f1]; rfl
 · rw [List.getElem?_append_right (by omega), hw, f1];show (u1 :: (Ar u2 ++ _))[1]? = _;rw [f2]; rfl
def Good (w : World) (T b7 : Nat) : Prop := ∃ ad n cap ad' n' cap', n ≤ 1000000 ∧ n' ≤ 1000000 ∧ CellW w b7 8 (.slice ad n cap) ∧ CellW w b7 9 (.slice ad' n' cap') ∧
 (0 < n → ∃ b0 o0, ad = some ⟨b0, o0, none⟩ ∧ T ≤ b0 ∧ ∀ k, k < n → (∃ s, CellW w b0 (o0 + k * 15 + 5) (.string s)) ∧ ∃ m adv cv, m ≤ 1000000 ∧ VerAt w T b0 o0 k m adv cv) ∧
 (0 < n' → ∃ b0 o0, ad' = some ⟨b0, o0, none⟩ ∧ T ≤ b0 ∧ ∀ k, k < n' → ∃ s, CellW w b0 (o0 + k * 15 + 4) (.string s))
theorem Alh {w w' : World} {O : Nat → Prop} {ρ : Nat → Value} {s : St} {cs : List Value} {b7 T : Nat} (h : Cells (Am w O) ρ (Ff s) cs) (hT : T ≤ Th.t) (hs : Fine s) (hold : ∀ b, b < w.heap.size → Th.t ≤ b → w'.heap[b]? = w.heap[b]?) (hb : w'.heap[b7]? = some (.cells ⟨cs⟩ 38 (0, 0))) : Good w' T b7 := by
 obtain ⟨_, _, u1, u2, k1, p1, k2, p2⟩ := Su h;have hov : ∀ o ∈ s.objs, o.vers.length ≤ 1000000 := fun o ho => Nat.le_trans (hs.ov o ho) (by omega);obtain ⟨ad, cap, rfl, hp⟩ := Aht p1 hov;obtain ⟨ad', cap', rfl, hq⟩ := Aip p2;have hon := hs.on;have hen := hs.en;have hz : noFroz (0, 0) (⟨cs⟩ : Array Value).size := by simp [noFroz]
 refine ⟨ad, s.objs.length, cap, ad', s.ents.length, cap', by omega, by omega, ⟨_, _, _, hb, by simpa using k1, hz⟩, ⟨_, _, _, hb, by simpa using k2, hz⟩, fun h0 => ?_, fun h0 => ?_⟩
 · obtain ⟨b0, o0, e1, e2, e3⟩ := hp h0;refine ⟨b0, o0, e1, Nat.le_trans hT e2, fun k hk => ?_⟩;obtain ⟨⟨s, c1⟩, m, adv, cv, hm, c2, c3⟩ := e3 k hk;refine ⟨⟨s, c1.same fun hb => hold _ hb e2⟩, m, adv, cv, hm, c2.same fun hb => hold _ hb e2, fun hm => ?_⟩;obtain ⟨bV, oV, g1, g2, g3⟩ := c3 hm;refine ⟨bV, oV, g1, Nat.le_trans hT g2, fun j hj => ?_⟩;obtain ⟨s, c⟩ := g3 j hj;exact ⟨s, c.same fun hb => hold _ hb g2⟩
 · obtain ⟨b0, o0, e1, e2, e3⟩ := hq h0;refine ⟨b0, o0, e1, Nat.le_trans hT e2, fun k hk => ?_⟩;obtain ⟨s, c⟩ := e3 k hk;exact ⟨s, c.same fun hb => hold _ hb e2⟩
def A1u : Nat → Code → Code
 | 0, c => c
 | n + 1, .seq _ b => A1u n b
 | _, c => c
noncomputable def cA : Code := Lh 0 (Eb Tryz.f3)
noncomputable def cB : Code := Lh 1 (Eb Tryz.f3)
noncomputable def cC : Code := Lh 2 (Eb Tryz.f3)
noncomputable def cD : Code := Lh 3 (Eb Tryz.f3)
noncomputable def cZ : Code := A1u 8 (Eb Tryz.f3)
theorem A6y : Eb Tryz.f3 = .seq cA (.seq cB (.seq cC (.seq cD (.seq c5 (.seq c6 (.seq cO (.seq cE cZ))))))) := rfl
def Z3 : C := (.seq (.ops [⟨.box, [.t 1], (some 3), none⟩,
 ⟨.mv, [.c (.pv (.b false))], (some 4), none⟩])
 (.seq (.seq (.ops [⟨(.call 4), [], (some 12), none⟩,
   ⟨(.un .not), [.t 12], (some 13), none⟩,
   ⟨.mv, [.t 13], (some 14), none⟩,
   ⟨.mv, [.t 0], (some 15), (some (14, false))⟩,
   ⟨(.call 5), [.t 15], (some 16), (some (14, false))⟩,
   ⟨(.un .not), [.t 16], (some 17), (some (14, false))⟩,
   ⟨.pick, [.t 14, .c (.pv (.b true)), .t 17], (some 18), none⟩,
   ⟨.mv, [.t 18], (some 19), none⟩,
   ⟨(.ld 21 true), [.t 3], (some 20), (some (19, false))⟩,
   ⟨(.bsl 21), [.t 20], (some 21), (some (19, false))⟩,
   ⟨(.call 5), [.t 21], (some 22), (some (19, false))⟩,
   ⟨(.un .not), [.t 22], (some 23), (some (19, false))⟩,
   ⟨.pick, [.t 19, .c (.pv (.b true)), .t 23], (some 24), none⟩])
 (.ite (.t 24) (.seq (.ops [⟨(.call 4), [], (some 25), none⟩,
   ⟨.mv, [.t 25], (some 4), none⟩])
   .ret)
   .skip))
 (.seq (.ops [⟨.mv, [.t 0], (some 26), none⟩,
   ⟨(.call 7), [.t 26], (some 27), none⟩,
   ⟨(.call 6), [.t 27], (some 28), none⟩,
   ⟨(.new (.agg [.vec 8 (List.replicate 8 (.i .u32 0)), .pv (.sl true 0 []), .pv (.sl true 0 []), .vec 8 (List.replicate 8 (.i .i64 0)), .vec 8 (List.replicate 8 (.b false))])), [], (some 5), none⟩,
   ⟨(.sto 26), [.t 5, .t 28], none, none⟩])
 (.ops [⟨(.ld 26 true), [.t 5], (some 29), none⟩,
   ⟨(.call 8), [.t 29], (some 30), none⟩,
   ⟨(.new (.agg [.vec 8 (List.replicate 8 (.i .u32 0)), .pv (.sl true 0 []), .pv (.sl true 0 []), .vec 8 (List.replicate 8 (.i .i64 0)), .vec 8 (List.replicate 8 (.b false))])), [], (some 6), none⟩,
   ⟨(.sto 26), [.t 6, .t 30], none, none⟩]))))
def Ato : C := (.seq (.ops [⟨(.ld 26 true), [.t 5], (some 85), none⟩,
 ⟨(.ld 26 true), [.t 6], (some 86), none⟩,
 ⟨(.call 10), [.t 85, .t 86], (some 87), none⟩,
 ⟨.mv, [.t 87], (some 4), none⟩])
 .ret)
def A50 : C → C
 | .seq a _ => a
 | c => c
def Amk : C → C
 | .seq _ b => b
 | c => c
theorem aOk : Bn Tryz.prog 88 cA = some (A50 Z3) := by kernel_rfl
theorem bOk : Bn Tryz.prog 88 cB = some (A50 (Amk Z3)) := by kernel_rfl
theorem cOk : Bn Tryz.prog 88 cC = some (A50 (Amk (Amk Z3))) := by kernel_rfl
theorem dOk : Bn Tryz.prog 88 cD = some (Amk (Amk (Amk Z3))) := by kernel_rfl
theorem A6g : Bn Tryz.prog 88 cZ = some Ato := by kernel_rfl
def sM (S : St) (e : Evt) : FS := mk [(3, .p 3 0), (5, .p 5 0), (6, .p 6 0)] [(3, some (.var (.vec 21 (Bq e)))), (5, some (.var (.agg (Bi S)))), (6, some (.var (.agg (Bi S))))]
def sZ (S : St) (e : Evt) : FS := mk [(5, .p 5 0), (6, .p 6 0)] [(3, some (.var (.vec 21 (Bq e)))), (5, some (.var (.agg (Bi S)))), (6, some (.var (.agg (Bi S))))]
def QP (l : List Evt) (e : Evt) : C3
 | .normal, s => Yi l ∧ Yi [e] ∧ Wk s (sM (A8 (Ig l)) e)
 | .ret, s => s.t 4 = .pv (.b true)
 | _, _ => False
def QZ : C3
 | .ret, s => s.t 4 = .pv (.b true)
 | _, _ => False
set_option maxHeartbeats 8000000 in
theorem A31 {X : Frs} {l : List Evt} {e : Evt} (hl : ∀ e ∈ l, EvRaw e) (he : EvRaw e) : sx (H1 Tryz.prog none X 88) Z3 (QP l e) (mk [(0, .pv (.sl false 21 (l.map Bq))), (1, .vec 21 (Bq e))] []) := by
 have hel := Ac e;simp (disch := omega) only [Z3, go_sem];refine Aa W2 ?_;simp (disch := omega) only [go_sem];refine Aa (Aes (l := l) rfl rfl) ?_;by_cases hf' : Yi l;rotate_left
 · have hf := Vm hf';simp (disch := omega) only [hf, go_sem];refine Aa W2 ?_;simp (disch := omega) only [QP, go_sem]
 have hf := Acr hf';simp (disch := omega) only [hf, Bx, hel, go_sem];refine Aa (Aes (l := [e]) (f := false) rfl rfl) ?_;by_cases hg' : Yi [e];rotate_left
 · have hg := Vm hg';simp (disch := omega) only [hg, go_sem];refine Aa W2 ?_;simp (disch := omega) only [QP, go_sem]
 have hg := Acr hg';have hin : ∀ e ∈ l, EvIn e := fun x hx => Ahh (hl x hx) (hf'.2 x hx);obtain ⟨t1, t2, t3⟩ := V9 l fun x hx => (hin x hx).ev;have hl30 := hf'.1;have hfi := (Aay t1 (by omega)).fine;simp (disch := omega) only [hg, go_sem];refine Aa (A4c (l := l) (by omega) hin) ?_;simp (disch := omega) only [go_sem];refine Aa (Asc (Ajq t1 (by omega)) (Ajp t1)) ?_;simp (disch := omega) only [Bi, A2, go_sem];refine Aa (Am6 (s := A8 (Ig l)) hfi) ?_;simp (disch := omega) only [Bi, A2, QP, go_sem];refine Ak ?_ ?_
 · simp (disch := omega) only [go_sem]
 · simp (disch := omega) only [Bi, A2, go_sem]
set_option maxHeartbeats 8000000 in
theorem A6h {X : Frs} {S : St} {e : Evt} (hS : Fine S) : sx (H1 Tryz.prog none X 88) Ato QZ (sZ S e) := by
 simp (disch := omega) only [Ato, sZ, Bi, A2, go_sem];refine Aa (Ar1 (s := S) hS) ?_;simp (disch := omega) only [QZ, go_sem]
theorem Good.mono {w : World} {T T' b7 : Nat} (h : Good w T b7) (hT : T' ≤ T) : Good w T' b7 := by
 obtain ⟨ad, n, cap, ad', n', cap', h1, h2, h3, h4, h5, h6⟩ := h;refine ⟨ad, n, cap, ad', n', cap', h1, h2, h3, h4, fun h0 => ?_, fun h0 => ?_⟩
 · obtain ⟨b0, o0, e1, e2, e3⟩ := h5 h0;refine ⟨b0, o0, e1, Nat.le_trans hT e2, fun k hk => ?_⟩;obtain ⟨c1, m, adv, cv, hm, c2, c3⟩ := e3 k hk;refine ⟨c1, m, adv, cv, hm, c2, fun hm => ?_⟩;obtain ⟨bV, oV, g1, g2, g3⟩ := c3 hm;exact ⟨bV, oV, g1, Nat.le_trans hT g2, g3⟩
 · obtain ⟨b0, o0, e1, e2, e3⟩ := h6 h0;exact ⟨b0, o0, e1, Nat.le_trans hT e2, e3⟩
theorem Arl {t1 t2 : Nat} (h : t1 ≤ t2) {w : World} {O : Nat → Prop} {ρ ρ' : Nat → Value} {S : St} {v : Value} (hc : @Conc ⟨t1⟩ (@Am ⟨t1⟩ w O) ρ (.agg (Bi S)) v) : @Conc ⟨t2⟩ (@Am ⟨t2⟩ w fun _ => False) ρ' (.agg (Bi S)) v := by
 have hV := Y8 h (w := w) (O := O) (O' := fun _ => False) fun _ => False.elim;have n1 : ∀ x ∈ vE S.known, NF x := Ae0 _;have n2 : NF (.sl false 15 (S.objs.map A4)) := .sl _ _ _ fun c hc y hy => by
  obtain ⟨v, _, rfl⟩ := List.mem_map.1 hc;exact Ayz v y hy
 have n3 : NF (.sl false 15 (S.ents.map Bj)) := .sl _ _ _ fun c hc y hy => by
  obtain ⟨v, _, rfl⟩ := List.mem_map.1 hc;simp only [Bj, Aot, List.mem_append, List.mem_cons, List.not_mem_nil, or_false] at hy;rcases hy with hy | hy
  · rcases hy with rfl | rfl | rfl | rfl | rfl | rfl | rfl <;> constructor
  · exact Ae0 _ y hy
 have n4 : ∀ x ∈ iE S.wards, NF x := fun x hx => by
  simp only [iE] at hx;obtain ⟨i, _, rfl⟩ := List.mem_map.1 hx;constructor
 have n5 : ∀ x ∈ wE S.ret, NF x := fun x hx => by
  simp only [wE] at hx;obtain ⟨i, _, rfl⟩ := List.mem_map.1 hx;constructor
 simp only [Bi, A2, Conc, Cells] at hc ⊢;obtain ⟨vs, rfl, u, us, rfl, ⟨vs0, rfl, hl, q0⟩, hw, ho, u1, us1, rfl, h1, w1, o1, u2, us2, rfl, h2, w2, o2, u3, us3, rfl, ⟨vs3, rfl, hl3, q3⟩, w3, o3, u4, us4, rfl, ⟨vs4, rfl, hl4, q4⟩, w4, o4, rfl⟩ := hc;exact ⟨_, rfl, _, _, rfl, ⟨_, rfl, hl, Ov hV q0 n1⟩, hw, ho, _, _, rfl, Wx hV h1 n2, w1, o1, _, _, rfl, Wx hV h2 n3, w2, o2, _, _, rfl, ⟨_, rfl, hl3, Ov hV q3 n4⟩, w3, o3, _, _, rfl, ⟨_, rfl, hl4, Ov hV q4 n5⟩, w4, o4, rfl⟩
theorem A42 (e : Evt) : ∀ x ∈ Bq e, NF x := by
 intro x hx;have hs : ∀ g : SlI, NF g.pv := fun g => by
  refine .sl _ _ _ fun c hc y hy => ?_;obtain ⟨i, _, rfl⟩ := List.mem_map.1 hc;simp only [Em, List.mem_cons, List.not_mem_nil, or_false] at hy;rcases hy with rfl | rfl <;> constructor
 simp only [Bq, List.mem_append, List.mem_cons, List.not_mem_nil, or_false] at hx;rcases hx with (hx | hx) | hx
 · rcases hx with rfl | rfl <;> constructor
 · exact Ae0 _ x hx
 · rcases hx with rfl | rfl | rfl | rfl | rfl | rfl | rfl | rfl | rfl | rfl | rfl
   all_goals first | exact hs _ | constructor
theorem A3w {t1 t2 : Nat} (h : t1 ≤ t2) {w : World} {O : Nat → Prop} {ρ ρ' : Nat → Value} {e : Evt} {v : Value} (hc : @Conc ⟨t1⟩ (@Am ⟨t1⟩ w O) ρ (.vec 21 (Bq e)) v) : @Conc ⟨t2⟩ (@Am ⟨t2⟩ w fun _ => False) ρ' (.vec 21 (Bq e)) v := by
 have hV := Y8 h (w := w) (O := O) (O' := fun _ => False) fun _ => False.elim;simp only [Conc] at hc ⊢;obtain ⟨vs, rfl, hl, q⟩ := hc;exact ⟨vs, rfl, hl, Ov hV q (A42 e)⟩
theorem V4 {w : World} : (Am w fun _ => False).le (vw ⟨w, fun _ => False, fun _ => False, fun _ => undef, []⟩ w (fun _ => undef) ⟨fun _ => .dead, fun _ => none⟩) :=
 Ba fun b c _ hb => ⟨fun hh => hh.elim (fun ⟨n, x, h, _⟩ => by simp at h) id, hb⟩
theorem Ag3 {w : World} (ht : Th.t = w.heap.size) : Apy w := ⟨by simp [Aw6], Nat.le_of_eq ht⟩
theorem Apc {w1 : World} {vS vX : Value} {S : St} {e : Evt} (ht : Th.t = w1.heap.size) (hS : Conc (Am w1 fun _ => False) (fun _ => undef) (.agg (Bi S)) vS) (hX : Conc (Am w1 fun _ => False) (fun _ => undef) (.vec 21 (Bq e)) vX) (hin : StIn S) (hev : ev e) (hf : Fine (Yt S e)) :
 Calls Tryz.prog 9 #[vS, vX] w1 fun e' w2 => ∃ cs why, e' = .returned (.tuple #[.agg ⟨cs⟩, .int .i64 why]) ∧ cs.length = 26 ∧ (∀ c ∈ cs, A3 c) ∧ (Grew w1 w2 ∧
  ∀ w' b7, (∀ b, b < w2.heap.size → w1.heap.size ≤ b → w'.heap[b]? = w2.heap[b]?) → w'.heap[b7]? = some (.cells ⟨cs⟩ 38 (0, 0)) → Good w' w1.heap.size b7) := by
 have hc : ConcL (vw ⟨w1, fun _ => False, fun _ => False, fun _ => undef, []⟩ w1 (fun _ => undef) ⟨fun _ => .dead, fun _ => none⟩) (fun _ => undef) [.agg (Bi S), .vec 21 (Bq e)] [vS, vX] := by
  simp only [ConcL];exact ⟨_, _, rfl, hS.mono V4, _, _, rfl, hX.mono V4, rfl⟩
 refine Calls.mono ((Ase (h := fun _ => none) (d := 0) hin hev).2 _ 0 _ _ _ w1 (Abr w1 (Ag3 ht)) (by simp [Bi, A2, A5, tn]) _ hc) fun e' w2 he => ?_;obtain ⟨v, ρ', rfl, hR, hy⟩ := he;simp only [Conc, ConcL] at hy;obtain ⟨vs, rfl, u, us, rfl, ⟨cs, rfl, hcs⟩, u2, us2, rfl, hu2, rfl⟩ := hy;obtain ⟨f1, f2, _⟩ := Su hcs;cases hu2;refine ⟨cs, _, rfl, f1, f2, ⟨hR.fr.os, hR.fr.tape, hR.fr.output, hR.fr.size, fun b hb => hR.fr.block b hb id⟩, fun w' b7 h1 h2 => ?_⟩;rw [← ht] at h1 ⊢;exact Alh hcs (Nat.le_refl _) hf h1 h2
theorem Apb {w1 : World} {vS : Value} {S : St} {T : Nat} (hT : T ≤ w1.heap.size) (ht : Th.t = w1.heap.size) (hS : Conc (Am w1 fun _ => False) (fun _ => undef) (.agg (Bi S)) vS) (hf : Fine S) :
 Calls Tryz.prog 8 #[vS] w1 fun e' w2 => ∃ cs, e' = .returned (.agg ⟨cs⟩) ∧ cs.length = 26 ∧ (∀ c ∈ cs, A3 c) ∧ (Grew w1 w2 ∧
  ∀ w' b7, (∀ b, b < w2.heap.size → w1.heap.size ≤ b → w'.heap[b]? = w2.heap[b]?) → w'.heap[b7]? = some (.cells ⟨cs⟩ 38 (0, 0)) → Good w' T b7) := by
 have hc : ConcL (vw ⟨w1, fun _ => False, fun _ => False, fun _ => undef, []⟩ w1 (fun _ => undef) ⟨fun _ => .dead, fun _ => none⟩) (fun _ => undef) [.agg (Bi S)] [vS] := by
  simp only [ConcL];exact ⟨_, _, rfl, hS.mono V4, rfl⟩
 refine Calls.mono ((Zr (h := fun _ => none) (d := 0) hf).2 _ 0 _ _ _ w1 (Abr w1 (Ag3 ht)) (by simp [Bi, A2, A5, tn]) _ hc) fun e' w2 he => ?_;obtain ⟨v, ρ', rfl, hR, hy⟩ := he;simp only [Conc] at hy;obtain ⟨cs, rfl, hcs⟩ := hy;obtain ⟨f1, f2, _⟩ := Su hcs;refine ⟨cs, rfl, f1, f2, ⟨hR.fr.os, hR.fr.tape, hR.fr.output, hR.fr.size, fun b hb => hR.fr.block b hb id⟩, fun w' b7 h1 h2 => ?_⟩;rw [← ht] at h1;exact Alh hcs (by omega) hf h1 h2
theorem Bet : Fl Tryz.prog 38 = some true := by kernel_rfl
theorem Beu : Fl Tryz.prog 30 = some true := by kernel_rfl
theorem z30 : Ai Tryz.prog 30 = some 21 := by kernel_rfl
theorem A1t {F : Fr} {ρ : Nat → Value} {s : FS} {a : Act} {w : World} {n m : Nat} (hR : RelR F 88 ρ s a w) (hn : n < 88) (h : s.t n = .p m 0) : ∃ b, a.tmps[n]? = some (.pointer (some ⟨b, 0, none⟩)) := by
 have := hR.tm n (by simp only [Gg]; omega);rw [h] at this;simp only [Conc] at this;obtain ⟨b, _, e⟩ := this;have hs := hR.size;refine ⟨b, ?_⟩;rw [Array.getD_eq_getD_getElem?, Array.getElem?_eq_getElem (by omega)] at e;rw [Array.getElem?_eq_getElem (by omega)];exact congrArg some e
theorem As7 {F : Fr} {ρ : Nat → Value} {s : FS} {a : Act} {w : World} {n b : Nat} {S : St} (hR : RelR F 88 ρ s a w) (h : s.t n = .p n 0) (hh : s.h n = some (.var (.agg (Bi S)))) (hb : a.tmps[n]? = some (.pointer (some ⟨b, 0, none⟩))) (hn : n < 88) :
 ∃ v', (Instr.loadAt 38 (.pointer (some ⟨b, 0, none⟩))).run Tryz.prog w = .ok v' w ∧ Conc (vw F w ρ s) ρ (.agg (Bi S)) v' := by
 have := hR.tm n (by simp only [Gg]; omega);rw [h, Array.getD_eq_getD_getElem?, hb] at this;obtain ⟨v', y, h1, h2, h3⟩ := Ak3 (K := fun y _ => y = .agg (Bi S)) hR this (by omega) z38 Bet (by simp (disch := omega) only [hh, Bi, A2, go_sem]);subst h2;exact ⟨v', h1, h3⟩
theorem A45 {F : Fr} {ρ : Nat → Value} {s : FS} {a : Act} {w : World} {n b : Nat} {e : Evt} (hR : RelR F 88 ρ s a w) (h : s.t n = .p n 0) (hh : s.h n = some (.var (.vec 21 (Bq e)))) (hb : a.tmps[n]? = some (.pointer (some ⟨b, 0, none⟩))) (hn : n < 88) :
 ∃ v', (Instr.loadAt 30 (.pointer (some ⟨b, 0, none⟩))).run Tryz.prog w = .ok v' w ∧ Conc (vw F w ρ s) ρ (.vec 21 (Bq e)) v' := by
 have := hR.tm n (by simp only [Gg]; omega);rw [h, Array.getD_eq_getD_getElem?, hb] at this;have hel := Ac e;obtain ⟨v', y, h1, h2, h3⟩ := Ak3 (K := fun y _ => y = .vec 21 (Bq e)) hR this (by omega) z30 Beu (by simp (disch := omega) only [hh, Bx, hel, go_sem]);subst h2;exact ⟨v', h1, h3⟩
theorem Aa1 {r : Option Nat} {X : Frs} {x y : Code} {cx cy : C} {Q : C3} {s : FS} {a : Act} {w : World} {Q' : Exit → Act → World → Prop} (hx : Bn Tryz.prog 88 x = some cx) (h : sx (H1 Tryz.prog r X 88) (.seq cx cy) Q s) (hR : RelX X 88 s a w)
 (hQ : ∀ e a' w', e ≠ .normal → Pu X 88 Q e a' w' → Q' e a' w') (k : ∀ s' a' w', sx (H1 Tryz.prog r X 88) cy Q s' → RelX X 88 s' a' w' → y.wpIn (Gd r) 0 Tryz.prog Q' a' w') : (Code.seq x y).wpIn (Gd r) 0 Tryz.prog Q' a w := by
 refine wpIn_seq (wpIn_mono (Nd Af hx (Q := Ajv (sx (H1 Tryz.prog r X 88) cy Q) Q) h hR) fun e a' w' he => ?_);cases e with
 | normal => obtain ⟨s', h1, h2⟩ := he; exact k s' a' w' h2 h1
 | ret => exact hQ _ _ _ (by simp) he
 | exit id => exact hQ _ _ _ (by simp) he
 | goto _ => exact he.elim
 | panic _ => exact he.elim
 | outgrown => exact he.elim
abbrev frO (W : World) : Fr := ⟨W, fun _ => False, fun _ => False, fun _ => undef, []⟩
theorem Ba4 {W : World} {ρ : Nat → Value} {s : FS} {a : Act} {w : World} (hR : RelR (frO W) 88 ρ s a w) (h4 : s.t 4 = .pv (.b true)) :
 bodyPostM (Gd none) 0 Tryz.prog Tryz.f3 (fun e w' => e = .returned (.bool true) ∧ Below W.heap.size W w') .ret a w := by
 have h := hR.tm 4 (by simp only [Gg]; omega);rw [h4] at h;have h := Pq h;have hd : a.defers = [] := hR.defers;show LeavesInM _ _ _ _ _ _ a.defers _ _;rw [hd];refine ⟨.bool true, ?_, rfl, hR.fr.os, hR.fr.tape, hR.fr.output, hR.fr.size, fun b hb => hR.fr.block b hb id⟩;have e : results Tryz.f3 a.tmps = pure (a.tmps.getD 4 undef) := by simp [results, Tryz.f3]
 rw [e, h]; rfl
theorem Grew.to {a b c : World} (h : Grew a b) (k : Grew b c) : Grew a c := ⟨k.os.trans h.os, k.tape.trans h.tape, k.output.trans h.output, Nat.le_trans h.size k.size, fun x hx => (k.block x (Nat.lt_of_lt_of_le hx h.size)).trans (h.block x hx)⟩
theorem Bdj {W : World} {v0 v1 : Value} {x0 x1 : SV} (ht : Th.t = W.heap.size) (hc0 : Conc (Am W fun _ => False) (fun _ => undef) x0 v0) (hc1 : Conc (Am W fun _ => False) (fun _ => undef) x1 v1) :
 RelR (frO W) 88 (fun _ => undef) (mk [(0, x0), (1, x1)] []) { tmps := #[v0, v1] ++ Array.replicate (88 - 2) undef, defers := [] } W := by
 have hV : (Am W fun _ => False).le (vw (frO W) W (fun _ => undef) (mk [(0, x0), (1, x1)] [])) :=
  Ba fun b c _ hb => ⟨fun hh => hh.elim (fun ⟨n, x, h, _⟩ => by simp [mk, lk] at h) id, hb⟩
 have e0 : (frO W).val ⟨#[v0, v1] ++ Array.replicate (88 - 2) undef, []⟩ 0 = v0 := by
  rw [Fr.val_lt (by simp only [Gg]; omega), Array.getD_eq_getD_getElem?]; simp
 have e1 : (frO W).val ⟨#[v0, v1] ++ Array.replicate (88 - 2) undef, []⟩ 1 = v1 := by
  rw [Fr.val_lt (by simp only [Gg]; omega), Array.getD_eq_getD_getElem?]; simp
 refine ⟨⟨rfl, rfl, rfl, Nat.le_refl _, fun _ _ _ => rfl, fun _ h => h.elim, ⟨Ag3 ht, fun _ _ => id⟩⟩, fun b ⟨n, x, h, _⟩ => by simp [mk, lk] at h, fun n x h => by simp [mk, lk] at h, fun n m x y b h => by simp [mk, lk] at h, fun n => ?_, by simp, rfl⟩;by_cases h0 : n = 0
 · subst h0; rw [e0]; exact hc0.mono hV
 by_cases h1 : n = 1
 · subst h1; rw [e1]; exact hc1.mono hV
 have hd : (mk [(0, x0), (1, x1)] []).t n = .dead := by simp [mk, lk, Ne.symm h0, Ne.symm h1, h0, h1]
 rw [hd]; simp only [Conc]
set_option maxHeartbeats 800000 in
theorem A5a {W : World} {v0 v1 : Value} {l : List Evt} {e : Evt} (ht : Th.t = W.heap.size) (hl : ∀ e ∈ l, EvRaw e) (he : EvRaw e) (hc0 : Conc (Am W fun _ => False) (fun _ => undef) (.pv (.sl false 21 (l.map Bq))) v0) (hc1 : Conc (Am W fun _ => False) (fun _ => undef) (.vec 21 (Bq e)) v1) :
 Calls Tryz.prog 3 #[v0, v1] W fun e w' => e = .returned (.bool true) ∧ Below W.heap.size W w' := by
 have hR0 := Bdj ht hc0 hc1;refine callsIn_wide.1 (callsIn_of_wp_marks (F := Gd none) (n := 0) (fn := Tryz.f3) (c := Eb Tryz.f3) Tryz.func3 rfl trivial ?_);rw [A6y];have hQ : ∀ (x : Exit) a' w', x ≠ .normal → Pu (· = frO W) 88 (QP l e) x a' w' → bodyPostM (Gd none) 0 Tryz.prog Tryz.f3 (fun e w' => e = .returned (.bool true) ∧ Below W.heap.size W w') x a' w' := by
  intro x a' w' hx hp;cases x with
  | normal => exact absurd rfl hx
  | ret => obtain ⟨s, ⟨F, rfl, ρ, hR⟩, h4⟩ := hp; exact Ba4 hR h4
  | exit id => obtain ⟨s, _, h4⟩ := hp; exact h4.elim
  | goto _ => exact hp.elim
  | panic _ => exact hp.elim
  | outgrown => exact hp.elim
 refine Aa1 aOk (A31 (X := (· = frO W)) hl he) ⟨_, rfl, _, hR0⟩ hQ fun s a w h hR => ?_;refine Aa1 bOk h hR hQ fun s a w h hR => ?_;refine Aa1 cOk h hR hQ fun s a w h hR => ?_;refine wpIn_seq (wpIn_mono (Nd Af dOk h hR) fun x a1 w1 hx => ?_);by_cases hxn : x = .normal;rotate_left
 · have := hQ x a1 w1 hxn hx;cases x <;> first | exact this | exact absurd rfl hxn
 subst hxn;obtain ⟨s', hX, hf', hg', hwk⟩ := hx;obtain ⟨F, rfl, ρ, hR1⟩ := hX.wk hwk;show (Code.seq c5 _).wpIn _ _ _ _ a1 w1;clear hR h hX hwk hR0 hc0 hc1;have hin : ∀ e ∈ l, EvIn e := fun x hx => Ahh (hl x hx) (hf'.2 x hx);have hie : EvIn e := Ahh he (hg'.2 e (by simp));obtain ⟨t1, t2, t3⟩ := V9 l fun x hx => (hin x hx).ev;have hl30 := hf'.1;have hst := Aay t1 (by omega);have hfr : Fine (Yt (A8 (Ig l)) e) := by
  by_cases hw : Gt (A8 (Ig l)) e = 0
  · rw [Ax2 t1 hw];exact (Aay (Val.snoc t1 hie.ev hw) (by simp only [List.length_append, List.length_singleton]; omega)).fine
  · have e1 : Yt (A8 (Ig l)) e = st0 := if_neg hw;rw [e1];exact ⟨by simp [st0], by simp [st0], by simp [st0]⟩
 generalize A8 (Ig l) = S at *;obtain ⟨b5, e5⟩ := A1t hR1 (n := 5) (m := 5) (by omega) rfl;obtain ⟨b3, e3⟩ := A1t hR1 (n := 3) (m := 3) (by omega) rfl;obtain ⟨vS, l5, cS⟩ := As7 hR1 rfl rfl e5 (by omega);obtain ⟨vX, l3, cX⟩ := A45 hR1 rfl rfl e3 (by omega);have hle : Th.t ≤ w1.heap.size := ht ▸ hR1.fr.size;have hcall := @Apc ⟨w1.heap.size⟩ w1 vS vX S e rfl (Arl (t1 := Th.t) hle cS) (A3w (t1 := Th.t) hle cX) hst hie.ev hfr;refine wpIn_seq (Bdi (G := fun cs why w2 => Grew w1 w2 ∧ ∀ w' b7, (∀ b, b < w2.heap.size → w1.heap.size ≤ b → w'.heap[b]? = w2.heap[b]?) → w'.heap[b7]? = some (.cells ⟨cs⟩ 38 (0, 0)) → Good w' w1.heap.size b7) hR1.size e5 e3 l5 l3 hcall fun a2 w2 w3 cs why ⟨g1, g2⟩ hs2 hd2 ht2 h7 h8 g3 hh hcl => ?_);show (Code.seq c6 _).wpIn _ _ _ _ a2 w3;have hG3 : Good w3 w1.heap.size w2.heap.size := g2 w3 _ (fun b hb _ => g3.block b hb) hh;have gr3 : Grew w1 w3 := g1.to g3;have hT12 := g1.size;have h23 : w2.heap.size < w3.heap.size := (Array.getElem?_eq_some_iff.1 hh).1;have rest : ∀ a3 w4, Kp a2 a3 → Grew w1 w4 → Good w4 w1.heap.size w2.heap.size → (Code.seq cO (.seq cE cZ)).wpIn (Gd none) 0 Tryz.prog (bodyPostM (Gd none) 0 Tryz.prog Tryz.f3 (fun e w' => e = .returned (.bool true) ∧ Below W.heap.size W w')) a3 w4 := by
  intro a3 w4 K3 g hG;obtain ⟨ad, n, cap, ad', n', cap', n1, n2, q8, q9, p8, p9⟩ := hG;refine wpIn_seq (Bae (T := w1.heap.size) (K3.size.trans hs2) ((K3.tmp 7 (by omega)).trans h7) n1 (Sim.refl _ _) q8 p8 fun a4 w5 K4 S4 => ?_);show (Code.seq cE _).wpIn _ _ _ _ a4 w5;have K24 := K3.trans K4;refine wpIn_seq (Baf (K24.size.trans hs2) ((K24.tmp 7 (by omega)).trans h7) n2 S4 q9 p9 fun a5 w6 K5 S5 => ?_);show cZ.wpIn _ _ _ _ a5 w6;have K25 := K24.trans K5;have gr : Grew w1 w6 := ⟨S5.os.trans g.os, S5.tape.trans g.tape, S5.output.trans g.output, by rw [S5.size]; exact g.size, fun b hb => (S5.old b hb).trans (g.block b hb)⟩
  have hR6 := hR1.grew gr;have hR7 : RelR (frO W) 88 ρ (sZ S e) a5 w6 := by
   have ho : (sZ S e).h = (sM S e).h := rfl;have hk : ∀ n, n = 5 ∨ n = 6 → (frO W).val a5 n = (frO W).val a1 n := fun n hn => by
    have hb : n < Gg := by simp only [Gg]; omega
    rw [Fr.val_lt hb, Fr.val_lt hb, Array.getD_eq_getD_getElem?, Array.getD_eq_getD_getElem?, (K25.tmp n (by omega)).trans (ht2 n (by omega))]
   refine ⟨hR6.fr, fun b hb => hR6.may b hb, fun n blk hn => hR6.own n blk hn, hR6.inj, fun n => ?_, K25.size.trans hs2, (K25.defers.trans hd2).trans hR6.defers⟩;by_cases h5 : n = 5
   · subst h5; rw [hk 5 (.inl rfl)]; exact hR6.tmps 5
   by_cases h6 : n = 6
   · subst h6; rw [hk 6 (.inr rfl)]; exact hR6.tmps 6
   have hd : (sZ S e).t n = .dead := by simp [sZ, mk, lk, Ne.symm h5, Ne.symm h6, h5, h6]
   rw [hd]; simp only [Conc]
  refine wpIn_mono (Nd Af A6g (A6h (X := (· = frO W)) hst.fine) ⟨_, rfl, ρ, hR7⟩) fun x a' w' hx => ?_;cases x with
  | ret => obtain ⟨s, ⟨F, rfl, ρ, hR⟩, h4⟩ := hx; exact Ba4 hR h4
  | normal => obtain ⟨s, _, h4⟩ := hx; exact h4.elim
  | exit id => obtain ⟨s, _, h4⟩ := hx; exact h4.elim
  | goto _ => exact hx.elim
  | panic _ => exact hx.elim
  | outgrown => exact hx.elim
 have hR3 := hR1.grew gr3;obtain ⟨vS3, l53, cS3⟩ := As7 hR3 rfl rfl e5 (by omega);have hcl8 := @Apb ⟨w3.heap.size⟩ w3 vS3 S w1.heap.size gr3.size rfl (Arl (t1 := Th.t) (Nat.le_trans hle gr3.size) cS3) hst.fine;refine wpIn_seq (Bdh (G := fun cs w4 => Grew w3 w4 ∧ ∀ w' b7, (∀ b, b < w4.heap.size → w3.heap.size ≤ b → w'.heap[b]? = w4.heap[b]?) → w'.heap[b7]? = some (.cells ⟨cs⟩ 38 (0, 0)) → Good w' w1.heap.size b7) (cs0 := cs) hs2 ((ht2 5 (by omega)).trans e5) h7 h8 l53 (hcl8.mono fun x w4 ⟨c4, r1, r2, r3, r4, r5⟩ => ⟨c4, r1, r2, r3, (r4.block _ h23).trans hh, hcl, r4, r5⟩) (fun hy a3 K3 => rest a3 w3 K3 gr3 hG3) fun hy a3 w4 w5 c4 ⟨k1, k2⟩ K3 z1 z2 z3 z4 z5 z6 z7 => ?_);refine rest a3 w5 K3 ⟨z3.trans (k1.os.trans gr3.os), z4.trans (k1.tape.trans gr3.tape), z5.trans (k1.output.trans gr3.output), by rw [z1]; exact Nat.le_trans gr3.size k1.size, fun b hb => ?_⟩ (k2 w5 _ (fun b hb hge => z2 b (by omega)) z6);have := gr3.size;exact (z2 b (by omega)).trans ((k1.block b (by omega)).trans (gr3.block b hb))
theorem Awj {w : World} (ht : Th.t = w.heap.size) : (J5 w).le (Am w fun _ => False) := by
 intro b c hb;unfold J5 at hb;split at hb
 · rename_i c' ty fr hh;cases hb;have hlt := (Array.getElem?_eq_some_iff.1 hh).1;unfold Am Dg;rw [if_neg id, hh];show (if _ then none else some c) = some c;rw [if_neg fun q => by have := q.1; omega]
 · cases hb
theorem Yx {c0 c1 : List PV} (g0 : GC (.sl Wp) c0) (g1 : GC Wp c1) {W : World} {v0 v1 : Value} (ht : Th.t = W.heap.size) (hc : ConcL (J5 W) (fun _ => undef) [L3 (.sl Wp) c0, L3 Wp c1] [v0, v1]) :
 Calls Tryz.prog 3 #[v0, v1] W fun e w' => e = .returned (.bool true) ∧ Below W.heap.size W w' := by
 obtain ⟨l, rfl, hl⟩ := A7w g0;obtain ⟨e, rfl, he⟩ := Awo g1;simp only [ConcL] at hc;obtain ⟨u0, us0, h0, k0, u1, us1, rfl, k1, rfl⟩ := hc;cases h0;refine A5a ht hl he (k0.mono (Awj ht)) ?_;exact Hd (by rfl) (Ac e) _ _ _ (k1.mono (Awj ht))
end Go.Proofs.YthiamojjhdcegaaGreat.Fw
