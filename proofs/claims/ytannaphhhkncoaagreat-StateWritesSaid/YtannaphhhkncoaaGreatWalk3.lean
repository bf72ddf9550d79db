/- What the functions compute that the laws of this seat Zj. -/
import Derived.Test.YtannaphhhkncoaaGreatWalk2
import Derived.OpenShut
import Derived.ShutString
import Derived.ChangeOld
import Derived.SizedLaws
import Derived.ChangeOld
import Derived.Lib.Bytealg
import Derived.Lib.Overlaps
import Derived.OpenShut
import Derived.RecoverIn
import Derived.ShutString
import Derived.SizedLaws
set_option linter.unusedVariables false
set_option linter.unusedSimpArgs false
set_option linter.unusedSectionVars false
set_option maxRecDepth 100000
namespace Go.Proofs.YtannaphhhkncoaaGreat.Fw
open Go.RowKit Go.Proofs
theorem Pn {p : Prop} [Decidable p] (h : ¬ p) {D : Bool} (hD : D = decide p) : D = false := by rw [hD]; exact decide_eq_false h
theorem Aln {p : Prop} [Decidable p] (h : p) {D : Bool} (hD : D = decide p) : D = true := by rw [hD]; exact decide_eq_true h
def Uw (f g : Bool) (l m : List Ent) (k : Nat) : FS := mk [(5, .pv (.i .i64 k)), (0, .pv (.sl f 15 (l.map Bk))), (1, .pv (.sl g 15 (m.map Bk)))] []
open Classical in
theorem Ah1 {f g : Bool} {l m : List Ent} {h d} (hn : l.length ≤ 1000) (hm : m.length ≤ 1000) {D : Bool} (hD : D = decide (l.map Bk = m.map Bk)) :
 FunOk Tryz.prog 32 [.pv (.sl f 15 (l.map Bk)), .pv (.sl g 15 (m.map Bk))] h d (.pv (.b D)) [] := by
 refine A7 Aq fn32 (by simp) rfl rfl fun F => ?_;by_cases hlen : l.length = m.length;rotate_left
 · have e := Pn (fun q => hlen (by simpa using congrArg List.length q)) hD;have hlen' : ¬ ((l.length : Int) = (m.length : Int)) := by omega
   subst e
   (try simp only [Ak, Aj, Ai, Ah, Ag, Af, Ae, Ad]); simp (maxSteps := 10000000) (disch := omega) only [ir32, List.length_map, hlen', go_sem]
 (try simp only [Ak, Aj, Ai, Ah, Ag, Af, Ae, Ad]); simp (maxSteps := 10000000) (disch := omega) only [ir32, List.length_map, hlen, go_sem]
 refine A1 Aq (Uw f g l m) (fun k => k ≤ m.length ∧ ∀ j, j < k → (l.map Bk)[j]? = (m.map Bk)[j]?) (fun k => m.length - k) 0 ⟨by simp, fun j hj => absurd hj (Nat.not_lt_zero j)⟩ (An ?_ ?_) fun k hk => ?_
 · (try simp only [Ak, Aj, Ai, Ah, Ag, Af, Ae, Ad]); simp (maxSteps := 10000000) (disch := omega) only [go_sem]
 · (try simp only [Ak, Aj, Ai, Ah, Ag, Af, Ae, Ad]); simp (maxSteps := 10000000) (disch := omega) only [go_sem]
 obtain ⟨hk, hj⟩ := hk;by_cases hlt : k < m.length
 · have h2 : (m.map Bk)[k]? = some (Bk m[k]) := by simp [hlt]
   have h1 : (l.map Bk)[k]? = some (Bk (l[k]'(by omega))) := by simp [hlen, hlt]
   generalize m[k] = w at *;generalize l[k]'(by omega) = v at *;have hf := Afz v;have hg := Afz w;by_cases hvw : Bk v = Bk w
   · have hp : M6 (Bk v) (Bk w) = true := by rw [hvw]; simp [M6]
     (try simp only [Ak, Aj, Ai, Ah, Ag, Af, Ae, Ad]); simp (maxSteps := 10000000) (disch := omega) only [Uw, List.length_map, hlen, h1, h2, Ge, hp, hf, hg, go_sem]
     refine Al (k + 1) _ _ rfl ⟨by omega, fun j hjk => ?_⟩ (by omega) ?_ ?_
     · by_cases e : j = k
       · subst e; rw [h1, h2, hvw]
       · exact hj j (by omega)
     · (try simp only [Ak, Aj, Ai, Ah, Ag, Af, Ae, Ad]); simp (maxSteps := 10000000) (disch := omega) only [go_sem]
     · (try simp only [Ak, Aj, Ai, Ah, Ag, Af, Ae, Ad]); simp (maxSteps := 10000000) (disch := omega) only [go_sem]
   · have hp : M6 (Bk v) (Bk w) = false := by simp [M6, hvw]
     have e := Pn (fun q => hvw (by rw [q] at h1; rw [h1] at h2; exact Option.some.inj h2)) hD;subst e
     (try simp only [Ak, Aj, Ai, Ah, Ag, Af, Ae, Ad]); simp (maxSteps := 10000000) (disch := omega) only [Uw, List.length_map, hlen, h1, h2, Ge, hp, hf, hg, go_sem]
 · have e := Aln (List.ext_getElem? fun j => by
    by_cases hjk : j < k
    · exact hj j hjk
    · rw [List.getElem?_eq_none (by simp; omega), List.getElem?_eq_none (by simp; omega)]) hD
   subst e
   (try simp only [Ak, Aj, Ai, Ah, Ag, Af, Ae, Ad]); simp (maxSteps := 10000000) (disch := omega) only [Uw, List.length_map, hlen, go_sem]
def Uv (f g : Bool) (l m : List Ver) (k : Nat) : FS := mk [(5, .pv (.i .i64 k)), (0, .pv (.sl f 11 (l.map Ba))), (1, .pv (.sl g 11 (m.map Ba)))] []
open Classical in
theorem Ah0 {f g : Bool} {l m : List Ver} {h d} (hn : l.length ≤ 1000) (hm : m.length ≤ 1000) {D : Bool} (hD : D = decide (l.map Ba = m.map Ba)) :
 FunOk Tryz.prog 33 [.pv (.sl f 11 (l.map Ba)), .pv (.sl g 11 (m.map Ba))] h d (.pv (.b D)) [] := by
 refine A7 Aq fn33 (by simp) rfl rfl fun F => ?_;by_cases hlen : l.length = m.length;rotate_left
 · have e := Pn (fun q => hlen (by simpa using congrArg List.length q)) hD;have hlen' : ¬ ((l.length : Int) = (m.length : Int)) := by omega
   subst e
   (try simp only [Ak, Aj, Ai, Ah, Ag, Af, Ae, Ad]); simp (maxSteps := 10000000) (disch := omega) only [ir33, List.length_map, hlen', go_sem]
 (try simp only [Ak, Aj, Ai, Ah, Ag, Af, Ae, Ad]); simp (maxSteps := 10000000) (disch := omega) only [ir33, List.length_map, hlen, go_sem]
 refine A1 Aq (Uv f g l m) (fun k => k ≤ m.length ∧ ∀ j, j < k → (l.map Ba)[j]? = (m.map Ba)[j]?) (fun k => m.length - k) 0 ⟨by simp, fun j hj => absurd hj (Nat.not_lt_zero j)⟩ (An ?_ ?_) fun k hk => ?_
 · (try simp only [Ak, Aj, Ai, Ah, Ag, Af, Ae, Ad]); simp (maxSteps := 10000000) (disch := omega) only [go_sem]
 · (try simp only [Ak, Aj, Ai, Ah, Ag, Af, Ae, Ad]); simp (maxSteps := 10000000) (disch := omega) only [go_sem]
 obtain ⟨hk, hj⟩ := hk;by_cases hlt : k < m.length
 · have h2 : (m.map Ba)[k]? = some (Ba m[k]) := by simp [hlt]
   have h1 : (l.map Ba)[k]? = some (Ba (l[k]'(by omega))) := by simp [hlen, hlt]
   generalize m[k] = w at *;generalize l[k]'(by omega) = v at *;have hf := Afx v;have hg := Afx w;by_cases hvw : Ba v = Ba w
   · have hp : M6 (Ba v) (Ba w) = true := by rw [hvw]; simp [M6]
     (try simp only [Ak, Aj, Ai, Ah, Ag, Af, Ae, Ad]); simp (maxSteps := 10000000) (disch := omega) only [Uv, List.length_map, hlen, h1, h2, Ib, hp, hf, hg, go_sem]
     refine Al (k + 1) _ _ rfl ⟨by omega, fun j hjk => ?_⟩ (by omega) ?_ ?_
     · by_cases e : j = k
       · subst e; rw [h1, h2, hvw]
       · exact hj j (by omega)
     · (try simp only [Ak, Aj, Ai, Ah, Ag, Af, Ae, Ad]); simp (maxSteps := 10000000) (disch := omega) only [go_sem]
     · (try simp only [Ak, Aj, Ai, Ah, Ag, Af, Ae, Ad]); simp (maxSteps := 10000000) (disch := omega) only [go_sem]
   · have hp : M6 (Ba v) (Ba w) = false := by simp [M6, hvw]
     have e := Pn (fun q => hvw (by rw [q] at h1; rw [h1] at h2; exact Option.some.inj h2)) hD;subst e
     (try simp only [Ak, Aj, Ai, Ah, Ag, Af, Ae, Ad]); simp (maxSteps := 10000000) (disch := omega) only [Uv, List.length_map, hlen, h1, h2, Ib, hp, hf, hg, go_sem]
 · have e := Aln (List.ext_getElem? fun j => by
    by_cases hjk : j < k
    · exact hj j hjk
    · rw [List.getElem?_eq_none (by simp; omega), List.getElem?_eq_none (by simp; omega)]) hD
   subst e
   (try simp only [Ak, Aj, Ai, Ah, Ag, Af, Ae, Ad]); simp (maxSteps := 10000000) (disch := omega) only [Uv, List.length_map, hlen, go_sem]
theorem Af4 {x y : Ent} : Bk x = Bk y ↔ Ur x = Ur y := by
 obtain ⟨⟨a1, a2⟩, ⟨b1, b2⟩, n, ⟨c1, c2⟩, g⟩ := x;obtain ⟨⟨a1', a2'⟩, ⟨b1', b2'⟩, n', ⟨c1', c2'⟩, g'⟩ := y;simp only [Bk, Ai3, Ur, List.cons_append, List.nil_append, List.cons.injEq, PV.i.injEq, PV.s.injEq, true_and, Prod.mk.injEq, Int.natCast_inj, and_assoc]
theorem Z7 {l m : List Ent} : l.map Bk = m.map Bk ↔ l.map Ur = m.map Ur := ⟨L9 fun a _ b _ => Af4.1, L9 fun a _ b _ => Af4.2⟩
theorem U0 (a b : Ca) : M6 [.i .i64 a.1, .i .u32 a.2] [.i .i64 b.1, .i .u32 b.2] = true ↔ a = b := by
 obtain ⟨a1, a2⟩ := a;obtain ⟨b1, b2⟩ := b;simp [M6];exact fun _ => Int.natCast_inj
def Aqg (s t : St) (k : Nat) : FS := mk [(5, .pv (.i .i64 k)), (2, .p 2 0), (3, .p 3 0)] [(2, some (.var (.agg (Bb s)))), (3, some (.var (.agg (Bb t))))]
set_option maxHeartbeats 8000000 in
open Classical in
theorem Zp {s t : St} (hs : WrS s) (ht : WrS t) {D : Bool} (hD : D = decide (Aao s t)) {h d} : FunOk Tryz.prog 10 [.agg (Bb s), .agg (Bb t)] h d (.pv (.b D)) [] := by
 refine A7 Aq fn10 (by simp) rfl rfl fun F => ?_;have f1 := A5q;have f2 := A5r;have f3 := A5p;have hen := hs.en;have ten := ht.en;have hon := hs.on;have ton := ht.on;by_cases c1 : vE s.known = vE t.known;rotate_left
 · have p1 : M6 (vE s.known) (vE t.known) = false := decide_eq_false c1;have e := Pn (fun q => c1 q.1) hD;subst e
   (try simp only [Ak, Aj, Ai, Ah, Ag, Af, Ae, Ad]); simp (maxSteps := 10000000) (disch := omega) only [ir10, Bb, Bg, p1, f1, f2, f3, go_sem]
 have p1 : M6 (vE s.known) (vE t.known) = true := decide_eq_true c1;by_cases c2 : iE s.wards = iE t.wards;rotate_left
 · have p2 : M6 (iE s.wards) (iE t.wards) = false := decide_eq_false c2;have e := Pn (fun q => c2 q.2.1) hD;subst e
   (try simp only [Ak, Aj, Ai, Ah, Ag, Af, Ae, Ad]); simp (maxSteps := 10000000) (disch := omega) only [ir10, Bb, Bg, p1, p2, f1, f2, f3, go_sem]
 have p2 : M6 (iE s.wards) (iE t.wards) = true := decide_eq_true c2;by_cases c3 : wE s.ret = wE t.ret;rotate_left
 · have p3 : M6 (wE s.ret) (wE t.ret) = false := decide_eq_false c3;have e := Pn (fun q => c3 q.2.2.1) hD;subst e
   (try simp only [Ak, Aj, Ai, Ah, Ag, Af, Ae, Ad]); simp (maxSteps := 10000000) (disch := omega) only [ir10, Bb, Bg, p1, p2, p3, f1, f2, f3, go_sem]
 have p3 : M6 (wE s.ret) (wE t.ret) = true := decide_eq_true c3
 (try simp only [Ak, Aj, Ai, Ah, Ag, Af, Ae, Ad]); simp (maxSteps := 10000000) (disch := omega) only [ir10, Bb, Bg, p1, p2, p3, f1, f2, f3, go_sem]
 refine Aa (Ah1 (l := s.ents) (m := t.ents) (by omega) (by omega) rfl) ?_;by_cases c4 : s.ents.map Bk = t.ents.map Bk;rotate_left
 · have e := Pn (fun q => c4 (Z7.2 q.2.2.2.1)) hD;have hc4 : decide (s.ents.map Bk = t.ents.map Bk) = false := decide_eq_false c4;subst e
   (try simp only [Ak, Aj, Ai, Ah, Ag, Af, Ae, Ad]); simp (maxSteps := 10000000) (disch := omega) only [hc4, go_sem]
 by_cases hlen : s.objs.length = t.objs.length;rotate_left
 · have e := Pn (fun q => hlen (by simpa using congrArg List.length q.2.2.2.2)) hD;have hlen' : ¬ ((s.objs.length : Int) = (t.objs.length : Int)) := by omega
   have hc4 : decide (s.ents.map Bk = t.ents.map Bk) = true := decide_eq_true c4;subst e
   (try simp only [Ak, Aj, Ai, Ah, Ag, Af, Ae, Ad]); simp (maxSteps := 10000000) (disch := omega) only [hc4, List.length_map, hlen', go_sem]
 have hc4 : decide (s.ents.map Bk = t.ents.map Bk) = true := decide_eq_true c4
 (try simp only [Ak, Aj, Ai, Ah, Ag, Af, Ae, Ad]); simp (maxSteps := 10000000) (disch := omega) only [hc4, List.length_map, hlen, go_sem]
 refine A1 Aq (Aqg s t) (fun k => k ≤ t.objs.length ∧ ∀ j, j < k → (s.objs.map M7)[j]? = (t.objs.map M7)[j]?) (fun k => t.objs.length - k) 0 ⟨by simp, fun j hj => absurd hj (Nat.not_lt_zero j)⟩ (An ?_ ?_) fun k hk => ?_
 · (try simp only [Ak, Aj, Ai, Ah, Ag, Af, Ae, Ad]); simp (maxSteps := 10000000) (disch := omega) only [go_sem]
 · (try simp only [Ak, Aj, Ai, Ah, Ag, Af, Ae, Ad]); simp (maxSteps := 10000000) (disch := omega) only [Bb, Bg, go_sem]
 obtain ⟨hk, hj⟩ := hk;by_cases hlt : k < t.objs.length
 · have h2 : (t.objs.map A6)[k]? = some (A6 t.objs[k]) := by simp [hlt]
   have h1 : (s.objs.map A6)[k]? = some (A6 (s.objs[k]'(by omega))) := by simp [hlen, hlt]
   have g2 : (t.objs.map M7)[k]? = some (M7 t.objs[k]) := by simp [hlt]
   have g1 : (s.objs.map M7)[k]? = some (M7 (s.objs[k]'(by omega))) := by simp [hlen, hlt]
   have vp := ht.o _ (List.getElem_mem hlt);have vo := hs.o _ (List.getElem_mem (l := s.objs) (n := k) (by omega));generalize t.objs[k] = p at *;generalize s.objs[k]'(by omega) = o at *;have hol := C5;have hvo := vo.vn;have hvp := vp.vn;have hne : ¬ M7 o = M7 p → D = false := fun hn => Pn (fun q => hn (by have := q.2.2.2.2; rw [this] at g1; rw [g1] at g2; exact Option.some.inj g2)) hD
   (try simp only [Ak, Aj, Ai, Ah, Ag, Af, Ae, Ad]); simp (maxSteps := 10000000) (disch := omega) only [Aqg, Bb, Bg, List.length_map, hlen, go_sem]
   refine R4 ?_;by_cases d1 : o.id = p.id;rotate_left
   · have q1 : M6 [.i .i64 o.id.1, .i .u32 o.id.2] [.i .i64 p.id.1, .i .u32 p.id.2] = false := by rw [← Bool.not_eq_true]; exact fun q => d1 ((U0 _ _).1 q)
     have e := hne fun q => d1 (congrArg (·.1) q);subst e
     (try simp only [Ak, Aj, Ai, Ah, Ag, Af, Ae, Ad]); simp (maxSteps := 10000000) (disch := omega) only [h1, h2, List.length_map, hlen, D4, hol, C6, Db, Cp, D3, Df, Em, O4, f1, q1, go_sem]
   have q1 : M6 [.i .i64 o.id.1, .i .u32 o.id.2] [.i .i64 p.id.1, .i .u32 p.id.2] = true := (U0 _ _).2 d1;by_cases d2 : o.dir = p.dir;rotate_left
   · have e := hne fun q => d2 (congrArg (·.2.1) q);have q2 : (o.dir != p.dir) = true := by simpa using d2
     subst e
     (try simp only [Ak, Aj, Ai, Ah, Ag, Af, Ae, Ad]); simp (maxSteps := 10000000) (disch := omega) only [h1, h2, List.length_map, hlen, D4, hol, C6, Db, Cp, D3, Df, Em, O4, f1, q1, q2, d2, go_sem]
   have q2 : (o.dir != p.dir) = false := by simpa using d2
   by_cases d3 : o.last = p.last;rotate_left
   · have q3 : M6 [.i .i64 o.last.1, .i .u32 o.last.2] [.i .i64 p.last.1, .i .u32 p.last.2] = false := by rw [← Bool.not_eq_true]; exact fun q => d3 ((U0 _ _).1 q)
     have e := hne fun q => d3 (congrArg (·.2.2.1) q);subst e
     (try simp only [Ak, Aj, Ai, Ah, Ag, Af, Ae, Ad]); simp (maxSteps := 10000000) (disch := omega) only [h1, h2, List.length_map, hlen, D4, hol, C6, Db, Cp, D3, Df, Em, O4, f1, q1, q2, d2, q3, go_sem]
   have q3 : M6 [.i .i64 o.last.1, .i .u32 o.last.2] [.i .i64 p.last.1, .i .u32 p.last.2] = true := (U0 _ _).2 d3;by_cases d4 : o.name = p.name;rotate_left
   · have e := hne fun q => d4 (congrArg (·.2.2.2.1) q);subst e
     (try simp only [Ak, Aj, Ai, Ah, Ag, Af, Ae, Ad]); simp (maxSteps := 10000000) (disch := omega) only [h1, h2, List.length_map, hlen, D4, hol, C6, Db, Cp, D3, Df, Em, O4, f1, q1, q2, d2, q3, d4, go_sem]
   by_cases d5 : vE o.seen = vE p.seen;rotate_left
   · have q5 : M6 (vE o.seen) (vE p.seen) = false := decide_eq_false d5;have e := hne fun q => d5 (congrArg (·.2.2.2.2.1) q);subst e
     (try simp only [Ak, Aj, Ai, Ah, Ag, Af, Ae, Ad]); simp (maxSteps := 10000000) (disch := omega) only [h1, h2, List.length_map, hlen, D4, hol, C6, Db, Cp, D3, Df, Em, O4, f1, q1, q2, d2, q3, d4, q5, go_sem]
   have q5 : M6 (vE o.seen) (vE p.seen) = true := decide_eq_true d5
   (try simp only [Ak, Aj, Ai, Ah, Ag, Af, Ae, Ad]); simp (maxSteps := 10000000) (disch := omega) only [h1, h2, List.length_map, hlen, D4, hol, C6, Db, Cp, D3, Df, Em, O4, f1, q1, q2, d2, q3, d4, q5, go_sem]
   refine Aa (Ah0 (l := o.vers) (m := p.vers) (by omega) (by omega) rfl) ?_;by_cases d6 : o.vers.map Ba = p.vers.map Ba;rotate_left
   · have e := hne fun q => d6 (congrArg (·.2.2.2.2.2) q);have q6 : decide (o.vers.map Ba = p.vers.map Ba) = false := decide_eq_false d6;subst e
     (try simp only [Ak, Aj, Ai, Ah, Ag, Af, Ae, Ad]); simp (maxSteps := 10000000) (disch := omega) only [q6, go_sem]
   have q6 : decide (o.vers.map Ba = p.vers.map Ba) = true := decide_eq_true d6;have hK : M7 o = M7 p := by simp only [M7, d1, d2, d3, d4, d5, d6]
   (try simp only [Ak, Aj, Ai, Ah, Ag, Af, Ae, Ad]); simp (maxSteps := 10000000) (disch := omega) only [q6, go_sem]
   refine Al (k + 1) _ _ rfl ⟨by omega, fun j hjk => ?_⟩ (by omega) ?_ ?_
   · by_cases e : j = k
     · subst e; rw [g1, g2, hK]
     · exact hj j (by omega)
   · (try simp only [Ak, Aj, Ai, Ah, Ag, Af, Ae, Ad]); simp (maxSteps := 10000000) (disch := omega) only [go_sem]
   · (try simp only [Ak, Aj, Ai, Ah, Ag, Af, Ae, Ad]); simp (maxSteps := 10000000) (disch := omega) only [Bb, Bg, go_sem]
 · have e := Aln (p := Aao s t) ⟨c1, c2, c3, Z7.1 c4, List.ext_getElem? fun j => by
    by_cases hjk : j < k
    · exact hj j hjk
    · rw [List.getElem?_eq_none (by simp; omega), List.getElem?_eq_none (by simp; omega)]⟩ hD
   subst e
   (try simp only [Ak, Aj, Ai, Ah, Ag, Af, Ae, Ad]); simp (maxSteps := 10000000) (disch := omega) only [Aqg, Bb, Bg, List.length_map, hlen, go_sem]
theorem A4b {f : Bool} {z : Nat} {es : List (List PV)} {h d} (hz : es = [] ∨ z = 15) (hb : es.length ≤ 1000) : FunOk Tryz.prog 76 [.pv (.sl f z es)] h d (.os d) [.new d (.row 15 es)] := by
 refine Afn Aq fn76 (by simp) rfl (.inl rfl) fun F => ?_;simp (disch := omega) only [ir76, go_sem];intro b hb';cases b
 · simp (disch := omega) only [go_sem]
 · have he : es = [] := by
    cases es with
    | nil => rfl
    | cons c l => exact absurd (hb' (by simp)) (by simp)
   subst he
   (try simp only [Ak, Aj, Ai, Ah, Ag, Af, Ae, Ad]); simp (disch := omega) only [go_sem]
   first | exact ⟨_, rfl⟩ | decide
theorem A4a {f : Bool} {z : Nat} {es : List (List PV)} {h d} (hz : es = [] ∨ z = 11) (hb : es.length ≤ 1000) : FunOk Tryz.prog 41 [.pv (.sl f z es)] h d (.pv (.sl false 11 es)) [] := by
 refine Afo Aq fn41 (by simp) rfl fun F => ?_;simp (disch := omega) only [ir41, go_sem];intro b hb';cases b
 · simp (disch := omega) only [go_sem]
 · have he : es = [] := by
    cases es with
    | nil => rfl
    | cons c l => exact absurd (hb' (by simp)) (by simp)
   subst he
   (try simp only [Ak, Aj, Ai, Ah, Ag, Af, Ae, Ad]); simp (disch := omega) only [go_sem]
   first | exact ⟨_, rfl⟩ | decide
def Az9 (j f : Nat) (args : List SV) : M9 := match args with
 | [.pv (.sl _ z es)] => if es.length ≤ 1000 then
    if f = 76 ∧ (es.isEmpty = true ∨ z = 15) then some (.os j, [.new j (.row 15 es)])
    else if f = 41 ∧ (es.isEmpty = true ∨ z = 11) then some (.pv (.sl false 11 es), [])
    else none
   else none
 | _ => none
def A3z : Vn := fun _ f args H => Az9 (At6 H [] 1000 500000) f args
def Aro : Vn := fun d f args _ => Az9 d f args
theorem Alq {j f : Nat} {args : List SV} {x : SV} {u : List HU} {h d} (e : Az9 j f args = some (x, u)) : FunOk Tryz.prog f args h d x u := by
 unfold Az9 at e;split at e
 · split at e
   · rename_i hb;split at e
     · rename_i hf; cases e; rw [hf.1]; exact A4b (Acu hf.2) hb
     · split at e
       · rename_i hf; cases e; rw [hf.1]; exact A4a (Acu hf.2) hb
       all_goals cases e
   · cases e
 · cases e
theorem Axy : A7g Tryz.prog A3z := fun d f args H x u h => FunOk.deep (d := d) (Alq h)
theorem Ako : A1a Tryz.prog Aro := fun d f args H x u h => Alq h
theorem Axh {f : Nat} {args : List SV} {x : SV} {u : List HU} (n : Nat) {H : HL} {d : Nat} (e : Ny Tryz.prog Aro (Vi Tryz.prog A3z Aro n) d f args H = some (x, u)) : FunOk Tryz.prog f args (fun k => lk none k H) d x u :=
 Aae Aq Ako (Aua Aq Axy Ako n) e
def A47 : M9 → Bool
 | some (.pv (.b true), []) => true
 | _ => false
theorem Ay1 {r : M9} (h : A47 r = true) : r = some (.pv (.b true), []) := by
 unfold A47 at h;split at h
 · rfl
 · cases h
theorem Bcn : A47 (Ny Tryz.prog Aro (Vi Tryz.prog A3z Aro 60) 0 4 [] []) = true := by kernel_rfl
theorem Wu {h d} : FunOk Tryz.prog 4 [] h d (.pv (.b true)) [] :=
 let ⟨h1, h2⟩ := Axh (H := []) (d := 0) 60 (Ay1 Bcn)
 ⟨h1, fun F N ρ s a w hR _ => h2 F N ρ s a w hR (by simp [Bd])⟩
end Go.Proofs.YtannaphhhkncoaaGreat.Fw
namespace Go.Proofs.YtannaphhhkncoaaGreat.Fw
open Go.RowKit Go.Proofs
noncomputable def A2p (f : Bool) (l : List Evt) (k : Nat) : FS := mk [(4, .pv (.i .i64 k)), (3, .os 40), (0, .pv (.sl f 21 (l.map Cn)))] [(40, some (.row 21 ((Kn (l.take k)).map Cn)))]
structure EvIn (e : Evt) : Prop where
 ev : ev e
 dep : ∀ i, i < 8 → e.dep i < 4294967296
set_option maxHeartbeats 4000000 in
theorem Ars {f : Bool} {l : List Evt} {h d} (hn : l.length ≤ 400) (hev : ∀ e ∈ l, EvIn e) : FunOk Tryz.prog 7 [.pv (.sl f 21 (l.map Cn))] h d (.pv (.sl false 21 ((Kn l).map Cn))) [] := by
 refine Afo Aq fn7 (by simp) rfl fun F => ?_;simp (disch := omega) only [ir7, go_sem];refine A1 Aq (A2p f l) (fun k => k ≤ l.length) (fun k => l.length - k) 0 (by simp) (Na 3 40 21 rfl (by omega) (An ?_ ?_)) fun k hk => ?_
 · simp (disch := omega) only [go_sem]
 · simp (disch := omega) only [Kn, List.take_zero, List.foldl_nil, List.map_nil, go_sem]
 by_cases hlt : k < l.length
 · have hx : l[k]? = some l[k] := List.getElem?_eq_getElem hlt;have he : (l.map Cn)[k]? = some (Cn l[k]) := by rw [List.getElem?_map, hx]; rfl
   have ht := Dt hx;have hsn := V2 (l.take k) l[k];rw [← ht] at hsn;obtain ⟨t1, t2, t3⟩ := V3 (l.take k) fun e he => (hev e (List.mem_of_mem_take he)).ev;have tl : (Kn (l.take k)).length ≤ 400 := by have := List.length_take_le k l; omega
   have hek := hev _ (List.getElem_mem hlt);generalize l[k] = e at *;have hel := Ac e;generalize hT : Kn (l.take k) = T at *;have hin := Ap1 t1 tl;simp (disch := omega) only [A2p, hT, go_sem];refine Aa (Ar5 (Aas t1 tl) (Aar t1) rfl) ?_;simp (disch := omega) only [List.length_map, he, Dm, hel, go_sem];refine ⟨rfl, Aa (A8k hin hek.ev hek.dep) ?_⟩;by_cases hw : Pe (Bv T) e = 0
   · have e1 : Ap9 T e = T ++ [e] := if_pos hw;rw [e1] at hsn;simp (disch := omega) only [hw, List.length_map, he, Dm, hel, go_sem];refine ⟨k + 1, by omega, by omega, Cf 25 40 (by decide) rfl (An ?_ ?_)⟩
     · simp (disch := omega) only [go_sem]
     · simp (disch := omega) only [hsn, List.map_append, List.map_cons, List.map_nil, go_sem]
   · have e1 : Ap9 T e = T := if_neg hw;rw [e1] at hsn;simp (disch := omega) only [hw, go_sem];refine Al (k + 1) _ _ rfl (by omega) (by omega) ?_ ?_
     · simp (disch := omega) only [go_sem]
     · simp (disch := omega) only [hsn, go_sem]
 · obtain rfl : k = l.length := by omega
   have htk : l.take l.length = l := List.take_length;simp (disch := omega) only [A2p, List.length_map, htk, go_sem]
def A1b (e : Evt) : Prop := e.name.length ≤ 30 ∧ e.data.length ≤ 250 ∧ e.gone.l.length ≤ 10 ∧ e.base.l.length ≤ 10
def Ag3 (l : List Evt) : Prop := l.length ≤ 30 ∧ ∀ e ∈ l, A1b e
open Classical in
noncomputable def Z4 (l : List Evt) : Bool := decide (Ag3 l)
theorem Acn {l : List Evt} (h : Ag3 l) : Z4 l = true := by simp [Z4, h]
theorem Vh {l : List Evt} (h : ¬ Ag3 l) : Z4 l = false := by simp [Z4, h]
def V8 (f : Bool) (l : List Evt) (k : Nat) : FS := mk [(10, .pv (.i .i64 k)), (9, .pv (.i .i64 l.length)), (8, .pv (.sl f 21 (l.map Cn)))] []
set_option maxHeartbeats 2000000 in
theorem Aes {x : SV} {f : Bool} {l : List Evt} {h d} (hx : Ct h [x] = [.pv (.sl f 21 (l.map Cn))]) (hl : Bc [x] = true) :
 FunOk Tryz.prog 5 [x] h d (.pv (.b (Z4 l))) [] := by
 refine Cx Aq fn5 (by simp) hl rfl fun F => ?_;rw [hx];by_cases h30 : 30 < (l.length : Int)
 · have hf := Vh (l := l) fun h => by have := h.1; omega
   simp (disch := omega) only [ir5, List.length_map, hf, go_sem]
 simp (disch := omega) only [ir5, List.length_map, go_sem];refine A1 Aq (V8 f l) (fun k => k ≤ l.length ∧ ∀ j e, j < k → l[j]? = some e → A1b e) (fun k => l.length - k) 0 ⟨by simp, fun j e hj => absurd hj (Nat.not_lt_zero j)⟩ (An ?_ ?_) fun k hk => ?_
 · simp (disch := omega) only [List.length_map, go_sem]
 · simp (disch := omega) only [go_sem]
 obtain ⟨hk1, hk2⟩ := hk;by_cases hlt : k < l.length
 · have hx' : l[k]? = some l[k] := List.getElem?_eq_getElem hlt;have he : (l.map Cn)[k]? = some (Cn l[k]) := by rw [List.getElem?_map, hx']; rfl
   have hm := List.getElem_mem hlt;generalize l[k] = e at *;have hel := Ac e;have hg : e.gone.pv = .sl e.gone.f e.gone.z (e.gone.l.map Ga) := rfl;have hb : e.base.pv = .sl e.base.f e.base.z (e.base.l.map Ga) := rfl;have hno : ¬ A1b e → Z4 l = false := fun q => Vh fun h => q (h.2 e hm);by_cases c1 : 30 < (e.name.length : Int)
   · have hf := hno fun q => by have := q.1; omega
     simp (disch := omega) only [V8, List.length_map, he, Dm, hel, Fo, c1, hf, go_sem]
   by_cases c2 : 250 < (e.data.length : Int)
   · have hf := hno fun q => by have := q.2.1; omega
     simp (disch := omega) only [V8, List.length_map, he, Dm, hel, Fo, c1, J0, c2, hf, go_sem]
   by_cases c3 : 10 < (e.gone.l.length : Int)
   · have hf := hno fun q => by have := q.2.2.1; omega
     simp (disch := omega) only [V8, List.length_map, he, Dm, hel, Fo, c1, J0, c2, Hv, hg, c3, hf, go_sem]
   by_cases c4 : 10 < (e.base.l.length : Int)
   · have hf := hno fun q => by have := q.2.2.2; omega
     simp (disch := omega) only [V8, List.length_map, he, Dm, hel, Fo, c1, J0, c2, Hv, hg, c3, J1, hb, c4, hf, go_sem]
   simp (disch := omega) only [V8, List.length_map, he, Dm, hel, Fo, c1, J0, c2, Hv, hg, c3, J1, hb, c4, go_sem];refine Al (k + 1) _ _ rfl ⟨by omega, fun j x hj hjx => ?_⟩ (by omega) ?_ ?_
   · by_cases ej : j = k
     · subst ej; rw [hx'] at hjx; cases hjx; exact ⟨by omega, by omega, by omega, by omega⟩
     · exact hk2 j x (by omega) hjx
   · simp (disch := omega) only [go_sem]
   · simp (disch := omega) only [go_sem]
 · obtain rfl : k = l.length := by omega
   have hf := Acn (l := l) ⟨by omega, fun e he => by
    obtain ⟨j, hj⟩ := List.mem_iff_getElem?.1 he;exact hk2 j e (List.getElem?_eq_some_iff.1 hj).1 hj⟩
   simp (disch := omega) only [V8, hf, go_sem]
abbrev Wc : Sh := .st [Ad6, .arr 8 (.int .u32), .int .i64, Ad6, Ad6, .str, .sl Ad6, .sl Ad6, .int .i64, .str, .int .i64]
theorem A7i {cs : List PV} (h : GC Wc cs) : ∃ e : Evt, cs = Cn e ∧ (∀ i, i < 8 → e.dep i < 4294967296) ∧ e.gone.ok ∧ e.base.ok ∧ e.name.length ≤ maxLen ∧ e.data.length ≤ maxLen := by
 simp only [GC] at h;simp only [GCL] at h;obtain ⟨c0, r0, rfl, g0, c1, r1, rfl, g1, c2, r2, rfl, ⟨n2, rfl, w2⟩, c3, r3, rfl, g3, c4, r4, rfl, g4, c5, r5, rfl, ⟨s5, rfl, w5⟩, c6, r6, rfl, g6, c7, r7, rfl, g7, c8, r8, rfl, ⟨n8, rfl, w8⟩, c9, r9, rfl, ⟨s9, rfl, w9⟩, c10, r10, rfl, ⟨n10, rfl, w10⟩, rfl⟩ := h;obtain ⟨b0, rfl, hb0⟩ := Ag2 (by simp only [GC]; exact g0);obtain ⟨a, rfl, ha⟩ := Bbn (by simp only [GC]; exact g1);obtain ⟨b3, rfl, hb3⟩ := Ag2 (by simp only [GC]; exact g3);obtain ⟨b4, rfl, hb4⟩ := Ag2 (by simp only [GC]; exact g4);obtain ⟨e6, rfl, l6, g6⟩ := Av0 (s := Ad6) (by simp only [GC]; exact g6);obtain ⟨e7, rfl, l7, g7⟩ := Av0 (s := Ad6) (by simp only [GC]; exact g7);obtain ⟨m6, rfl, _⟩ := Acw (f := Ga) Ag2 g6;obtain ⟨m7, rfl, _⟩ := Acw (f := Ga) Ag2 g7;exact ⟨⟨b0.1, b0.2, a, n2, b3.1, b3.2, b4.1, b4.2, s5, ⟨false, 2, m6⟩, ⟨false, 2, m7⟩, n8, s9, n10⟩, by simp [Cn, Ga, SlI.pv]; rfl, ha, .inr rfl, .inr rfl, w5, w9⟩
structure EvRaw (e : Evt) : Prop where
 dep : ∀ i, i < 8 → e.dep i < 4294967296
 gone : e.gone.ok
 base : e.base.ok
theorem Are {e : Evt} (h : EvRaw e) (k : A1b e) : EvIn e := by
 obtain ⟨k1, k2, k3, k4⟩ := k;exact ⟨⟨h.gone, h.base, by omega, by omega, by omega⟩, h.dep⟩
theorem A7j {cs : List PV} (h : GC Wc cs) : ∃ e : Evt, cs = Cn e ∧ EvRaw e := by
 obtain ⟨e, h1, h2, h3, h4, _, _⟩ := A7i h;exact ⟨e, h1, ⟨h2, h3, h4⟩⟩
theorem Av1 {cs : List PV} (h : GC (.sl Wc) cs) : ∃ l : List Evt, cs = [.sl false 21 (l.map Cn)] ∧ ∀ e ∈ l, EvRaw e := by
 obtain ⟨es, rfl, _, g⟩ := Av0 h;obtain ⟨l, rfl, hl⟩ := Acw (f := Cn) (p := EvRaw) A7j g;exact ⟨l, rfl, hl⟩
end Go.Proofs.YtannaphhhkncoaaGreat.Fw
namespace Go.Proofs.YtannaphhhkncoaaGreat.Fw
open Go.RowKit Go.Proofs
theorem Ahr (s : St) : Aao s s := ⟨rfl, rfl, rfl, rfl, rfl⟩
set_option maxHeartbeats 8000000 in
open Classical in
theorem Ank {a b : List Evt} (ha : ∀ e ∈ a, EvRaw e) (hb : ∀ e ∈ b, EvRaw e) {h d} :
 FunOk Tryz.prog 3 [.pv (.sl false 21 (a.map Cn)), .pv (.sl false 21 (b.map Cn))] h d (.pv (.b true)) [] := by
 refine A7 Aq fn3 (by simp) rfl rfl fun F => ?_
 (try simp only [Ak, Aj, Ai, Ah, Ag, Af, Ae, Ad]); simp (maxSteps := 10000000) (disch := omega) only [ir3, go_sem]
 refine Aa Wu ?_
 (try simp only [Ak, Aj, Ai, Ah, Ag, Af, Ae, Ad]); simp (maxSteps := 10000000) (disch := omega) only [go_sem]
 refine Aa (Aes (l := a) rfl rfl) ?_;by_cases hfa' : Ag3 a;rotate_left
 · have hf := Vh hfa'
   (try simp only [Ak, Aj, Ai, Ah, Ag, Af, Ae, Ad]); simp (maxSteps := 10000000) (disch := omega) only [hf, go_sem]
   refine Aa Wu ?_
   (try simp only [Ak, Aj, Ai, Ah, Ag, Af, Ae, Ad]); simp (maxSteps := 10000000) (disch := omega) only [go_sem]
 have hfa := Acn hfa'
 (try simp only [Ak, Aj, Ai, Ah, Ag, Af, Ae, Ad]); simp (maxSteps := 10000000) (disch := omega) only [hfa, go_sem]
 refine Aa (Aes (l := b) rfl rfl) ?_;by_cases hfb' : Ag3 b;rotate_left
 · have hf := Vh hfb'
   (try simp only [Ak, Aj, Ai, Ah, Ag, Af, Ae, Ad]); simp (maxSteps := 10000000) (disch := omega) only [hf, go_sem]
   refine Aa Wu ?_
   (try simp only [Ak, Aj, Ai, Ah, Ag, Af, Ae, Ad]); simp (maxSteps := 10000000) (disch := omega) only [go_sem]
 have hfb := Acn hfb';have hia : ∀ e ∈ a, EvIn e := fun x hx => Are (ha x hx) (hfa'.2 x hx);have hib : ∀ e ∈ b, EvIn e := fun x hx => Are (hb x hx) (hfb'.2 x hx);have ha30 := hfa'.1;have hb30 := hfb'.1;obtain ⟨a1, a2, a3⟩ := V3 a fun e he => (hia e he).ev;obtain ⟨b1, b2, b3⟩ := V3 b fun e he => (hib e he).ev;have wa := Ap0 a1 (by omega);have wb := Ap0 b1 (by omega);obtain ⟨sa1, sa2, sa3⟩ := Ag9 a1 (by omega)
 (try simp only [Ak, Aj, Ai, Ah, Ag, Af, Ae, Ad]); simp (maxSteps := 10000000) (disch := omega) only [hfb, go_sem]
 refine Aa (Ars (l := a) (by omega) hia) ?_
 (try simp only [Ak, Aj, Ai, Ah, Ag, Af, Ae, Ad]); simp (maxSteps := 10000000) (disch := omega) only [go_sem]
 refine Aa (Aeu (Aas a1 (by omega)) (Aar a1)) ?_
 (try simp only [Ak, Aj, Ai, Ah, Ag, Af, Ae, Ad]); simp (maxSteps := 10000000) (disch := omega) only [go_sem]
 refine Aa (Ars (l := b) (by omega) hib) ?_
 (try simp only [Ak, Aj, Ai, Ah, Ag, Af, Ae, Ad]); simp (maxSteps := 10000000) (disch := omega) only [go_sem]
 refine Aa (Aeu (Aas b1 (by omega)) (Aar b1)) ?_;generalize Bv (Kn a) = x at *;generalize Bv (Kn b) = y at *;have hdd : decide (Hc x = Hc y) = decide (Aao x y) := decide_eq_decide.2 (Ahg wa wb)
 (try simp only [Ak, Aj, Ai, Ah, Ag, Af, Ae, Ad]); simp (maxSteps := 10000000) (disch := omega) only [Bb, Bg, go_sem]
 refine Aa (Wr wa) ?_
 (try simp only [Ak, Aj, Ai, Ah, Ag, Af, Ae, Ad]); simp (maxSteps := 10000000) (disch := omega) only [go_sem]
 refine Aa (Axz wa sa1 sa2 sa3) ?_
 (try simp only [Ak, Aj, Ai, Ah, Ag, Af, Ae, Ad]); simp (maxSteps := 10000000) (disch := omega) only [Bb, Bg, go_sem]
 refine Aa (Zp wa wa (Aln (Ahr x) rfl).symm) ?_
 (try simp only [Ak, Aj, Ai, Ah, Ag, Af, Ae, Ad]); simp (maxSteps := 10000000) (disch := omega) only [go_sem]
 refine Aa (Wr wb) ?_
 (try simp only [Ak, Aj, Ai, Ah, Ag, Af, Ae, Ad]); simp (maxSteps := 10000000) (disch := omega) only [go_sem]
 refine Aa (Zp wa wb rfl) ?_
 (try simp only [Ak, Aj, Ai, Ah, Ag, Af, Ae, Ad]); simp (maxSteps := 10000000) (disch := omega) only [hdd, go_sem]
theorem S8 {c0 c1 : List PV} (g0 : GC (.sl Wc) c0) (g1 : GC (.sl Wc) c1) {h d} :
 FunOk Tryz.prog 3 [Jl (.sl Wc) c0, Jl (.sl Wc) c1] h d (.pv (.b true)) [] := by
 obtain ⟨a, rfl, ha⟩ := Av1 g0;obtain ⟨b, rfl, hb⟩ := Av1 g1;exact Ank ha hb
end Go.Proofs.YtannaphhhkncoaaGreat.Fw
