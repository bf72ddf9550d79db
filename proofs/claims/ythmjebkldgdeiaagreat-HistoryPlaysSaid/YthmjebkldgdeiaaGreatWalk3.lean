/- What the functions compute that the laws of this seat reach. -/
import Derived.Test.YthmjebkldgdeiaaGreatWalk2
import Derived.OpenShut
import Derived.ShutString
import Derived.ChangeOld
import Derived.SizedLaws
import Derived.ChangeOld
import Derived.Lib.Bytealg
import Derived.Lib.Overlaps
import Derived.OpenShut
import Derived.ShutString
import Derived.SizedLaws
set_option linter.unusedVariables false
set_option linter.unusedSimpArgs false
set_option linter.unusedSectionVars false
set_option maxRecDepth 100000
namespace Go.Proofs.YthmjebkldgdeiaaGreat.Fw
open Go.RowKit Go.Proofs
theorem Jv (v : Vc) : Ec [K1.int .u32, .int .u32, .int .u32, .int .u32, .int .u32, .int .u32, .int .u32, .int .u32] (vE v) = True := eq_true rfl
theorem A3e (v : Nat → Int) : Ec [K1.int .i64, .int .i64, .int .i64, .int .i64, .int .i64, .int .i64, .int .i64, .int .i64] (iE v) = True := eq_true rfl
theorem A3d (v : Nat → Bool) : Ec [K1.bool, .bool, .bool, .bool, .bool, .bool, .bool, .bool] (wE v) = True := eq_true rfl
theorem Ax2 (i : Bo) : Ec [K1.int .i64, .int .u32] [.i .i64 i.1, .i .u32 i.2] = True := eq_true rfl
def Aft (s : St) (k : Nat) : FS := mk [(5, .pv (.i .i64 k)), (2, .p 2 0), (3, .p 3 0)] [(2, some (.var (.agg (Ba s)))), (3, some (.var (.agg (Ba s))))]
set_option maxHeartbeats 2000000 in
theorem Apx {s : St} (hs : Fine s) {h d} : FunOk Tryz.prog 20 [.agg (Ba s), .agg (Ba s)] h d (.pv (.b true)) [] := by
 refine Aq Af fn20 (by simp) rfl rfl fun F => ?_;have p1 := Dr (vE s.known);have p2 := Dr (iE s.wards);have p3 := Dr (wE s.ret);have f1 := Jv s.known;have f2 := A3e s.wards;have f3 := A3d s.ret;simp (disch := omega) only [ir20, Ba, A6, p1, p2, p3, f1, f2, f3, go_sem];refine Aa (Apw (l := s.ents) rfl rfl rfl (Nat.le_trans hs.en (by omega))) ?_;simp (disch := omega) only [List.length_map, go_sem];refine A1 Af (Aft s) (fun k => k ≤ s.objs.length) (fun k => s.objs.length - k) 0 (by simp) (Ak ?_ ?_) fun k hk => ?_
 · simp (disch := omega) only [go_sem]
 · simp (disch := omega) only [Ba, A6, go_sem]
 by_cases hlt : k < s.objs.length
 · have h2 : (s.objs.map Ap)[k]? = some (Ap s.objs[k]) := by simp [hlt]
   have hvk := hs.ov _ (List.getElem_mem hlt);have hon := hs.on;generalize s.objs[k] = o at *;have hol := Eu o;have q1 := Dr [.i .i64 o.id.1, .i .u32 o.id.2];have q2 := Dr [.i .i64 o.last.1, .i .u32 o.last.2];have q3 := Dr (vE o.seen);have q4 := Jv o.seen;simp (disch := omega) only [Aft, Ba, A6, List.length_map, go_sem];refine Nx ?_;simp (disch := omega) only [h2, List.length_map, Fz, hol, He, Ew, H0, Ags, L3, E4, Ax2, q1, q2, q3, q4, go_sem];refine Aa (A1y (l := o.vers) (m := o.vers) rfl rfl rfl (by omega)) ?_;simp (disch := omega) only [go_sem];refine Ad (k + 1) _ _ rfl (by omega) (by omega) ?_ ?_
   · simp (disch := omega) only [go_sem]
   · simp (disch := omega) only [Ba, A6, go_sem]
 · obtain rfl : k = s.objs.length := by omega
   simp (disch := omega) only [Aft, Ba, A6, List.length_map, go_sem]
noncomputable def A0r (f : Bool) (l : List Evt) (k : Nat) : FS := mk [(4, .pv (.i .i64 k)), (3, .os 40), (0, .pv (.sl f 21 (l.map Be)))] [(40, some (.row 21 ((Mm (l.take k)).map Be)))]
structure EvIn (e : Evt) : Prop where
 ev : ev e
 dep : ∀ i, i < 8 → e.dep i < 4294967296
set_option maxHeartbeats 4000000 in
theorem A1x {f : Bool} {l : List Evt} {h d} (hn : l.length ≤ 400) (hev : ∀ e ∈ l, EvIn e) : FunOk Tryz.prog 11 [.pv (.sl f 21 (l.map Be))] h d (.pv (.sl false 21 ((Mm l).map Be))) [] := by
 refine Re Af fn11 (by simp) rfl fun F => ?_;simp (disch := omega) only [ir11, go_sem];refine A1 Af (A0r f l) (fun k => k ≤ l.length) (fun k => l.length - k) 0 (by simp) (R2 3 40 21 rfl (by omega) (Ak ?_ ?_)) fun k hk => ?_
 · simp (disch := omega) only [go_sem]
 · simp (disch := omega) only [Mm, List.take_zero, List.foldl_nil, List.map_nil, go_sem]
 by_cases hlt : k < l.length
 · have hx : l[k]? = some l[k] := List.getElem?_eq_getElem hlt;have he : (l.map Be)[k]? = some (Be l[k]) := by rw [List.getElem?_map, hx]; rfl
   have ht := Dc hx;have hsn := Vr (l.take k) l[k];rw [← ht] at hsn;obtain ⟨t1, t2, t3⟩ := Acs (l.take k) fun e he => (hev e (List.mem_of_mem_take he)).ev;have tl : (Mm (l.take k)).length ≤ 400 := by have := List.length_take_le k l; omega
   have hek := hev _ (List.getElem_mem hlt);generalize l[k] = e at *;have hel := Ac e;generalize hT : Mm (l.take k) = T at *;have hin := Pl t1 tl;simp (disch := omega) only [A0r, hT, go_sem];refine Aa (Aqf (Uj t1 tl) (Ui t1) rfl) ?_;simp (disch := omega) only [List.length_map, he, Bj, hel, go_sem];refine ⟨rfl, Aa (Azr hin hek.ev hek.dep) ?_⟩;by_cases hw : Ff (Am T) e = 0
   · have e1 : Jz T e = T ++ [e] := if_pos hw;rw [e1] at hsn;simp (disch := omega) only [hw, List.length_map, he, Bj, hel, go_sem];refine ⟨k + 1, by omega, by omega, Es 25 40 (by decide) rfl (Ak ?_ ?_)⟩
     · simp (disch := omega) only [go_sem]
     · simp (disch := omega) only [hsn, List.map_append, List.map_cons, List.map_nil, go_sem]
   · have e1 : Jz T e = T := if_neg hw;rw [e1] at hsn;simp (disch := omega) only [hw, go_sem];refine Ad (k + 1) _ _ rfl (by omega) (by omega) ?_ ?_
     · simp (disch := omega) only [go_sem]
     · simp (disch := omega) only [hsn, go_sem]
 · obtain rfl : k = l.length := by omega
   have htk : l.take l.length = l := List.take_length;simp (disch := omega) only [A0r, List.length_map, htk, go_sem]
def Azl (e : Evt) : Prop := e.name.length ≤ 30 ∧ e.data.length ≤ 250 ∧ e.gone.l.length ≤ 10 ∧ e.base.l.length ≤ 10
theorem An9 (s : St) : A3 (Ba s) = [] := by simp [Ba, A6, A3, tn]
abbrev V8 : Sh := .st [Ac2, .arr 8 (.int .u32), .int .i64, Ac2, Ac2, .str, .sl Ac2, .sl Ac2, .int .i64, .str, .int .i64]
theorem Azk {cs : List PV} (h : GC V8 cs) : ∃ e : Evt, cs = Be e ∧ (∀ i, i < 8 → e.dep i < 4294967296) ∧ e.gone = ⟨false, 2, e.gone.l⟩ ∧ e.base = ⟨false, 2, e.base.l⟩ := by
 simp only [GC] at h;simp only [GCL] at h;obtain ⟨c0, r0, rfl, g0, c1, r1, rfl, g1, c2, r2, rfl, ⟨n2, rfl, w2⟩, c3, r3, rfl, g3, c4, r4, rfl, g4, c5, r5, rfl, ⟨s5, rfl, w5⟩, c6, r6, rfl, g6, c7, r7, rfl, g7, c8, r8, rfl, ⟨n8, rfl, w8⟩, c9, r9, rfl, ⟨s9, rfl, w9⟩, c10, r10, rfl, ⟨n10, rfl, w10⟩, rfl⟩ := h;obtain ⟨b0, rfl, hb0⟩ := Afj (by simp only [GC]; exact g0);obtain ⟨a, rfl, ha⟩ := Az3 (by simp only [GC]; exact g1);obtain ⟨b3, rfl, hb3⟩ := Afj (by simp only [GC]; exact g3);obtain ⟨b4, rfl, hb4⟩ := Afj (by simp only [GC]; exact g4);obtain ⟨e6, rfl, l6, g6⟩ := Ajx (s := Ac2) (by simp only [GC]; exact g6);obtain ⟨e7, rfl, l7, g7⟩ := Ajx (s := Ac2) (by simp only [GC]; exact g7);obtain ⟨m6, rfl, _⟩ := Xl (f := Eb) Afj g6;obtain ⟨m7, rfl, _⟩ := Xl (f := Eb) Afj g7;exact ⟨⟨b0.1, b0.2, a, n2, b3.1, b3.2, b4.1, b4.2, s5, ⟨false, 2, m6⟩, ⟨false, 2, m7⟩, n8, s9, n10⟩, by simp [Be, Eb, SlI.pv]; rfl, ha, rfl, rfl⟩
structure EvRaw (e : Evt) : Prop where
 dep : ∀ i, i < 8 → e.dep i < 4294967296
 gone : e.gone.ok
 base : e.base.ok
theorem Api {e : Evt} (h : EvRaw e) (k : Azl e) : EvIn e := by
 obtain ⟨k1, k2, k3, k4⟩ := k;exact ⟨⟨h.gone, h.base, by omega, by omega, by omega⟩, h.dep⟩
structure GrewO (x y : Obj) : Prop where
 id : y.id = x.id
 dir : y.dir = x.dir
 seen : J1 x.seen y.seen
 len : x.vers.length ≤ y.vers.length
theorem GrewO.trans {x y z : Obj} (h : GrewO x y) (k : GrewO y z) : GrewO x z := ⟨k.id.trans h.id, k.dir.trans h.dir, fun i hi => Nat.le_trans (h.seen i hi) (k.seen i hi), Nat.le_trans h.len k.len⟩
structure Wd where
 w : Nat → Int
 v : Vc
 r : Nat → Bool
end Go.Proofs.YthmjebkldgdeiaaGreat.Fw
namespace Go.Proofs.YthmjebkldgdeiaaGreat.Fw
open Go.RowKit Go.Proofs
variable {P : Program}
theorem Asa (hm : P.follows .mixedOrders = true) {f N' : Nat} {rs : List Rv} {c : C} (hf : A5 P f = some (N', rs, c)) {args : List SV} {h : Nat → Option Blk} {d : Nat} {x : SV} (hlen : args.length ≤ N')
 (hargs : SV.closedL args = true) (hx : x.closed = true) (hrun : ∀ F, sx (U9 P F N') c (Ah4 rs fun y g => ∃ n, y = .p n 0 ∧ g.h n = some (.var x)) (mk (C6 0 args) [])) :
 FunOk P f args h d (.p d 0) [.new d (.var x)] := by
 obtain ⟨h1, h2, h3⟩ := Co hargs;refine ⟨Cn hf, fun F N ρ s a w hR hh vs hc => ?_⟩;refine Calls.mono (Dq hm hf (h := h) hlen h2 We (by rw [h3]; exact hrun) hR hh hc) fun e w' he => ?_;obtain ⟨v, rfl, hg, N'', ρ', s', a', y, hR', hy, n, rfl, hn⟩ := he;rw [h1, Dx] at hR' hy;simp only [Conc] at hy;obtain ⟨b0, hy1, hy2⟩ := hy;obtain ⟨b, vs', ty, fr, u, g1, g2, g3, g4, g5, g6, g7⟩ := hR'.own n _ hn;have hown : ∀ b, Cq (ρ' n) = some b → w.heap.size ≤ b ∧ b < w'.heap.size := fun b hb => by
  have ho : Cl ρ' s'.h b := ⟨n, _, hn, hb⟩
  exact ⟨(hR'.may b ho).resolve_right id, hR'.lt ho⟩
 have hle : (vw ⟨w, fun _ => False, F.out ρ s.h, fun _ => undef, []⟩ w' ρ' s').le (Ay w' (F.out (upd ρ d (ρ' n)) ((s.kill d).seth d (some (.var x))).h)) := Bl fun b' c' hno hc' => ⟨fun hb' => hno (by
  rcases hb' with ⟨m, z, hm1, hm2⟩ | hb'
  · simp only [FS.seth, FS.kill] at hm1;by_cases hmd : m = d
    · subst hmd;rw [A0] at hm2;exact .inl ⟨n, _, hn, hm2⟩
    · rw [Bs hmd] at hm2;simp only [hmd, if_false] at hm1;obtain ⟨z', hz', _⟩ := Option.map_eq_some_iff.1 hm1;exact .inr (.inl ⟨m, z', hz', hm2⟩)
  · exact .inr (.inr hb')), hc'⟩
 have hnew := hR.adopt hg d (.var x) (ρ' n) hown fun hV => ⟨b, vs', ty, fr, u, by rw [A0]; exact g1, g2, g3, Cb hle hx g4, g5, g6, g7⟩
 refine ⟨v, _, rfl, hnew.1, ?_⟩;simp only [Conc];exact ⟨b0, by rw [A0]; exact hy1, hy2⟩
end Go.Proofs.YthmjebkldgdeiaaGreat.Fw
namespace Go.Proofs.YthmjebkldgdeiaaGreat.Fw
open Go.RowKit Go.Proofs
theorem Y4 {f : Bool} {z : Nat} {es : List (List PV)} {h d} (hz : es = [] ∨ z = 2) (hb : es.length ≤ 1000) : FunOk Tryz.prog 98 [.pv (.sl f z es)] h d (.pv (.sl false 2 es)) [] := by
 refine Re Af fn98 (by simp) rfl fun F => ?_;simp (disch := omega) only [ir98, go_sem];intro b hb';cases b
 · simp (disch := omega) only [go_sem]
 · have he : es = [] := by
    cases es with
    | nil => rfl
    | cons c l => exact absurd (hb' (by simp)) (by simp)
   subst he
   (try simp only [B9, B0, Bz, Bx, Bw, Bv, Bu, Bt]); simp (disch := omega) only [go_sem]
   decide
theorem Adv {f : Bool} {z : Nat} {es : List (List PV)} (hz : es = [] ∨ z = 21) {h d} : FunOk Tryz.prog 69 [.pv (.sl f z es)] h d (.pv (.sl true z es)) [] := by
 refine Aq Af fn69 (by simp) rfl rfl fun F => ?_;have e := List.take_length (l := es);simp (disch := omega) only [ir69, hz, e, List.drop_zero, go_sem]
def Hn (e : Evt) : Evt := { e with gone := ⟨false, 2, e.gone.l⟩, base := ⟨false, 2, e.base.l⟩ }
theorem Ayt {e : Evt} (h : ev e) : ev (Hn e) := ⟨.inr rfl, .inr rfl, h.2.2.1, h.2.2.2.1, h.2.2.2.2⟩
theorem Aon (e : Evt) (g : SlI) : splice (Be e) 16 [g.pv] = Be { e with gone := g } := by
 simp only [splice, Be, vE, Cz]; rfl
theorem Aop (e : Evt) (g : SlI) : splice (Be e) 17 [g.pv] = Be { e with base := g } := by
 simp only [splice, Be, vE, Cz]; rfl
theorem Sp (e : Evt) (he : ev e) {h d} : FunOk Tryz.prog 57 [.vec 21 (Be e)] h d (.vec 21 (Be (Hn e))) [] := by
 refine Aq Af fn57 (by simp) rfl rfl fun F => ?_;obtain ⟨h1, h2, h3, h4, h5⟩ := he;have hg : e.gone.pv = .sl e.gone.f e.gone.z (e.gone.l.map Eb) := rfl;have hb : e.base.pv = .sl e.base.f e.base.z (e.base.l.map Eb) := rfl;have hel := Ac e;have s1 := Aon e ⟨false, 2, e.gone.l⟩;have s2 := Aop { e with gone := ⟨false, 2, e.gone.l⟩ } ⟨false, 2, e.base.l⟩;simp only [SlI.pv] at s1 s2;simp (disch := omega) only [ir57, Ge, Fl, hg, hb, go_sem];refine Aa (Y4 (es := e.gone.l.map Eb) (h1.imp (fun q => by rw [q]; rfl) id) (by rw [List.length_map]; omega)) ?_;simp (disch := omega) only [Fl, hb, go_sem];refine Aa (Y4 (es := e.base.l.map Eb) (h2.imp (fun q => by rw [q]; rfl) id) (by rw [List.length_map]; omega)) ?_;simp (disch := omega) only [hel, s1, s2, Bj, go_sem];rfl
def Aav (S : St) (fl : Vc) (f : Bool) (z : Nat) (L : List Evt) : List SV := Ba S ++ [.vec 8 (vE fl), .pv (.sl f z (L.map Be))]
def Mw (S : St) (fl : Vc) (L : List Evt) : SV := .agg (Aav S fl false 21 L)
theorem Adl {S : St} (hS : Fine S) {h d} : FunOk Tryz.prog 23 [.agg (Ba S)] h d (.p d 0) [.new d (.var (Mw S S.known []))] := by
 refine Asa Af fn23 (by simp) rfl rfl fun F => ?_;simp (disch := omega) only [ir23, Ba, A6, go_sem];refine Aa (Y3 (s := S) hS) ?_;simp (disch := omega) only [Ba, A6, go_sem];have hi : Imp (.agg (Ba S ++ [.vec 8 (vE S.known), .pv (.sl true 0 [])])) (Mw S S.known []) :=
  Aek (l := [.vec 8 (vE S.known), .pv (.sl false 15 (S.objs.map Ap)), .pv (.sl false 15 (S.ents.map Bn)), .vec 8 (iE S.wards), .vec 8 (wE S.ret), .vec 8 (vE S.known), .pv (.sl true 0 [])]) (m := [.vec 8 (vE S.known), .pv (.sl false 15 (S.objs.map Ap)), .pv (.sl false 15 (S.ents.map Bn)), .vec 8 (iE S.wards), .vec 8 (wE S.ret), .vec 8 (vE S.known), .pv (.sl false 21 [])]) ⟨⟨Imp.refl _, rfl⟩, ⟨Imp.refl _, rfl⟩, ⟨Imp.refl _, rfl⟩, ⟨Imp.refl _, rfl⟩, ⟨Imp.refl _, rfl⟩, ⟨Imp.refl _, rfl⟩, ⟨W8 (Ia (fun q => by cases q) (.inl rfl) (.refl _)), rfl⟩, trivial⟩
 refine ⟨mk [(2, .p 8 0)] [(8, some (.var (Mw S S.known [])))], Ak ?_ ?_, ?_⟩
 · simp (disch := omega) only [go_sem]
 · simp (disch := omega) only [go_sem];exact ⟨hi, rfl⟩
 (try simp only [B9, B0, Bz, Bx, Bw, Bv, Bu, Bt]); simp (disch := omega) only [go_sem]
 exact ⟨8, rfl, if_pos rfl⟩
end Go.Proofs.YthmjebkldgdeiaaGreat.Fw
namespace Go.Proofs.YthmjebkldgdeiaaGreat.Fw
open Go.RowKit Go.Proofs
theorem M9 {S : St} {fl : Vc} {L : List Evt}  {g : Nat} {h d} (hg : h g = some (.var (Mw S fl L))) : FunOk Tryz.prog 18 [.p g 0] h d (.vec 8 (vE S.known)) [] := by
 refine FunOk.quiet (g := g) (blk := .var (Mw S fl L)) ?_ hg (by simp [A3, tn]);refine FunOk.io (fun h d hg => ?_) rfl rfl rfl rfl hg;refine Gg (g := 900) Af fn18 (by simp) (by simp [A3, tn]) (by simp [A3, tn]) hg rfl (by simp [Blk.ptr, SV.kill]) rfl (fun _ => rfl) fun F => ?_;simp (disch := omega) only [ir18, Mw, Aav, Ba, A6, Blk.ptr, List.length_map, List.cons_append, List.nil_append, go_sem]
 skip
 refine ⟨_, .same _, ?_⟩
 (try simp only [B9, B0, Bz, Bx, Bw, Bv, Bu, Bt]); simp (disch := omega) only [go_sem]
 exact ⟨900, rfl, rfl⟩
theorem Qv {S : St} {fl : Vc} {L : List Evt}  {g : Nat} {h d} (hg : h g = some (.var (Mw S fl L))) : FunOk Tryz.prog 16 [.p g 0] h d (.vec 8 (vE fl)) [] := by
 refine FunOk.quiet (g := g) (blk := .var (Mw S fl L)) ?_ hg (by simp [A3, tn]);refine FunOk.io (fun h d hg => ?_) rfl rfl rfl rfl hg;refine Gg (g := 900) Af fn16 (by simp) (by simp [A3, tn]) (by simp [A3, tn]) hg rfl (by simp [Blk.ptr, SV.kill]) rfl (fun _ => rfl) fun F => ?_;simp (disch := omega) only [ir16, Mw, Aav, Ba, A6, Blk.ptr, List.length_map, List.cons_append, List.nil_append, go_sem]
 skip
 refine ⟨_, .same _, ?_⟩
 (try simp only [B9, B0, Bz, Bx, Bw, Bv, Bu, Bt]); simp (disch := omega) only [go_sem]
 exact ⟨900, rfl, rfl⟩
theorem Wo {S : St} {fl : Vc} {L : List Evt}  {g : Nat} {h d} (hg : h g = some (.var (Mw S fl L))) : FunOk Tryz.prog 17 [.p g 0] h d (.pv (.i .i64 L.length)) [] := by
 refine FunOk.quiet (g := g) (blk := .var (Mw S fl L)) ?_ hg (by simp [A3, tn]);refine FunOk.io (fun h d hg => ?_) rfl rfl rfl rfl hg;refine Gg (g := 900) Af fn17 (by simp) (by simp [A3, tn]) (by simp [A3, tn]) hg rfl (by simp [Blk.ptr, SV.kill]) rfl (fun _ => rfl) fun F => ?_;simp (disch := omega) only [ir17, Mw, Aav, Ba, A6, Blk.ptr, List.length_map, List.cons_append, List.nil_append, go_sem]
 skip
 refine ⟨_, .same _, ?_⟩
 (try simp only [B9, B0, Bz, Bx, Bw, Bv, Bu, Bt]); simp (disch := omega) only [go_sem]
 exact ⟨900, rfl, rfl⟩
theorem Aps {S : St} {fl : Vc} {L : List Evt} (hS : Fine S) {g : Nat} {h d} (hg : h g = some (.var (Mw S fl L))) : FunOk Tryz.prog 21 [.p g 0] h d (.agg (Ba S)) [] := by
 refine FunOk.quiet (g := g) (blk := .var (Mw S fl L)) ?_ hg (by simp [A3, tn]);refine FunOk.io (fun h d hg => ?_) rfl rfl rfl rfl hg;refine Gg (g := 900) Af fn21 (by simp) (by simp [A3, tn]) (by simp [A3, tn]) hg rfl (by simp [Blk.ptr, SV.kill]) rfl (fun _ => rfl) fun F => ?_;simp (disch := omega) only [ir21, Mw, Aav, Ba, A6, Blk.ptr, List.cons_append, List.nil_append, go_sem];refine Aa (Y3 (s := S) hS) ?_;simp (disch := omega) only [Ba, A6, go_sem];refine ⟨_, .same _, ?_⟩
 (try simp only [B9, B0, Bz, Bx, Bw, Bv, Bu, Bt]); simp (disch := omega) only [go_sem]
 exact ⟨900, rfl, rfl⟩
def Azg (m : Nat) (v : Vc) (L : List Evt) : SV := .fn (.func m) [.pi 1 [[.sl true 21 (L.map Be)]] 0 0, .pi 8 [vE v] 0 0]
theorem Adn {S : St} {fl : Vc} {L : List Evt} (v : Vc) (hv : J1 fl v) {g : Nat} {h d} (hg : h g = some (.var (Mw S fl L))) : FunOk Tryz.prog 28 [.p g 0, .vec 8 (vE v)] h d (.tup [Azg 70 v L, .pv (.i .i64 0)]) [] := by
 refine FunOk.quiet (g := g) (blk := .var (Mw S fl L)) ?_ hg (by simp [A3, tn]);refine FunOk.io (fun h d hg => ?_) rfl rfl rfl rfl hg;refine Gg (g := 900) Af fn28 (by simp) (by simp [A3, tn]) (by simp [A3, tn]) hg rfl (by simp [Blk.ptr, SV.kill]) rfl (fun _ => rfl) fun F => ?_;have hv' := decide_eq_true hv;simp (disch := omega) only [ir28, Mw, Aav, Ba, A6, Blk.ptr, List.cons_append, List.nil_append, go_sem];refine Aa (Adq _ _) ?_;simp (disch := omega) only [hv', go_sem];refine Aa (Adv (.inr rfl)) ?_;simp (disch := omega) only [Azg, go_sem];refine ⟨_, Ah7 6 (x := .pv (.sl true 21 (L.map Be))) (cs := [.sl true 21 (L.map Be)]) rfl rfl (Ah7 3 (x := .vec 8 (vE v)) (cs := vE v) rfl rfl (.same _)), ?_⟩
 (try simp only [B9, B0, Bz, Bx, Bw, Bv, Bu, Bt]); simp (disch := omega) only [go_sem]
 exact ⟨900, rfl, rfl⟩
theorem Aa4 {S : St} {fl : Vc} {L : List Evt} (v : Vc) (hv : ¬ J1 fl v) {g : Nat} {h d} (hg : h g = some (.var (Mw S fl L))) : FunOk Tryz.prog 28 [.p g 0, .vec 8 (vE v)] h d (.tup [.pv (.v .nilFunc), .pv (.i .i64 11)]) [] := by
 refine FunOk.quiet (g := g) (blk := .var (Mw S fl L)) ?_ hg (by simp [A3, tn]);refine FunOk.io (fun h d hg => ?_) rfl rfl rfl rfl hg;refine Gg (g := 900) Af fn28 (by simp) (by simp [A3, tn]) (by simp [A3, tn]) hg rfl (by simp [Blk.ptr, SV.kill]) rfl (fun _ => rfl) fun F => ?_;have hv' := decide_eq_false hv;simp (disch := omega) only [ir28, Mw, Aav, Ba, A6, Blk.ptr, List.cons_append, List.nil_append, go_sem];refine Aa (Adq _ _) ?_;simp (disch := omega) only [hv', go_sem];refine ⟨_, .same _, ?_⟩
 (try simp only [B9, B0, Bz, Bx, Bw, Bv, Bu, Bt]); simp (disch := omega) only [go_sem]
 exact ⟨900, rfl, rfl⟩
noncomputable def Ua (S : St) (e : Evt) : St := if Ff S e = 0 then Hp S e else S
open Classical in
noncomputable def X6 (S : St) (L : List Evt) (e : Evt) : List Evt := if Ff S e = 0 then L ++ [Hn e] else L
set_option maxHeartbeats 2000000 in
theorem Aqj {S : St} {fl : Vc} {L : List Evt} {e : Evt} (hs : StIn S) (he : ev e) (hn : L.length ≤ 1000) {g : Nat} {h d} (hg : h g = some (.var (Mw S fl L))) : FunOk Tryz.prog 29 [.p g 0, .vec 21 (Be e)] h d (.pv (.i .i64 (Ff S e))) [.upd g (.var (Mw (Ua S e) fl (X6 S L e)))] := by
 refine FunOk.io (fun h d hg => ?_) rfl rfl rfl rfl hg;refine Gg (g := 900) Af fn29 (by simp) (by simp [A3, tn]) (by simp [A3, tn]) hg rfl (by simp [Blk.ptr, SV.kill]) rfl (fun _ => rfl) fun F => ?_;have hel := Ac e;have hel2 := Ac (Hn e);simp (disch := omega) only [ir29, Mw, Aav, Ba, A6, Blk.ptr, List.cons_append, List.nil_append, Bj, hel, go_sem];refine Aa (Awe (s := S) hs he) ?_;by_cases hw : Ff S e = 0
 · have e1 : Akq S e = Ua S e := by unfold Akq Ua; rw [if_pos hw, if_pos hw]
   have e2 : X6 S L e = L ++ [Hn e] := if_pos hw;rw [e1, hw];simp (disch := omega) only [Ba, A6, go_sem];refine Aa (Adv (.inr rfl)) ?_;simp (disch := omega) only [Bj, hel, go_sem];refine Aa (Sp e he) ?_;simp (disch := omega) only [hel2, go_sem];refine ⟨fun q => (by cases q), _, Ed 34 rfl (.same _), ?_⟩
   (try simp only [B9, B0, Bz, Bx, Bw, Bv, Bu, Bt]); simp (maxSteps := 10000000) (disch := omega) only [e2, List.map_append, List.map_cons, List.map_nil, go_sem]
   exact ⟨900, rfl, rfl⟩
 · have e1 : Ua S e = S := if_neg hw;have e2 : X6 S L e = L := if_neg hw;rw [e1, e2];simp (disch := omega) only [Ba, A6, hw, go_sem];refine ⟨_, .same _, ?_⟩
   (try simp only [B9, B0, Bz, Bx, Bw, Bv, Bu, Bt]); simp (disch := omega) only [go_sem]
   exact ⟨900, rfl, rfl⟩
def Pd : Evt := ⟨1, 1, fun _ => 0, 1, 0, 0, 0, 0, [97], .nil, .nil, 0, [], 0⟩
theorem Bbf : Bm Pd = true := by
 have h1 : Iv Pd := ⟨by decide, by decide, by decide, by decide, rfl, by decide, by decide⟩
 have h2 : O7 Pd := fun i _ => by simp [Pd]
 rw [Gr h1 h2, Aun rfl, Abl rfl];decide
theorem A8k : ev Pd := ⟨.inl rfl, .inl rfl, by decide, by decide, by decide⟩
theorem Az0 : Acc (Am []) Pd := ⟨Bbf, rfl, fun i _ => Nat.le_refl _, rfl, rfl⟩
theorem An2 : Ff (Am []) Pd = 0 := Ow.2 Az0
theorem A8w : Am [Pd] = Hp (Am []) Pd := Xv (l := []) Val.nil Az0
theorem A9v : Ua (Am []) Pd = Am [Pd] := by unfold Ua; rw [if_pos An2, A8w]
theorem A4v : X6 (Am []) [] Pd = [Hn Pd] := by unfold X6; rw [if_pos An2]; rfl
theorem A3f : Fine (Am []) := (Pl Val.nil (by simp)).fine
theorem A20 : Imp (.vec 8 [.i .u32 0, .i .u32 0, .i .u32 0, .i .u32 0, .i .u32 0, .i .u32 0, .i .u32 0, .i .u32 0]) (.vec 8 (vE fun _ => 0)) := Imp.refl _
theorem Bau (n : Nat) (S : St) (fl : Vc) (L : List Evt) : SV.kill n (Mw S fl L) = Mw S fl L := rfl
theorem A98 (S : St) (fl : Vc) (L : List Evt) : SV.width (Mw S fl L) = 35 := rfl
theorem Ba7 (n : Nat) (p : PV) (S : St) (fl : Vc) (L : List Evt) : SV.frz n p (Mw S fl L) = Mw S fl L := rfl
attribute [go_sem] Bau A98 Ba7
theorem Ate (e : Evt) : Hn (Hn e) = Hn e := rfl
theorem A2o : (Am []).known = fun _ => 0 := rfl
theorem Arf (es : List (List PV)) (f : Bool) (z : Nat) (K : KK) : LoadK (some [.sl f z es]) 0 1 false K = K (.pv (.sl f z es)) [] := by
 simp only [LoadK, H2, eq_iff_iff];exact ⟨fun h => h.2.2, fun h => ⟨by simp, .inr trivial, h⟩⟩
theorem A5z (p : Nat) (hp : p < 1000) : ∀ q ∈ [p], q < Ie := by
 intro q hq;have : Ie = 1000000 := rfl;simp at hq; omega
noncomputable def Aoj (l0 j : Nat) : FS := mk [(8, .pv (.i .i64 j)), (7, .pv (.i .i64 1)), (6, .pv (.sl true 21 [Be (Hn Pd)])), (0, .fn (.yield l0) []), (2, .pi 8 [vE fun _ => 0] 0 0), (1000000, .pv (.i .i64 0)), (1000001, .p 0 0), (1000002, .p 7 0), (1000005, .p 4 0)] [(0, some (.var (.pv (.b false)))), (4, some (.var (.pv (.i .i64 j)))), (7, some (.var (Mw (Am [Pd]) (fun _ => 0) [Hn Pd])))]
set_option maxHeartbeats 4000000 in
theorem Oc {h d} : FunOk Tryz.prog 9 [] h d (.pv (.b true)) [] := by
 refine Aq Af fn9 (by simp) rfl rfl fun F => ?_;simp (disch := omega) only [ir9, go_sem];refine Aa (FunOk.imp (Adl (S := Am []) A3f) ⟨Ac5, trivial⟩ (by simp [A3, tn, An9])) ?_;simp (disch := omega) only [A2o, go_sem];refine Aa (FunOk.imp (Aqj (S := Am []) (L := []) (e := Pd) (Pl Val.nil (by simp)) A8k (by simp) rfl) ⟨Imp.refl _, Hh (cs := Be Pd) rfl (Ac _), trivial⟩ (by simp [A3, tn])) ?_;rw [An2, A9v, A4v];simp (disch := omega) only [go_sem];refine Aa (FunOk.imp (Adn (S := Am [Pd]) (L := [Hn Pd]) (fun _ => 0) (fun i _ => Nat.le_refl _) rfl) ⟨Imp.refl _, A20, trivial⟩ (by simp [A3, tn])) ?_;simp (disch := omega) only [Azg, go_sem];refine Apc Af fn70 (by simp) fun l0 XI hc => ?_;rw [Aeu _ _ _ (by show 3 ≤ 1000000; omega)];simp (disch := omega) only [ir70, List.map_cons, List.map_nil, List.getElem?_cons_zero, Arf, List.length_cons, List.length_nil, go_sem];refine A1 Af (Aoj l0) (fun k => k ≤ 1) (fun k => 1 - k) 0 (by simp) (Ak ?_ ?_) fun k hk => ?_
 · simp (disch := omega) only [go_sem]
 · simp (disch := omega) only [go_sem]
 by_cases hlt : k < 1
 · obtain rfl : k = 0 := by omega
   have hel := Ac (Hn Pd);have hnm : (Hn Pd).name = [97] := rfl;have hh : Bg (fun _ => 0) (Hn Pd).rep (Hn Pd).seq = false := rfl;simp (disch := omega) only [Aoj, List.getElem?_cons_zero, List.length_cons, List.length_nil, Bj, hel, Ds, Aw, go_sem];refine Aa (Gy _ _ _) ?_;simp (disch := omega) only [hh, Bj, hel, go_sem];refine Aa (Sp (Hn Pd) (Ayt A8k)) ?_;rw [Ate];simp (disch := omega) only [go_sem];refine Anz Af hc ?_ rfl fun XA XB => ?_
   · simp (disch := omega) only [go_sem]
   rw [Ac9 _ _ _ _ (A5z 30 (by decide))];simp (disch := omega) only [Bj, hel, Dn, hnm, go_sem];refine Ad (x := (0 : Nat)) (1 : Nat) _ _ rfl (by omega) (by omega) ?_ ?_
   · simp (disch := omega) only [go_sem]
   · simp (disch := omega) only [go_sem]
 · obtain rfl : k = 1 := by omega
   simp (disch := omega) only [Aoj, List.length_cons, List.length_nil, go_sem];refine Aa (Wo (S := Am [Pd]) (L := [Hn Pd]) rfl) ?_;simp (disch := omega) only [List.length_cons, List.length_nil, go_sem];refine Aa (M9 (S := Am [Pd]) (L := [Hn Pd]) rfl) ?_;have hv1 : vE (Am [Pd]).known = [.i .u32 1, .i .u32 0, .i .u32 0, .i .u32 0, .i .u32 0, .i .u32 0, .i .u32 0, .i .u32 0] := by rw [C4]; rfl
   have hpq : Qq (vE (Am [Pd]).known) [.i .u32 1, .i .u32 0, .i .u32 0, .i .u32 0, .i .u32 0, .i .u32 0, .i .u32 0, .i .u32 0] = true := by rw [hv1]; exact Dr _
   have hfi := Jv (Am [Pd]).known;have hf2 : Ec [K1.int .u32, .int .u32, .int .u32, .int .u32, .int .u32, .int .u32, .int .u32, .int .u32] [.i .u32 1, .i .u32 0, .i .u32 0, .i .u32 0, .i .u32 0, .i .u32 0, .i .u32 0, .i .u32 0] = True := eq_true rfl;simp (disch := omega) only [hpq, hfi, hf2, go_sem]
end Go.Proofs.YthmjebkldgdeiaaGreat.Fw
namespace Go.Proofs.YthmjebkldgdeiaaGreat.Fw
open Go.RowKit Go.Proofs
def Afk (l : List Evt) : Prop := l.length ≤ 25 ∧ ∀ e ∈ l, Azl e
open Classical in
noncomputable def Zn (l : List Evt) : Bool := decide (Afk l)
theorem Aby {l : List Evt} (h : Afk l) : Zn l = true := by simp [Zn, h]
theorem U8 {l : List Evt} (h : ¬ Afk l) : Zn l = false := by simp [Zn, h]
def Po (f : Bool) (l : List Evt) (k : Nat) : FS := mk [(10, .pv (.i .i64 k)), (9, .pv (.i .i64 l.length)), (8, .pv (.sl f 21 (l.map Be)))] []
set_option maxHeartbeats 2000000 in
theorem Adu {x : SV} {f : Bool} {l : List Evt} {h d} (hx : Cm h [x] = [.pv (.sl f 21 (l.map Be))]) (hl : Bc [x] = true) :
 FunOk Tryz.prog 10 [x] h d (.pv (.b (Zn l))) [] := by
 refine Ci Af fn10 (by simp) hl rfl fun F => ?_;rw [hx];by_cases h30 : 25 < (l.length : Int)
 · have hf := U8 (l := l) fun h => by have := h.1; omega
   simp (disch := omega) only [ir10, List.length_map, hf, go_sem]
 simp (disch := omega) only [ir10, List.length_map, go_sem];refine A1 Af (Po f l) (fun k => k ≤ l.length ∧ ∀ j e, j < k → l[j]? = some e → Azl e) (fun k => l.length - k) 0 ⟨by simp, fun j e hj => absurd hj (Nat.not_lt_zero j)⟩ (Ak ?_ ?_) fun k hk => ?_
 · simp (disch := omega) only [List.length_map, go_sem]
 · simp (disch := omega) only [go_sem]
 obtain ⟨hk1, hk2⟩ := hk;by_cases hlt : k < l.length
 · have hx' : l[k]? = some l[k] := List.getElem?_eq_getElem hlt;have he : (l.map Be)[k]? = some (Be l[k]) := by rw [List.getElem?_map, hx']; rfl
   have hm := List.getElem_mem hlt;generalize l[k] = e at *;have hel := Ac e;have hg : e.gone.pv = .sl e.gone.f e.gone.z (e.gone.l.map Eb) := rfl;have hb : e.base.pv = .sl e.base.f e.base.z (e.base.l.map Eb) := rfl;have hno : ¬ Azl e → Zn l = false := fun q => U8 fun h => q (h.2 e hm);by_cases c1 : 30 < (e.name.length : Int)
   · have hf := hno fun q => by have := q.1; omega
     simp (disch := omega) only [Po, List.length_map, he, Bj, hel, Dn, c1, hf, go_sem]
   by_cases c2 : 250 < (e.data.length : Int)
   · have hf := hno fun q => by have := q.2.1; omega
     simp (disch := omega) only [Po, List.length_map, he, Bj, hel, Dn, c1, Hf, c2, hf, go_sem]
   by_cases c3 : 10 < (e.gone.l.length : Int)
   · have hf := hno fun q => by have := q.2.2.1; omega
     simp (disch := omega) only [Po, List.length_map, he, Bj, hel, Dn, c1, Hf, c2, Ge, hg, c3, hf, go_sem]
   by_cases c4 : 10 < (e.base.l.length : Int)
   · have hf := hno fun q => by have := q.2.2.2; omega
     simp (disch := omega) only [Po, List.length_map, he, Bj, hel, Dn, c1, Hf, c2, Ge, hg, c3, Fl, hb, c4, hf, go_sem]
   simp (disch := omega) only [Po, List.length_map, he, Bj, hel, Dn, c1, Hf, c2, Ge, hg, c3, Fl, hb, c4, go_sem];refine Ad (k + 1) _ _ rfl ⟨by omega, fun j x hj hjx => ?_⟩ (by omega) ?_ ?_
   · by_cases ej : j = k
     · subst ej; rw [hx'] at hjx; cases hjx; exact ⟨by omega, by omega, by omega, by omega⟩
     · exact hk2 j x (by omega) hjx
   · simp (disch := omega) only [go_sem]
   · simp (disch := omega) only [go_sem]
 · obtain rfl : k = l.length := by omega
   have hf := Aby (l := l) ⟨by omega, fun e he => by
    obtain ⟨j, hj⟩ := List.mem_iff_getElem?.1 he;exact hk2 j e (List.getElem?_eq_some_iff.1 hj).1 hj⟩
   simp (disch := omega) only [Po, hf, go_sem]
theorem Au0 {T : List Evt} {e : Evt} (h : Val T) (he : ev e) : Val (Jz T e) ∧ (Jz T e).length ≤ T.length + 1 := by
 unfold Jz;split
 · rename_i hw; exact ⟨Val.snoc h he hw, by simp⟩
 · exact ⟨h, by omega⟩
end Go.Proofs.YthmjebkldgdeiaaGreat.Fw
namespace Go.Proofs.YthmjebkldgdeiaaGreat.Fw
open Go.RowKit
variable {P : Program} {F : Fr} {N : Nat} {ρ ρ' : Nat → Value} {s : FS} {a : Act} {w w' : World} {V V' : View}
theorem Asd (hm : P.follows .mixedOrders = true) {f N' : Nat} {rs : List Rv} {c : C} (hf : A5 P f = some (N', rs, c)) {args : List SV} {h : Nat → Option Blk} {d : Nat} {x : SV} (hlen : args.length ≤ N')
 (hx : x.closed = true) (hts : Bq args = A3 args)
 (hrun : ∀ F, sx (U9 P F N') c (Ah4 rs fun y _ => y = x) (mk (C6 0 args) (F5 h (Bq args)))) :
 FunOk P f args h d x ((Bq args).map .del ++ [.new d (.row 1 [])]) := by
 refine ⟨Cn hf, fun F N ρ s a w hR hh vs hc => ?_⟩;rw [hts];rw [hts] at hrun;generalize htt : A3 args = ts at *
 let F' : Fr := ⟨w, O1 ρ s.h ts, F.out ρ (Bf s ts).h, fun _ => undef, []⟩
 have hvl : vs.length = args.length := by
  clear hrun hlen hts hh htt
  induction args generalizing vs with
  | nil => simp only [ConcL] at hc; subst hc; rfl
  | cons x l ih =>
    simp only [ConcL] at hc;obtain ⟨v, us, rfl, _, h⟩ := hc;simp [ih _ h]
 have hlk : ∀ n, (mk (C6 0 args) (F5 h ts)).h n = if n ∈ ts then s.h n else none := fun n => by
  simp only [mk, W4];split
  · rename_i hn; rw [hh n hn]
  · rfl
 have how : ∀ b, Cl ρ (mk (C6 0 args) (F5 h ts)).h b ↔ O1 ρ s.h ts b := fun b => by
  constructor
  · rintro ⟨n, x, h1, h2⟩;rw [hlk] at h1; split at h1
    · rename_i hn; exact ⟨n, hn, x, h1, h2⟩
    · cases h1
  · rintro ⟨n, hn, x, h1, h2⟩;exact ⟨n, x, by rw [hlk, if_pos hn]; exact h1, h2⟩
 have hoth : ∀ b, Cl ρ (Bf s ts).h b ↔ ∃ n, n ∉ ts ∧ ∃ x, s.h n = some x ∧ Cq (ρ n) = some b := fun b => by
  constructor
  · rintro ⟨n, x, h1, h2⟩;simp only [Bf] at h1; split at h1
    · cases h1
    · rename_i hn; exact ⟨n, hn, x, h1, h2⟩
  · rintro ⟨n, hn, x, h1, h2⟩;exact ⟨n, x, by simp only [Bf, if_neg hn]; exact h1, h2⟩
 have hview : Ay w (F'.out ρ (mk (C6 0 args) (F5 h ts)).h) = vw F w ρ s := by
  show Ay w _ = Ay w _;congr 1;funext b;refine propext ⟨fun hb => ?_, fun hb => ?_⟩
  · rcases hb with hb | hb
    · obtain ⟨n, _, x, h1, h2⟩ := (how b).1 hb; exact .inl ⟨n, x, h1, h2⟩
    · rcases hb with hb | hb
      · obtain ⟨n, _, x, h1, h2⟩ := (hoth b).1 hb; exact .inl ⟨n, x, h1, h2⟩
      · exact .inr hb
  · rcases hb with ⟨n, x, h1, h2⟩ | hb
    · by_cases hn : n ∈ ts
      · exact .inl ((how b).2 ⟨n, hn, x, h1, h2⟩)
      · exact .inr (.inl ((hoth b).2 ⟨n, hn, x, h1, h2⟩))
    · exact .inr (.inr hb)
 have hR0 : RelR F' N' ρ (mk (C6 0 args) (F5 h ts)) { tmps := (⟨vs⟩ : Array Value) ++ Array.replicate (N' - (⟨vs⟩ : Array Value).size) undef, defers := [] } w := by
  refine ⟨⟨rfl, rfl, rfl, Nat.le_refl _, fun _ _ _ => rfl, fun b hb => ⟨?_, fun hmi => ?_⟩⟩, fun b hb => .inr ((how b).1 hb), fun n x hx => ?_, fun n m x y b hx hy hbx hby => ?_, fun n => ?_, by simp; omega, rfl⟩
  · rcases hb with hb | hb
    · obtain ⟨n, _, x, h1, h2⟩ := (hoth b).1 hb; exact (hR.own n x h1).lt h2
    · exact Nat.lt_of_lt_of_le (hR.fr.hid b hb).1 hR.fr.size
  · obtain ⟨n, hn, x, h1, h2⟩ := hmi;rcases hb with hb | hb
    · obtain ⟨m, hm, y, g1, g2⟩ := (hoth b).1 hb;exact hm (by rw [hR.inj m n y x b g1 h1 g2 h2]; exact hn)
    · exact hR.shown ⟨n, x, h1, h2⟩ hb
  · rw [hview];rw [hlk] at hx; split at hx
    · exact hR.own n x hx
    · cases hx
  · rw [hlk] at hx hy;split at hx
    · split at hy
      · exact hR.inj n m x y b hx hy hbx hby
      · cases hy
    · cases hx
  · rw [hview];have := G9 0 n hc;simp only [Nat.zero_le, if_true, Nat.sub_zero] at this;simp only [mk];have he : ((⟨vs⟩ : Array Value) ++ Array.replicate (N' - (⟨vs⟩ : Array Value).size) undef).getD n undef = (vs[n]?).getD undef := by
     rw [Array.getD_eq_getD_getElem?];by_cases hn : n < vs.length
     · rw [Array.getElem?_append_left (by simpa using hn)]; simp
     · rw [Array.getElem?_append_right (by simpa using hn)];rw [List.getElem?_eq_none (by omega)];simp only [Array.getElem?_replicate, Option.getD_none];split <;> rfl
    have hN := Oo hf;unfold Fr.val;by_cases hb : n < Ie
    · rw [if_pos hb, he]; exact this
    · rw [if_neg hb];rw [List.getElem?_eq_none (by omega)] at this; exact this
 refine Calls.mono (Jx hm hf rfl hR0.fr (fun b ⟨n, hn, x, h1, h2⟩ => (hR.own n x h1).lt h2) hR0 We (hrun F')) fun e w' he => ?_;obtain ⟨v, ρ', s', a', y, rfl, hR', hy, rfl⟩ := he;have hres := hR.swapin (w' := w') ts d (.row 1 []) (.slice none 0 0) hR'.fr.os hR'.fr.tape hR'.fr.output hR'.fr.size hR'.fr.block (fun b hb => by simp [Cq] at hb)
  ⟨none, 0, by rw [A0]; rfl, Nat.le_refl _, Nat.one_pos, by simp, fun h => absurd rfl h⟩
 have e1 : s.hup (List.map HU.del ts ++ [HU.new d (Blk.row 1 [])]) = ((Bf s ts).kill d).seth d (some (.row 1 [])) := by rw [Xa]; rfl
 refine ⟨v, Fw.upd ρ d (.slice none 0 0), rfl, by rw [e1]; exact hres.1, ?_⟩;refine Cb (Bl fun b' c' hno hc' => ⟨fun hb' => hno ?_, hc'⟩) hx hy;rcases hb' with ⟨m, z, hm1, hm2⟩ | hb'
 · simp only [e1, Bf, FS.seth, FS.kill] at hm1;by_cases hmd : m = d
   · subst hmd;rw [A0] at hm2;simp [Cq] at hm2
   · rw [Bs hmd] at hm2;simp only [hmd, if_false] at hm1;by_cases hmt : m ∈ ts
     · simp [hmt] at hm1
     · simp only [hmt, if_false] at hm1;obtain ⟨z', hz', _⟩ := Option.map_eq_some_iff.1 hm1;exact .inr (.inl ((hoth b').2 ⟨m, hmt, z', hz', hm2⟩))
 · exact .inr (.inr hb')
end Go.Proofs.YthmjebkldgdeiaaGreat.Fw
namespace Go.Proofs.YthmjebkldgdeiaaGreat.Fw
open Go.RowKit Go.Proofs
theorem Akf (u v : Evt) : splice (Be u) 0 (Be v) = Be v := by simp [splice, Ac]
theorem Av7 (v : Evt) (b : Vc) {x : SV} {h d} (hx : Cm h [.vec 21 (Be v), x] = [.vec 21 (Be v), .pi 8 [vE b] 0 0]) (hl : Bc [.vec 21 (Be v), x] = true) : FunOk Tryz.prog 68 [.vec 21 (Be v), x] h d (.pv (.b (Bg b v.rep v.seq))) [] := by
 refine Ci Af fn68 (by simp) hl rfl fun F => ?_;rw [hx];have hv := Ac v;have e0 : [vE b][0]? = some (vE b) := rfl;simp (disch := omega) only [ir68, Aw, Ds, e0, go_sem];refine Aa (Gy _ _ _) ?_;simp (disch := omega) only [go_sem]
def Abs (P : Evt → Bool) (l : List Evt) : Int := if l.findIdx P < l.length then (l.findIdx P : Int) else -1
theorem Axk {P : Evt → Bool} {l : List Evt} {k : Nat} (hk : k < l.length) (h1 : P l[k] = true) (h2 : ∀ j, (hj : j < k) → P (l[j]'(by omega)) = false) : Abs P l = k := by
 have e : l.findIdx P = k := (List.findIdx_eq hk).2 ⟨h1, fun j hj => h2 j hj⟩;unfold Abs; rw [e, if_pos hk]
theorem Axj {P : Evt → Bool} {l : List Evt} (h2 : ∀ j, (hj : j < l.length) → P l[j] = false) : Abs P l = -1 := by
 have e : l.findIdx P = l.length := List.findIdx_eq_length.2 fun x hx => by
  obtain ⟨j, hj, rfl⟩ := List.getElem_of_mem hx;exact h2 j hj
 unfold Abs; rw [e, if_neg (Nat.lt_irrefl _)]
def Az1 (m : Nat) (b : Vc) (P : Evt → Bool) : Prop := ∀ (v : Evt) (x : SV) h d, Cm h [.vec 21 (Be v), x] = [.vec 21 (Be v), .pi 8 [vE b] 0 0] → Bc [.vec 21 (Be v), x] = true → FunOk Tryz.prog m [.vec 21 (Be v), x] h d (.pv (.b (P v))) []
def Afw (f : Bool) (l : List Evt) (m : Nat) (b : Vc) (k : Nat) : FS := mk [(8, .pv (.i .i64 k)), (7, .pv (.i .i64 l.length)), (0, .pv (.sl f 21 (l.map Be))), (1, .fn (.func m) [.pi 8 [vE b] 0 0])] []
theorem Ap2 {x y : SV} {f : Bool} {l : List Evt} {m : Nat} {b : Vc} {P : Evt → Bool} {h d} (hP : Az1 m b P) (hx : Cm h [x, y] = [.pv (.sl f 21 (l.map Be)), .fn (.func m) [.pi 8 [vE b] 0 0]]) (hl : Bc [x, y] = true) (hn : l.length ≤ 1000) :
 FunOk Tryz.prog 97 [x, y] h d (.pv (.i .i64 (Abs P l))) [] := by
 refine Ci Af fn97 (by simp) hl rfl fun F => ?_;rw [hx];simp (disch := omega) only [ir97, List.length_map, go_sem];refine A1 Af (Afw f l m b) (fun k => k ≤ l.length ∧ ∀ j, (hj : j < l.length) → j < k → P l[j] = false) (fun k => l.length - k) 0 (by simp) (Ak ?_ ?_) fun k hk => ?_
 · simp (disch := omega) only [go_sem]
 · simp (disch := omega) only [go_sem]
 obtain ⟨hk1, hk2⟩ := hk;by_cases hlt : k < l.length
 · have he : (l.map Be)[k]? = some (Be l[k]) := by simp [hlt]
   have hv := Ac l[k];simp (disch := omega) only [Afw, List.length_map, he, Bj, go_sem];refine Aa (hP _ _ _ _ rfl rfl) ?_;by_cases hp : P l[k] = true
   · have e := Axk hlt hp fun j hj => hk2 j (by omega) hj;simp (disch := omega) only [hp, e, go_sem]
   · have hp' : P l[k] = false := by simpa using hp
     simp (disch := omega) only [hp', go_sem];refine Ad (k + 1) _ _ rfl ⟨by omega, fun j hj hjk => ?_⟩ (by omega) ?_ ?_
     · by_cases e : j = k
       · subst e; exact hp'
       · exact hk2 j hj (by omega)
     · simp (disch := omega) only [go_sem]
     · simp (disch := omega) only [go_sem]
 · obtain rfl : k = l.length := by omega
   have e := Axj (P := P) (l := l) fun j hj => hk2 j hj hj;simp (disch := omega) only [Afw, e, go_sem]
def Dt (P : Evt → Bool) (l : List Evt) : List Evt := l.filter fun v => !P v
theorem L6 {P : Evt → Bool} {l : List Evt} {k : Nat} {v : Evt} (hv : l[k]? = some v) : Dt P (l.take (k + 1)) = Dt P (l.take k) ++ if P v = true then [] else [v] := by
 unfold Dt;rw [List.take_add_one, hv, List.filter_append];congr 1;cases hp : P v <;> simp [hp]
theorem Zd (P : Evt → Bool) (l : List Evt) (k : Nat) : (Dt P (l.take k)).length ≤ k := Nat.le_trans (List.length_filter_le _ _) (by simp; omega)
def Afz (l : List Evt) (m : Nat) (b : Vc) (P : Evt → Bool) (p : Nat × List Evt) : FS := mk [(6, .pv (.i .i64 p.1)), (5, .pv (.i .i64 ((Dt P (l.take p.1)).length : Int))), (0, .os 34), (1, .fn (.func m) [.p 3 0])] [(34, some (.row 21 (p.2.map Be))), (3, some (.var (.vec 8 (vE b))))]
theorem Ak4 {l : List Evt} {m : Nat} {b : Vc} {P : Evt → Bool} (hP : Az1 m b P) (hn : l.length ≤ 1000) {h d} (h6 : h 34 = some (.row 21 (l.map Be))) (h3 : h 3 = some (.var (.vec 8 (vE b)))) :
 FunOk Tryz.prog 66 [.os 34, .fn (.func m) [.p 3 0]] h d (.pv (.sl false 21 ((Dt P l).map Be))) [.del 34, .del 3, .new d (.row 1 [])] := by
 refine Asd Af fn66 (by simp) rfl rfl fun F => ?_;simp (disch := omega) only [ir66, h6, h3, List.length_map, go_sem];refine Aa (Ap2 (l := l) hP rfl rfl hn) ?_;by_cases hi : l.findIdx P < l.length
 · have ei : Abs P l = (l.findIdx P : Int) := by unfold Abs; rw [if_pos hi]
   have en : ¬ (l.findIdx P : Int) = -1 := by omega
   have hk0 : Dt P (l.take (l.findIdx P)) = l.take (l.findIdx P) := by
    unfold Dt;rw [List.filter_eq_self];intro v hv;obtain ⟨j, hj, rfl⟩ := List.getElem_of_mem hv;rw [List.getElem_take];have hj' : j < l.findIdx P := by simp at hj; omega
    have := List.not_of_lt_findIdx hj';simpa using this
   have hp0 : P l[l.findIdx P] = true := List.findIdx_getElem;have hk1 : Dt P (l.take (l.findIdx P + 1)) = l.take (l.findIdx P) := by
    rw [L6 (List.getElem?_eq_getElem hi), if_pos hp0, List.append_nil, hk0]
   have hl1 : (Dt P (l.take (l.findIdx P + 1))).length = l.findIdx P := by rw [hk1]; simp; omega
   generalize l.findIdx P = i0 at *;simp (disch := omega) only [ei, en, List.length_map, go_sem];refine A1 Af (Afz l m b P) (fun p => p.1 ≤ l.length ∧ p.2.length = l.length ∧ (Dt P (l.take p.1)).length < p.1 ∧ p.2.take (Dt P (l.take p.1)).length = Dt P (l.take p.1) ∧ ∀ j, p.1 ≤ j → p.2[j]? = l[j]?) (fun p => l.length - p.1) (i0 + 1, l) ⟨by show i0 + 1 ≤ _; omega, rfl, by show _ < i0 + 1; rw [hl1]; omega, by show List.take _ l = _; rw [hl1, hk1], fun j _ => rfl⟩ (Ak ?_ ?_) fun p hp => ?_
   · (try simp only [B9, B0, Bz, Bx, Bw, Bv, Bu, Bt]); simp (disch := omega) only [hl1, go_sem]
   · (try simp only [B9, B0, Bz, Bx, Bw, Bv, Bu, Bt]); simp (disch := omega) only [go_sem]
   obtain ⟨k, M⟩ := p;obtain ⟨p1, p2, p3, p4, p5⟩ := hp;simp only at p1 p2 p3 p4 p5;by_cases hlt : k < l.length
   · have hx : l[k]? = some l[k] := List.getElem?_eq_getElem hlt;have hM : M[k]? = some l[k] := by rw [p5 k (Nat.le_refl k)]; exact hx
     have he : (M.map Be)[k]? = some (Be l[k]) := by rw [List.getElem?_map, hM]; rfl
     have hv := Ac l[k];have hs := L6 (P := P) hx;generalize l[k] = v at *;simp (disch := omega) only [Afz, List.length_map, p2, he, Bj, hv, go_sem];refine Aa (hP _ _ _ _ rfl rfl) ?_;by_cases hp : P v = true
     · rw [if_pos hp, List.append_nil] at hs;simp (disch := omega) only [hp, go_sem];refine Ad (x := (k, M)) (k + 1, M) _ _ rfl ⟨by show k + 1 ≤ _; omega, p2, by show List.length (Dt P (l.take (k + 1))) < k + 1; rw [hs]; omega, by show List.take (List.length (Dt P (l.take (k + 1)))) M = Dt P (l.take (k + 1)); rw [hs]; exact p4, fun j hj => p5 j (by simp only at hj; omega)⟩ (by show _ - (k + 1) < _; omega) ?_ ?_
       · (try simp only [B9, B0, Bz, Bx, Bw, Bv, Bu, Bt]); simp (disch := omega) only [hs, go_sem]
       · (try simp only [B9, B0, Bz, Bx, Bw, Bv, Bu, Bt]); simp (disch := omega) only [go_sem]
     · rw [if_neg hp] at hs;have hp' : P v = false := by simpa using hp
       generalize hK : Dt P (l.take k) = K at *;have hi : K.length < M.length := by omega
       have hgd : ∃ u, (M.map Be).getD K.length [] = Be u := ⟨M[K.length], by rw [List.getD_eq_getElem?_getD, List.getElem?_map, List.getElem?_eq_getElem hi]; rfl⟩
       obtain ⟨u, hgd⟩ := hgd;have hsp := Akf u v;simp (disch := omega) only [hp', List.length_map, p2, hgd, hsp, hv, Bj, go_sem];refine Ad (x := (k, M)) (k + 1, M.set K.length v) _ _ rfl ⟨by show k + 1 ≤ _; omega, by show (M.set _ _).length = _; rw [List.length_set]; exact p2, by show List.length (Dt P (l.take (k + 1))) < k + 1; rw [hs]; simp; omega, ?_, fun j hj => ?_⟩ (by show _ - (k + 1) < _; omega) ?_ ?_
       · show List.take (List.length (Dt P (l.take (k + 1)))) (M.set K.length v) = Dt P (l.take (k + 1));rw [hs, List.length_append, List.length_singleton, List.take_add_one, List.getElem?_set_self hi, List.take_set_of_le (Nat.le_refl _), p4]; rfl
       · show (M.set K.length v)[j]? = _;rw [List.getElem?_set_ne (by simp only at hj; omega)];exact p5 j (by simp only at hj; omega)
       · (try simp only [B9, B0, Bz, Bx, Bw, Bv, Bu, Bt]); simp (disch := omega) only [hs, List.length_append, List.length_singleton, go_sem]
       · (try simp only [B9, B0, Bz, Bx, Bw, Bv, Bu, Bt]); simp (disch := omega) only [List.map_set, go_sem]
   · obtain rfl : k = l.length := by omega
     rw [List.take_length] at p3 p4;have eL := List.take_length (l := l);have eK : ∀ z : List (List PV), ((M.map Be).take (Dt P l).length ++ z).take (Dt P l).length = (Dt P l).map Be := fun z => by
      rw [List.take_append_of_le_length (by simp; omega), List.take_take, Nat.min_self, ← List.map_take, p4]
     simp (disch := omega) only [Afz, eL, List.length_map, p2, List.append_assoc, eK, go_sem];refine ⟨by simp; omega, _, .same _, ?_⟩
     (try simp only [B9, B0, Bz, Bx, Bw, Bv, Bu, Bt]); simp (disch := omega) only [go_sem]
 · have hP0 : ∀ x ∈ l, P x = false := List.findIdx_eq_length.1 (Nat.le_antisymm List.findIdx_le_length (by omega));have ei : Abs P l = -1 := by unfold Abs; rw [if_neg hi]
   have eK : Dt P l = l := by
    unfold Dt; rw [List.filter_eq_self]; intro v hv; rw [hP0 v hv]; rfl
   simp (disch := omega) only [ei, eK, go_sem];refine ⟨_, Ed 34 rfl (.same _), ?_⟩
   (try simp only [B9, B0, Bz, Bx, Bw, Bv, Bu, Bt]); simp (disch := omega) only [go_sem]
theorem Agj {f : Bool} {z : Nat} {es : List (List PV)} {h d} (hz : es = [] ∨ z = 21) (hb : es.length ≤ 1000) : FunOk Tryz.prog 67 [.pv (.sl f z es)] h d (.os d) [.new d (.row 21 es)] := by
 refine Xf Af fn67 (by simp) rfl (.inl rfl) fun F => ?_;simp (disch := omega) only [ir67, go_sem];intro b hb';cases b
 · simp (disch := omega) only [go_sem]
 · have he : es = [] := by
    cases es with
    | nil => rfl
    | cons c l => exact absurd (hb' (by simp)) (by simp)
   subst he
   (try simp only [B9, B0, Bz, Bx, Bw, Bv, Bu, Bt]); simp (disch := omega) only [go_sem]
   decide
def Hv (S : St) (fl v : Vc) : Int := if ¬ J1 fl v then 11 else if ¬ J1 v S.known then 10 else 0
def Kz (S : St) (fl v : Vc) : Vc := if Hv S fl v = 0 then v else fl
def Ym (S : St) (fl v : Vc) (L : List Evt) : List Evt := if Hv S fl v = 0 then Dt (fun e => Bg v e.rep e.seq) L else L
set_option maxHeartbeats 2000000 in
theorem Av6 {S : St} {fl : Vc} {L : List Evt} (v : Vc) (hn : L.length ≤ 1000) {g : Nat} {h d} (hg : h g = some (.var (Mw S fl L))) : FunOk Tryz.prog 25 [.p g 0, .vec 8 (vE v)] h d (.pv (.i .i64 (Hv S fl v))) [.upd g (.var (Mw S (Kz S fl v) (Ym S fl v L)))] := by
 refine FunOk.io (fun h d hg => ?_) rfl rfl rfl rfl hg;refine Gg (g := 900) Af fn25 (by simp) (by simp [A3, tn]) (by simp [A3, tn]) hg rfl (by simp [Blk.ptr, SV.kill]) rfl (fun _ => rfl) fun F => ?_;simp (disch := omega) only [ir25, Mw, Aav, Ba, A6, Blk.ptr, List.cons_append, List.nil_append, go_sem];refine Aa (Adq _ _) ?_;by_cases h1 : J1 fl v;rotate_left
 · have w : Hv S fl v = 11 := if_pos h1;have e1 : Kz S fl v = fl := if_neg (by rw [w]; decide);have e2 : Ym S fl v L = L := if_neg (by rw [w]; decide);have h1' := decide_eq_false h1;rw [e1, e2, w];simp (disch := omega) only [h1', go_sem];refine ⟨_, .same _, ?_⟩
   (try simp only [B9, B0, Bz, Bx, Bw, Bv, Bu, Bt]); simp (disch := omega) only [go_sem]
   exact ⟨900, rfl, rfl⟩
 have h1' := decide_eq_true h1;simp (disch := omega) only [h1', go_sem];refine Aa (Adq _ _) ?_;by_cases h2 : J1 v S.known;rotate_left
 · have w : Hv S fl v = 10 := by unfold Hv; rw [if_neg (fun q => q h1), if_pos h2]
   have e1 : Kz S fl v = fl := if_neg (by rw [w]; decide);have e2 : Ym S fl v L = L := if_neg (by rw [w]; decide);have h2' := decide_eq_false h2;rw [e1, e2, w];simp (disch := omega) only [h2', go_sem];refine ⟨_, .same _, ?_⟩
   (try simp only [B9, B0, Bz, Bx, Bw, Bv, Bu, Bt]); simp (disch := omega) only [go_sem]
   exact ⟨900, rfl, rfl⟩
 have h2' := decide_eq_true h2;have w : Hv S fl v = 0 := by unfold Hv; rw [if_neg (fun q => q h1), if_neg (fun q => q h2)]
 have e1 : Kz S fl v = v := if_pos w;have e2 : Ym S fl v L = Dt (fun e => Bg v e.rep e.seq) L := if_pos w;rw [e1, e2, w];simp (disch := omega) only [h2', go_sem];refine Aa (Agj (es := L.map Be) (.inr rfl) (by rw [List.length_map]; omega)) ?_;simp (disch := omega) only [go_sem];refine Aa (Ak4 (l := L) (b := v) (P := fun e => Bg v e.rep e.seq) (fun e x h d h1 h2 => Av7 e v h1 h2) hn rfl rfl) ?_;simp (disch := omega) only [go_sem];refine ⟨_, .same _, ?_⟩
 (try simp only [B9, B0, Bz, Bx, Bw, Bv, Bu, Bt]); simp (maxSteps := 10000000) (disch := omega) only [go_sem]
 exact ⟨900, rfl, rfl⟩
def Hb (f : Bool) (z : Nat) (T : List Evt) (fl : Vc) : List SV := [.pv (.sl f z (T.map Be)), .vec 8 (vE fl)]
def Eo (T : List Evt) (fl : Vc) : SV := .agg (Hb false 21 T fl)
theorem Ji {f : Bool} {l : List Evt} {h d} (hn : l.length ≤ 1000) : FunOk Tryz.prog 19 [.pv (.sl f 21 (l.map Be))] h d (.vec 8 (vE (Bh l))) [] := Aa9 rfl rfl hn
theorem Apu {T : List Evt} {h d} (hn : T.length ≤ 1000) : FunOk Tryz.prog 24 [.pv (.sl false 21 (T.map Be))] h d (Eo T (Bh T)) [] := by
 refine Aq Af fn24 (by simp) rfl rfl fun F => ?_;simp (disch := omega) only [ir24, go_sem];refine Aa (Ji (l := T) hn) ?_;simp (disch := omega) only [Eo, Hb, go_sem]
theorem Av5 {T : List Evt} {fl : Vc} (v : Vc) {h d} (hn : T.length ≤ 1000) (hk : ∀ S : St, S.known = Bh T → True) : FunOk Tryz.prog 26 [Eo T fl, .vec 8 (vE v)] h d (.tup [Eo T (Kz (Am T) fl v), .pv (.i .i64 (Hv (Am T) fl v))]) [] := by
 refine Aq Af fn26 (by simp) rfl rfl fun F => ?_;have hkn : (Am T).known = Bh T := C4 T;simp (disch := omega) only [ir26, Eo, Hb, go_sem];refine Aa (Wn _ _) ?_;by_cases h1 : J1 fl v;rotate_left
 · have w : Hv (Am T) fl v = 11 := if_pos h1;have e1 : Kz (Am T) fl v = fl := if_neg (by rw [w]; decide);have h1' := decide_eq_false h1;rw [e1, w];simp (disch := omega) only [h1', go_sem]
 have h1' := decide_eq_true h1;simp (disch := omega) only [h1', go_sem];refine Aa (Ji (l := T) hn) ?_;simp (disch := omega) only [go_sem];refine Aa (Wn _ _) ?_;by_cases h2 : J1 v (Bh T);rotate_left
 · have w : Hv (Am T) fl v = 10 := by unfold Hv; rw [if_neg (fun q => q h1), hkn, if_pos h2]
   have e1 : Kz (Am T) fl v = fl := if_neg (by rw [w]; decide);have h2' := decide_eq_false h2;rw [e1, w];simp (disch := omega) only [h2', go_sem]
 have h2' := decide_eq_true h2;have w : Hv (Am T) fl v = 0 := by unfold Hv; rw [if_neg (fun q => q h1), hkn, if_neg (fun q => q h2)]
 have e1 : Kz (Am T) fl v = v := if_pos w;rw [e1, w];simp (disch := omega) only [h2', go_sem]
def Cx (v : Vc) (T : List Evt) : List Evt := Dt (fun e => Bg v e.rep e.seq) T
noncomputable def Aoi (T : List Evt) (fl v : Vc) (k : Nat) : FS := mk [(7, .pv (.i .i64 k)), (6, .os 40), (2, .p 2 0), (3, .p 3 0)] [(2, some (.var (Eo T fl))), (3, some (.var (.vec 8 (vE v)))), (40, some (.row 21 ((Cx v (T.take k)).map Be)))]
set_option maxHeartbeats 2000000 in
theorem Adm {T : List Evt} {fl v : Vc} {h d} (hn : T.length ≤ 1000) (hv : J1 fl v) : FunOk Tryz.prog 27 [Eo T fl, .vec 8 (vE v)] h d (.tup [.pv (.sl false 21 ((Cx v T).map Be)), .pv (.i .i64 0)]) [] := by
 refine Zm Af fn27 (by simp) rfl rfl fun F => ?_;have hv' := decide_eq_true hv;simp (disch := omega) only [ir27, Eo, Hb, go_sem];refine Aa (Wn _ _) ?_;simp (disch := omega) only [hv', go_sem];refine A1 Af (Aoi T fl v) (fun k => k ≤ T.length) (fun k => T.length - k) 0 (by simp) (R2 6 40 21 rfl (by omega) (Ak ?_ ?_)) fun k hk => ?_
 · simp (disch := omega) only [go_sem]
 · simp (disch := omega) only [Eo, Hb, List.take_zero, show Cx v [] = [] from rfl, List.map_nil, go_sem]
 by_cases hlt : k < T.length
 · have hx : T[k]? = some T[k] := List.getElem?_eq_getElem hlt;have he : (T.map Be)[k]? = some (Be T[k]) := by rw [List.getElem?_map, hx]; rfl
   have hsn := L6 (P := fun e => Bg v e.rep e.seq) hx;have hl := Zd (fun e => Bg v e.rep e.seq) T k;generalize T[k] = e at *;have hel := Ac e;simp (disch := omega) only [Aoi, Eo, Hb, List.length_map, he, Bj, hel, Aw, go_sem];refine Aa (Nb _ _ _) ?_;by_cases hh : Bg v e.rep e.seq = true
   · rw [if_pos hh, List.append_nil] at hsn;simp (disch := omega) only [hh, go_sem];refine Ad (k + 1) _ _ rfl (by omega) (by omega) ?_ ?_
     · simp (disch := omega) only [go_sem]
     · simp (disch := omega) only [Cx, hsn, Eo, Hb, go_sem]
   · rw [if_neg hh] at hsn;have hh' : Bg v e.rep e.seq = false := by simpa using hh
     simp (disch := omega) only [hh', List.length_map, he, Bj, hel, Cx, go_sem];refine ⟨k + 1, by omega, by omega, Es 36 40 (by decide) rfl (Ak ?_ ?_)⟩
     · simp (disch := omega) only [go_sem]
     · simp (disch := omega) only [Cx, hsn, Eo, Hb, List.map_append, List.map_cons, List.map_nil, go_sem]
 · obtain rfl : k = T.length := by omega
   have htk : T.take T.length = T := List.take_length;simp (disch := omega) only [Aoi, Eo, Hb, List.length_map, htk, go_sem]
theorem Aa3 {T : List Evt} {fl v : Vc} {h d} (hv : ¬ J1 fl v) : FunOk Tryz.prog 27 [Eo T fl, .vec 8 (vE v)] h d (.tup [.pv (.sl true 0 []), .pv (.i .i64 11)]) [] := by
 refine Aq Af fn27 (by simp) rfl rfl fun F => ?_;have hv' := decide_eq_false hv;simp (disch := omega) only [ir27, Eo, Hb, go_sem];refine Aa (Wn _ _) ?_;simp (disch := omega) only [hv', go_sem]
theorem Aa8 {T : List Evt} {fl : Vc} {h d} (hn : T.length ≤ 1000) : FunOk Tryz.prog 31 [Eo T fl] h d (.pv (.i .i64 (Cx fl T).length)) [] := by
 refine Aq Af fn31 (by simp) rfl rfl fun F => ?_;simp (disch := omega) only [ir31, Eo, Hb, go_sem];refine Aa (Adm (T := T) (fl := fl) (v := fl) hn (fun i _ => Nat.le_refl _)) ?_;simp (disch := omega) only [List.length_map, go_sem]
set_option maxHeartbeats 2000000 in
theorem Aqi {T : List Evt} {fl : Vc} {e : Evt} {h d} (hT : Val T) (hn : T.length ≤ 400) (he : EvIn e) : FunOk Tryz.prog 30 [Eo T fl, .vec 21 (Be e)] h d (.tup [Eo (Jz T e) fl, .pv (.i .i64 (Ff (Am T) e))]) [] := by
 refine Om Af fn30 (by simp) rfl rfl fun F => ?_;have hel := Ac e;have hi := Pl hT hn;simp (disch := omega) only [ir30, Eo, Hb, go_sem];refine Aa (Ws (Uj hT hn) (Ui hT)) ?_;simp (disch := omega) only [Bj, hel, go_sem];refine ⟨rfl, Aa (Azr hi he.ev he.dep) ?_⟩;by_cases hw : Ff (Am T) e = 0
 · have e1 : Jz T e = T ++ [e] := if_pos hw;rw [e1, hw];simp (disch := omega) only [Bj, hel, go_sem];refine ⟨_, Ed 24 rfl (.same _), ?_⟩
   (try simp only [B9, B0, Bz, Bx, Bw, Bv, Bu, Bt]); simp (disch := omega) only [List.map_append, List.map_cons, List.map_nil, go_sem]
 · have e1 : Jz T e = T := if_neg hw;rw [e1];simp (disch := omega) only [hw, go_sem];refine Cg ?_;simp (disch := omega) only [go_sem]
theorem Al4 {a b : List Bo} (hl : a.length = b.length) (h : ∀ j, j < a.length → a.getD j (0, 0) = b.getD j (0, 0)) : a = b := by
 apply List.ext_getElem hl;intro j h1 h2;have := h j h1
 rwa [List.getD_eq_getElem?_getD, List.getD_eq_getElem?_getD, List.getElem?_eq_getElem h1, List.getElem?_eq_getElem h2] at this
theorem Ary {a : List Bo} {k : Nat} (h : k < a.length) : (a.map Eb)[k]? = some (Eb (a.getD k (0, 0))) := by
 simp [List.getD_eq_getElem?_getD, List.getElem?_eq_getElem h]
def Aif (f g : Bool) (y z : Nat) (a b : List Bo) (k : Nat) : FS := mk [(5, .pv (.i .i64 k)), (0, .pv (.sl f y (a.map Eb))), (1, .pv (.sl g z (b.map Eb)))] []
set_option maxHeartbeats 1000000 in
theorem M7 {f g : Bool} {y z : Nat} {a b : List Bo} {h d} (hy : a = [] ∨ y = 2) (hz : b = [] ∨ z = 2) (hn : a.length ≤ 1000) (hn' : b.length ≤ 1000) :
 FunOk Tryz.prog 104 [.pv (.sl f y (a.map Eb)), .pv (.sl g z (b.map Eb))] h d (.pv (.b (decide (a = b)))) [] := by
 refine Ci Af fn104 (by simp) rfl rfl fun F => ?_;simp (disch := omega) only [go_sem];by_cases hlen : a.length = b.length
 · have hle : (a.length : Int) = (b.length : Int) := by omega
   simp (disch := omega) only [ir104, List.length_map, hle, go_sem];refine A1 Af (Aif f g y z a b) (fun k => k ≤ a.length ∧ ∀ j, j < k → a.getD j (0, 0) = b.getD j (0, 0)) (fun k => a.length - k) 0 (by simp) (Ak ?_ ?_) fun k hk => ?_
   · simp (disch := omega) only [List.length_map, hle, go_sem]
   · simp (disch := omega) only [go_sem]
   obtain ⟨hk1, hk2⟩ := hk;by_cases hlt : k < a.length
   · have hy1 : y = 2 := hy.resolve_left fun e => by subst e; simp at hlt
     have hz1 : z = 2 := hz.resolve_left fun e => by subst e; rw [List.length_nil] at hlen; omega
     subst hy1; subst hz1;have h1 := Ary hlt;have h2 := Ary (a := b) (k := k) (by omega);have hb : k < b.length := by omega
     by_cases hd : a.getD k (0, 0) = b.getD k (0, 0)
     · rw [← hd] at h2;have hd0 := hd;generalize a.getD k (0, 0) = u at h1 h2;have hp := Gt (r := u.1) (r' := u.1) (q := u.2) (q' := u.2) ⟨rfl, rfl⟩;simp (disch := omega) only [Aif, List.length_map, hlen, h1, h2, El, Ae, hp, go_sem];refine Ad (k + 1) _ _ rfl ⟨by omega, fun j hj => ?_⟩ (by omega) ?_ ?_
       · by_cases e : j = k
         · subst e; exact hd
         · exact hk2 j (by omega)
       · simp (disch := omega) only [go_sem]
       · simp (disch := omega) only [go_sem]
     · have hne : ¬ a = b := fun e => hd (by rw [e]);generalize a.getD k (0, 0) = u at *;generalize b.getD k (0, 0) = v at *;have hp := Fk (r := u.1) (r' := v.1) (q := u.2) (q' := v.2) fun e => hd (Prod.ext e.1 e.2);simp (disch := omega) only [Aif, List.length_map, hlen, h1, h2, El, Ae, hp, hne, go_sem]
   · obtain rfl : k = a.length := by omega
     have he := Al4 hlen hk2;subst he
     (try simp only [B9, B0, Bz, Bx, Bw, Bv, Bu, Bt]); simp (disch := omega) only [Aif, List.length_map, go_sem]
 · have hle : ¬ (a.length : Int) = (b.length : Int) := by omega
   have hne : ¬ a = b := fun e => hlen (by rw [e]);simp (disch := omega) only [ir104, List.length_map, hle, hne, go_sem]
def Et (a b : Evt) : Bool := decide (a.rep = b.rep ∧ a.seq = b.seq) && (decide (vEq a.dep b.dep) && (decide (a.kind = b.kind) && (decide (a.orep = b.orep ∧ a.oseq = b.oseq) && (decide (a.drep = b.drep ∧ a.dseq = b.dseq) && (decide (a.name = b.name) && (decide (a.gone.l = b.gone.l) && (decide (a.base.l = b.base.l) && (decide (a.off = b.off) && (decide (a.data = b.data) && decide (a.ward = b.ward))))))))))
set_option maxHeartbeats 4000000 in
theorem Apv (a b : Evt) (ha : a.gone.ok ∧ a.base.ok ∧ a.gone.l.length ≤ 1000 ∧ a.base.l.length ≤ 1000) (hb : b.gone.ok ∧ b.base.ok ∧ b.gone.l.length ≤ 1000 ∧ b.base.l.length ≤ 1000) {h d} : FunOk Tryz.prog 65 [.vec 21 (Be a), .vec 21 (Be b)] h d (.pv (.b (Et a b))) [] := by
 refine Aq Af fn65 (by simp) rfl rfl fun F => ?_;obtain ⟨a1, a2, a3, a4⟩ := ha;obtain ⟨b1, b2, b3, b4⟩ := hb;by_cases c0 : a.rep = b.rep ∧ a.seq = b.seq;rotate_left
 · have c0f := eq_false c0;have c0p : Qq [PV.i .i64 a.rep, PV.i .u32 a.seq] [PV.i .i64 b.rep, PV.i .u32 b.seq] = false := Fk c0;have eb : Et a b = false := by simp only [Et, c0f, decide_true, decide_false, Bool.true_and, Bool.false_and, Bool.and_true, Bool.and_false, Bool.and_self]
   simp (disch := omega) only [ir65, Aw, Ae, C5, Dw, c0p, eb, go_sem]
 have c0t := eq_true c0;have c0p : Qq [PV.i .i64 a.rep, PV.i .u32 a.seq] [PV.i .i64 b.rep, PV.i .u32 b.seq] = true := Gt c0;by_cases c1 : vEq a.dep b.dep;rotate_left
 · have c1f := eq_false c1;have eb : Et a b = false := by simp only [Et, c0t, c1f, decide_true, decide_false, Bool.true_and, Bool.false_and, Bool.and_true, Bool.and_false, Bool.and_self]
   simp (disch := omega) only [ir65, Aw, Ae, C5, Dw, c0p, c1f, eb, go_sem]
 have c1t := eq_true c1;by_cases c2 : a.kind = b.kind;rotate_left
 · have c2f := eq_false c2;have eb : Et a b = false := by simp only [Et, c0t, c1t, c2f, decide_true, decide_false, Bool.true_and, Bool.false_and, Bool.and_true, Bool.and_false, Bool.and_self]
   simp (disch := omega) only [ir65, Aw, Ae, C5, Dw, c0p, c1t, c2f, eb, go_sem]
 have c2t := eq_true c2;by_cases c3 : a.orep = b.orep ∧ a.oseq = b.oseq;rotate_left
 · have c3f := eq_false c3;have c3p : Qq [PV.i .i64 a.orep, PV.i .u32 a.oseq] [PV.i .i64 b.orep, PV.i .u32 b.oseq] = false := Fk c3;have eb : Et a b = false := by simp only [Et, c0t, c1t, c2t, c3f, decide_true, decide_false, Bool.true_and, Bool.false_and, Bool.and_true, Bool.and_false, Bool.and_self]
   simp (disch := omega) only [ir65, Aw, Ae, C5, Dw, c0p, c1t, c2t, c3p, eb, go_sem]
 have c3t := eq_true c3;have c3p : Qq [PV.i .i64 a.orep, PV.i .u32 a.oseq] [PV.i .i64 b.orep, PV.i .u32 b.oseq] = true := Gt c3;by_cases c4 : a.drep = b.drep ∧ a.dseq = b.dseq;rotate_left
 · have c4f := eq_false c4;have c4p : Qq [PV.i .i64 a.drep, PV.i .u32 a.dseq] [PV.i .i64 b.drep, PV.i .u32 b.dseq] = false := Fk c4;have eb : Et a b = false := by simp only [Et, c0t, c1t, c2t, c3t, c4f, decide_true, decide_false, Bool.true_and, Bool.false_and, Bool.and_true, Bool.and_false, Bool.and_self]
   simp (disch := omega) only [ir65, Aw, Ae, C5, Dw, c0p, c1t, c2t, c3p, c4p, eb, go_sem]
 have c4t := eq_true c4;have c4p : Qq [PV.i .i64 a.drep, PV.i .u32 a.dseq] [PV.i .i64 b.drep, PV.i .u32 b.dseq] = true := Gt c4;by_cases c5 : a.name = b.name;rotate_left
 · have c5f := eq_false c5;have eb : Et a b = false := by simp only [Et, c0t, c1t, c2t, c3t, c4t, c5f, decide_true, decide_false, Bool.true_and, Bool.false_and, Bool.and_true, Bool.and_false, Bool.and_self]
   simp (disch := omega) only [ir65, Aw, Ae, C5, Dw, c0p, c1t, c2t, c3p, c4p, c5f, eb, go_sem]
 have c5t := eq_true c5;by_cases c6 : a.gone.l = b.gone.l;rotate_left
 · have c6f := eq_false c6;have eb : Et a b = false := by simp only [Et, c0t, c1t, c2t, c3t, c4t, c5t, c6f, decide_true, decide_false, Bool.true_and, Bool.false_and, Bool.and_true, Bool.and_false, Bool.and_self]
   simp (disch := omega) only [ir65, Aw, Ae, C5, Dw, c0p, c1t, c2t, c3p, c4p, c5t, c6f, go_sem];refine Aa (M7 (a := a.gone.l) (b := b.gone.l) a1 b1 a3 b3) ?_;simp (disch := omega) only [Aw, Ae, C5, Dw, c0p, c1t, c2t, c3p, c4p, c5t, c6f, eb, go_sem]
 have c6t := eq_true c6;by_cases c7 : a.base.l = b.base.l;rotate_left
 · have c7f := eq_false c7;have eb : Et a b = false := by simp only [Et, c0t, c1t, c2t, c3t, c4t, c5t, c6t, c7f, decide_true, decide_false, Bool.true_and, Bool.false_and, Bool.and_true, Bool.and_false, Bool.and_self]
   simp (disch := omega) only [ir65, Aw, Ae, C5, Dw, c0p, c1t, c2t, c3p, c4p, c5t, c6t, c7f, go_sem];refine Aa (M7 (a := a.gone.l) (b := b.gone.l) a1 b1 a3 b3) ?_;simp (disch := omega) only [Aw, Ae, C5, Dw, c0p, c1t, c2t, c3p, c4p, c5t, c6t, c7f, go_sem];refine Aa (M7 (a := a.base.l) (b := b.base.l) a2 b2 a4 b4) ?_;simp (disch := omega) only [Aw, Ae, C5, Dw, c0p, c1t, c2t, c3p, c4p, c5t, c6t, c7f, eb, go_sem]
 have c7t := eq_true c7;by_cases c8 : a.off = b.off;rotate_left
 · have c8f := eq_false c8;have eb : Et a b = false := by simp only [Et, c0t, c1t, c2t, c3t, c4t, c5t, c6t, c7t, c8f, decide_true, decide_false, Bool.true_and, Bool.false_and, Bool.and_true, Bool.and_false, Bool.and_self]
   simp (disch := omega) only [ir65, Aw, Ae, C5, Dw, c0p, c1t, c2t, c3p, c4p, c5t, c6t, c7t, c8f, go_sem];refine Aa (M7 (a := a.gone.l) (b := b.gone.l) a1 b1 a3 b3) ?_;simp (disch := omega) only [Aw, Ae, C5, Dw, c0p, c1t, c2t, c3p, c4p, c5t, c6t, c7t, c8f, go_sem];refine Aa (M7 (a := a.base.l) (b := b.base.l) a2 b2 a4 b4) ?_;simp (disch := omega) only [Aw, Ae, C5, Dw, c0p, c1t, c2t, c3p, c4p, c5t, c6t, c7t, c8f, eb, go_sem]
 have c8t := eq_true c8;by_cases c9 : a.data = b.data;rotate_left
 · have c9f := eq_false c9;have eb : Et a b = false := by simp only [Et, c0t, c1t, c2t, c3t, c4t, c5t, c6t, c7t, c8t, c9f, decide_true, decide_false, Bool.true_and, Bool.false_and, Bool.and_true, Bool.and_false, Bool.and_self]
   simp (disch := omega) only [ir65, Aw, Ae, C5, Dw, c0p, c1t, c2t, c3p, c4p, c5t, c6t, c7t, c8t, c9f, go_sem];refine Aa (M7 (a := a.gone.l) (b := b.gone.l) a1 b1 a3 b3) ?_;simp (disch := omega) only [Aw, Ae, C5, Dw, c0p, c1t, c2t, c3p, c4p, c5t, c6t, c7t, c8t, c9f, go_sem];refine Aa (M7 (a := a.base.l) (b := b.base.l) a2 b2 a4 b4) ?_;simp (disch := omega) only [Aw, Ae, C5, Dw, c0p, c1t, c2t, c3p, c4p, c5t, c6t, c7t, c8t, c9f, eb, go_sem]
 have c9t := eq_true c9;by_cases c10 : a.ward = b.ward;rotate_left
 · have c10f := eq_false c10;have eb : Et a b = false := by simp only [Et, c0t, c1t, c2t, c3t, c4t, c5t, c6t, c7t, c8t, c9t, c10f, decide_true, decide_false, Bool.true_and, Bool.false_and, Bool.and_true, Bool.and_false, Bool.and_self]
   simp (disch := omega) only [ir65, Aw, Ae, C5, Dw, c0p, c1t, c2t, c3p, c4p, c5t, c6t, c7t, c8t, c9t, c10f, go_sem];refine Aa (M7 (a := a.gone.l) (b := b.gone.l) a1 b1 a3 b3) ?_;simp (disch := omega) only [Aw, Ae, C5, Dw, c0p, c1t, c2t, c3p, c4p, c5t, c6t, c7t, c8t, c9t, c10f, go_sem];refine Aa (M7 (a := a.base.l) (b := b.base.l) a2 b2 a4 b4) ?_;simp (disch := omega) only [Aw, Ae, C5, Dw, c0p, c1t, c2t, c3p, c4p, c5t, c6t, c7t, c8t, c9t, c10f, eb, go_sem]
 have c10t := eq_true c10;have eb : Et a b = true := by simp only [Et, c0t, c1t, c2t, c3t, c4t, c5t, c6t, c7t, c8t, c9t, c10t, decide_true, decide_false, Bool.true_and, Bool.false_and, Bool.and_true, Bool.and_false, Bool.and_self]
 simp (disch := omega) only [ir65, Aw, Ae, C5, Dw, c0p, c1t, c2t, c3p, c4p, c5t, c6t, c7t, c8t, c9t, c10t, go_sem];refine Aa (M7 (a := a.gone.l) (b := b.gone.l) a1 b1 a3 b3) ?_;simp (disch := omega) only [Aw, Ae, C5, Dw, c0p, c1t, c2t, c3p, c4p, c5t, c6t, c7t, c8t, c9t, c10t, go_sem];refine Aa (M7 (a := a.base.l) (b := b.base.l) a2 b2 a4 b4) ?_;simp (disch := omega) only [Aw, Ae, C5, Dw, c0p, c1t, c2t, c3p, c4p, c5t, c6t, c7t, c8t, c9t, c10t, eb, go_sem]
theorem Acn (c : Int) (n : Nat) : ∃ q : Nat, (IntKind.u64.wrap c).tmod (n : Int) = q ∧ (0 < n → q < n) := by
 have h0 := Z8 c;have h1 : 0 ≤ IntKind.u64.wrap c := by omega
 refine ⟨((IntKind.u64.wrap c).tmod n).toNat, ?_, fun hn => ?_⟩
 · have : 0 ≤ (IntKind.u64.wrap c).tmod n := Int.tmod_nonneg _ h1;omega
 · have h2 := Int.tmod_lt_of_pos (IntKind.u64.wrap c) (b := (n : Int)) (by omega);have : 0 ≤ (IntKind.u64.wrap c).tmod n := Int.tmod_nonneg _ h1;omega
theorem Ao8 (e : Evt) : Et e e = true := by simp [Et, vEq]
noncomputable def Ava (l0 : Nat) (S : St) (fl v : Vc) (L : List Evt) (most : Nat) (j : Nat) : FS := mk [(8, .pv (.i .i64 j)), (7, .pv (.i .i64 L.length)), (6, .pv (.sl true 21 (L.map Be))), (0, .fn (.yield l0) []), (2, .pi 8 [vE v] 0 0), (1000000, .pv (.i .i64 0)), (1000007, .p 6 0), (1000009, .p 8 0), (1000012, .p 11 0), (1000013, .p 12 0), (2000001, .p 900 0)] [(6, some (.var (.pv (.sl false 21 ((Cx v L).map Be))))), (8, some (.var (.pv (.b false)))), (11, some (.var (.pv (.i .i64 ((Cx v (L.take j)).length : Nat))))), (12, some (.var (.pv (.i .i64 most)))), (900, some (.var (Mw S fl L)))]
theorem A07 {v : Vc} {L : List Evt} {j : Nat} {e : Evt} (hx : L[j]? = some e) (hh : ¬ Bg v e.rep e.seq = true) : (Cx v L)[(Cx v (L.take j)).length]? = some e := by
 have hdr : L = L.take j ++ e :: L.drop (j + 1) := by
  obtain ⟨h1, h2⟩ := List.getElem?_eq_some_iff.1 hx;rw [← h2, ← List.drop_eq_getElem_cons h1, List.take_append_drop]
 have : Cx v L = Cx v (L.take j) ++ e :: Cx v (L.drop (j + 1)) := by
  conv => lhs; rw [hdr]
  unfold Cx Dt;rw [List.filter_append, List.filter_cons, if_pos (by simpa using hh)]
 rw [this, List.getElem?_append_right (Nat.le_refl _), Nat.sub_self]; rfl
set_option maxHeartbeats 4000000 in
theorem A1w {S : St} {fl : Vc} {L : List Evt} (v : Vc) (stop : Int) (hv : J1 fl v) (hL : ∀ e ∈ L, ev e ∧ Hn e = e) (hn : L.length ≤ 100) {g : Nat} {h d} (hg : h g = some (.var (Mw S fl L))) : FunOk Tryz.prog 22 [.p g 0, .vec 8 (vE v), .pv (.sl false 21 ((Cx v L).map Be)), .pv (.i .i64 stop)] h d (.pv (.b true)) [] := by
 refine FunOk.quiet (g := g) (blk := .var (Mw S fl L)) ?_ hg (by simp [A3, tn]);refine FunOk.io (fun h d hg => ?_) rfl rfl rfl rfl hg;refine Gg (g := 900) Af fn22 (by simp) (by simp [A3, tn]) (by simp [A3, tn]) hg rfl (by simp [Blk.ptr, SV.kill]) rfl (fun _ => rfl) fun F => ?_;obtain ⟨q, hq, hqn⟩ := Acn stop 30;have hqn' := hqn (by decide);have hq' : (IntKind.u64.wrap stop).tmod 30 = (q : Int) := hq;have hsl : (Cx v L).length ≤ L.length := List.length_filter_le _ _;simp (disch := omega) only [ir22, Blk.ptr, go_sem];refine Aa (Adn (S := S) (L := L) v hv rfl) ?_;simp (disch := omega) only [Azg, hq', go_sem];refine Apc Af fn70 (by simp) fun l0 XI hc => ?_;rw [Aeu _ _ _ (by show 3 ≤ 1000000; omega)];simp (disch := omega) only [ir70, List.getElem?_cons_zero, Arf, List.length_map, go_sem];refine A1 Af (Ava l0 S fl v L (q + 1)) (fun k => k ≤ L.length ∧ (Cx v (L.take k)).length < q + 1) (fun k => L.length - k) 0 ⟨by simp, by simp [Cx, Dt]⟩ (Ak ?_ ?_) fun j hj => ?_
 · simp (disch := omega) only [go_sem]
 · simp (disch := omega) only [List.take_zero, show Cx v [] = [] from rfl, List.length_nil, go_sem]
 obtain ⟨hj1, hj2⟩ := hj;by_cases hlt : j < L.length
 · have hx : L[j]? = some L[j] := List.getElem?_eq_getElem hlt;have he : (L.map Be)[j]? = some (Be L[j]) := by rw [List.getElem?_map, hx]; rfl
   have hmem := List.getElem_mem hlt;have hsn : Cx v (L.take (j + 1)) = Cx v (L.take j) ++ if Bg v L[j].rep L[j].seq = true then [] else [L[j]] := L6 hx
   have hat := A07 (v := v) hx;obtain ⟨hev, hce⟩ := hL _ hmem;have hkl : (Cx v (L.take j)).length ≤ j := Zd _ _ _;generalize L[j] = e at *;have hel := Ac e;by_cases hh' : Bg v e.rep e.seq = true
   · rw [if_pos hh', List.append_nil] at hsn;simp (disch := omega) only [Ava, List.length_map, he, Bj, hel, List.getElem?_cons_zero, Ds, Aw, go_sem];refine Aa (Gy _ _ _) ?_;rw [hh'];simp (disch := omega) only [go_sem];refine Ad (j + 1) _ _ rfl ⟨by omega, by rw [hsn]; exact hj2⟩ (by omega) ?_ ?_
     · simp (disch := omega) only [go_sem]
     · simp (disch := omega) only [hsn, go_sem]
   · rw [if_neg hh'] at hsn;have hh : Bg v e.rep e.seq = false := by simpa using hh'
     have hat' := hat hh';have hlw := (List.getElem?_eq_some_iff.1 hat').1;have hew : ((Cx v L).map Be)[(Cx v (L.take j)).length]? = some (Be e) := by rw [List.getElem?_map, hat']; rfl
     have hln : (Cx v (L.take (j + 1))).length = (Cx v (L.take j)).length + 1 := by rw [hsn]; simp
     generalize hnn : (Cx v (L.take j)).length = n at *;simp (disch := omega) only [Ava, hnn, List.length_map, he, Bj, hel, List.getElem?_cons_zero, Ds, Aw, go_sem];refine Aa (Gy _ _ _) ?_;rw [hh];simp (disch := omega) only [Bj, hel, go_sem];refine Aa (Sp e hev) ?_;rw [hce];simp (disch := omega) only [go_sem];refine Anz Af hc ?_ rfl fun XA XB => ?_
     · simp (disch := omega) only [go_sem]
     rw [Ac9 _ _ _ _ (A5z 32 (by decide))];have hge : ¬ ((Cx v L).length : Int) ≤ (n : Int) := by omega
     simp (disch := omega) only [List.length_map, Bj, hel, hew, hge, go_sem];refine Aa (Apv e e ⟨hev.1, hev.2.1, hev.2.2.1, hev.2.2.2.1⟩ ⟨hev.1, hev.2.1, hev.2.2.1, hev.2.2.2.1⟩) ?_;rw [Ao8];by_cases hend : n + 1 = q + 1
     · have hz : (n : Int) + 1 = (q : Int) + 1 := by omega
       simp (disch := omega) only [hz, go_sem];refine ⟨_, .same _, ?_⟩
       (try simp only [B9, B0, Bz, Bx, Bw, Bv, Bu, Bt]); simp (maxSteps := 10000000) (disch := omega) only [go_sem]
       exact ⟨900, rfl, rfl⟩
     · have hz : ¬ (n : Int) + 1 = (q : Int) + 1 := by omega
       simp (disch := omega) only [hz, go_sem];refine Ad (j + 1) _ _ rfl ⟨by omega, by omega⟩ (by omega) ?_ ?_
       · simp (disch := omega) only [go_sem]
       · simp (disch := omega) only [hln, go_sem]
 · obtain rfl : j = L.length := by omega
   have htk : L.take L.length = L := List.take_length;rw [htk] at hj2;have hm : min (((q + 1 : Nat) : Int)) ((Cx v L).length : Int) = ((Cx v L).length : Int) := by omega
   simp (disch := omega) only [Ava, List.length_map, htk, hm, go_sem];refine ⟨_, .same _, ?_⟩
   (try simp only [B9, B0, Bz, Bx, Bw, Bv, Bu, Bt]); simp (disch := omega) only [go_sem]
   exact ⟨900, rfl, rfl⟩
theorem Ail {fl v : Vc} (h : J1 fl v) (T : List Evt) : Cx v (Cx fl T) = Cx v T := by
 unfold Cx Dt;rw [List.filter_filter];refine List.filter_congr fun e _ => ?_;by_cases h1 : Bg fl e.rep e.seq = true
 · have h2 : Bg v (Aj e).1 (Aj e).2 = true := Xb (i := Aj e) h h1;have h2' : Bg v e.rep e.seq = true := h2;simp [h1, h2']
 · have h1' : Bg fl e.rep e.seq = false := by simpa using h1
   simp [h1']
theorem An8 {T : List Evt} {fl v : Vc} : Ym (Am T) fl v (Cx fl T) = Cx (Kz (Am T) fl v) T := by
 unfold Ym Kz;by_cases hw : Hv (Am T) fl v = 0
 · rw [if_pos hw, if_pos hw];have hv : J1 fl v := Classical.byContradiction fun q => by
    unfold Hv at hw; rw [if_pos q] at hw; cases hw
   exact Ail hv T
 · rw [if_neg hw, if_neg hw]
theorem Auu {T : List Evt} {fl v : Vc} (h : J1 fl (Bh T)) : J1 (Kz (Am T) fl v) (Bh T) := by
 unfold Kz;by_cases hw : Hv (Am T) fl v = 0
 · rw [if_pos hw];unfold Hv at hw;split at hw
   · cases hw
   · split at hw
     · cases hw
     · rename_i _ h2;rw [C4] at h2;exact Classical.byContradiction fun q => h2 q
 · rw [if_neg hw]; exact h
theorem Azh {T : List Evt} {fl : Vc} {e : Evt} (hT : Val T) (hfl : J1 fl (Bh T)) (hc : Hn e = e) : Ua (Am T) e = Am (Jz T e) ∧ X6 (Am T) (Cx fl T) e = Cx fl (Jz T e) := by
 unfold Ua X6 Jz;by_cases hw : Ff (Am T) e = 0
 · rw [if_pos hw, if_pos hw, if_pos hw, Xv hT (Ow.1 hw)];refine ⟨rfl, ?_⟩;have hn : Bg fl e.rep e.seq = false := by
    cases hq : Bg fl e.rep e.seq with
    | false => rfl
    | true =>
      have h1 : Bg (Bh T) (Aj e).1 (Aj e).2 = true := Xb (i := Aj e) hfl hq;have h2 := (Ow.1 hw).new;rw [C4] at h2;rw [show Bg (Bh T) (Aj e).1 (Aj e).2 = Bg (Bh T) e.rep e.seq from rfl, h2] at h1;cases h1
   unfold Cx Dt;rw [List.filter_append, List.filter_cons, if_pos (by simp [hn]), hc]; rfl
 · rw [if_neg hw, if_neg hw, if_neg hw]; exact ⟨rfl, rfl⟩
theorem A0k {T : List Evt} {fl : Vc} {e : Evt} (hT : Val T) (he : ev e) (hfl : J1 fl (Bh T)) : J1 fl (Bh (Jz T e)) := by
 unfold Jz;split
 · exact fun i hi => Nat.le_trans (hfl i hi) (Agt T [e] i hi)
 · exact hfl
theorem Ako {T : List Evt} (hT : Val T) : Cx (Bh T) T = [] := by
 unfold Cx Dt;rw [List.filter_eq_nil_iff];intro e he;have : Bg (Bh T) (Aj e).1 (Aj e).2 = true := hT.has.2 ⟨e, he, rfl⟩;have h2 : Bg (Bh T) e.rep e.seq = true := this;simp [h2]
structure HAct where
 kind : Int
 v : Vc
 stop : Int
def J0 (a : HAct) : List PV := [.i .i64 a.kind] ++ vE a.v ++ [.i .i64 a.stop]
theorem Lf (a : HAct) : (J0 a).length = 10 := by simp [J0, Bk]
theorem W5 (a : HAct) (K : KK) : LoadK (some (J0 a)) 0 10 true K = K (.vec 10 (J0 a)) [] := by
 simp only [LoadK, H2, eq_iff_iff];have e : ((J0 a).drop 0).take 10 = J0 a := List.take_of_length_le (by simp [Lf]);rw [e];exact ⟨fun h => h.2.2, fun h => ⟨by simp [Lf], .inl trivial, h⟩⟩
theorem Q1 (a : HAct) (K : KK) : LoadK (some (J0 a)) 0 1 false K = K (.pv (.i .i64 a.kind)) [] := by
 simp only [LoadK, H2, eq_iff_iff];have e : (J0 a).getD 0 (.b false) = .i .i64 a.kind := by simp only [J0, vE, Cz]; rfl
 rw [e];exact ⟨fun h => h.2.2, fun h => ⟨by simp [Lf], .inr trivial, h⟩⟩
theorem Oi (a : HAct) (K : KK) : LoadK (some (J0 a)) 1 8 true K = K (.vec 8 (vE a.v)) [] := by
 simp only [LoadK, H2, eq_iff_iff];have e : ((J0 a).drop 1).take 8 = vE a.v := by simp only [J0, vE, Cz]; rfl
 rw [e];exact ⟨fun h => h.2.2, fun h => ⟨by simp [Lf], .inl trivial, h⟩⟩
theorem Aw3 (a : HAct) (K : KK) : LoadK (some (J0 a)) 9 1 false K = K (.pv (.i .i64 a.stop)) [] := by
 simp only [LoadK, H2, eq_iff_iff];have e : (J0 a).getD 9 (.b false) = .i .i64 a.stop := by simp only [J0, vE, Cz]; rfl
 rw [e];exact ⟨fun h => h.2.2, fun h => ⟨by simp [Lf], .inr trivial, h⟩⟩
theorem Ajy {cs : List PV} (h : GC (.sl V8) cs) : ∃ l : List Evt, cs = [.sl false 21 (l.map Be)] ∧ ∀ e ∈ l, EvRaw e ∧ Hn e = e := by
 obtain ⟨es, rfl, _, g⟩ := Ajx h;have key : ∀ {cs}, GC V8 cs → ∃ e : Evt, cs = Be e ∧ (EvRaw e ∧ Hn e = e) := fun {cs} hc => by
  obtain ⟨e, h1, h2, h3, h4⟩ := Azk hc;refine ⟨e, h1, ⟨h2, by rw [h3]; exact .inr rfl, by rw [h4]; exact .inr rfl⟩, ?_⟩;unfold Hn;rw [← h3, ← h4]
 obtain ⟨l, rfl, hl⟩ := Xl (f := Be) (p := fun e => EvRaw e ∧ Hn e = e) key g;exact ⟨l, rfl, hl⟩
noncomputable def Afx (l : List Evt) (A : List HAct) (p : Nat × List Evt × Vc × Nat) : FS := mk [(48, .pv (.i .i64 p.1)), (47, .pv (.i .i64 A.length)), (46, .pv (.sl false 10 (A.map J0))), (7, .p 43 0), (8, .p 8 0), (1, .pv (.sl false 21 ((l.drop p.2.2.2).map Be)))] [(8, some (.var (Eo p.2.1 p.2.2.1))), (43, some (.var (Mw (Am p.2.1) p.2.2.1 (Cx p.2.2.1 p.2.1))))]
theorem A7s (n : Nat) (T : List Evt) (fl : Vc) : SV.kill n (Eo T fl) = Eo T fl := rfl
theorem A5e (T : List Evt) (fl : Vc) : SV.width (Eo T fl) = 9 := rfl
attribute [go_sem] A7s A5e
structure HpI (l : List Evt) (n : Nat) (p : Nat × List Evt × Vc × Nat) : Prop where
 le : p.1 ≤ n
 val : Val p.2.1
 len : p.2.1.length ≤ 25 + p.2.2.2
 fl : J1 p.2.2.1 (Bh p.2.1)
 ok : ∀ e ∈ p.2.1, EvIn e ∧ Hn e = e
 j : p.2.2.2 ≤ l.length
set_option maxHeartbeats 16000000 in
theorem Alo {l0 l : List Evt} {A : List HAct} (h0 : ∀ e ∈ l0, EvRaw e ∧ Hn e = e) (hl : ∀ e ∈ l, EvRaw e ∧ Hn e = e) {h d} :
 FunOk Tryz.prog 4 [.pv (.sl false 21 (l0.map Be)), .pv (.sl false 21 (l.map Be)), .pv (.sl false 10 (A.map J0))] h d (.pv (.b true)) [] := by
 refine Aq Af fn4 (by simp) rfl rfl fun F => ?_;simp (disch := omega) only [ir4, go_sem];refine Aa Oc ?_;simp (disch := omega) only [go_sem];refine Aa (Adu (l := l0) rfl rfl) ?_;by_cases hf' : Afk l0;rotate_left
 · have hf := U8 hf';simp (disch := omega) only [hf, go_sem];refine Aa Oc ?_;simp (disch := omega) only [go_sem]
 have hf := Aby hf';simp (disch := omega) only [hf, go_sem];refine Aa (Adu (l := l) rfl rfl) ?_;by_cases hg' : Afk l;rotate_left
 · have hg := U8 hg';simp (disch := omega) only [hg, go_sem];refine Aa Oc ?_;simp (disch := omega) only [go_sem]
 have hg := Aby hg';by_cases h40 : 40 < (A.length : Int)
 · simp (disch := omega) only [hg, List.length_map, h40, go_sem];refine Aa Oc ?_;simp (disch := omega) only [go_sem]
 have hin0 : ∀ e ∈ l0, EvIn e := fun x hx => Api (h0 x hx).1 (hf'.2 x hx);have hin : ∀ e ∈ l, EvIn e := fun x hx => Api (hl x hx).1 (hg'.2 x hx);have hl25 := hg'.1;have h025 := hf'.1;obtain ⟨t1, t2, t3⟩ := Acs l0 fun x hx => (hin0 x hx).ev;simp (disch := omega) only [hg, List.length_map, h40, go_sem];refine Aa (A1x (l := l0) (by omega) hin0) ?_;generalize Mm l0 = T0 at *;simp (disch := omega) only [go_sem];refine Aa (Ws (Uj t1 (by omega)) (Ui t1)) ?_;simp (disch := omega) only [go_sem];refine Aa (Adl (S := Am T0) (Pl t1 (by omega)).fine) ?_;rw [C4];simp (disch := omega) only [go_sem];refine Aa (Apu (T := T0) (by omega)) ?_;simp (disch := omega) only [Eo, Hb, List.length_map, go_sem];refine A1 Af (Afx l A) (HpI l A.length) (fun p => A.length - p.1) (0, T0, Bh T0, 0) ⟨Nat.zero_le _, t1, by show T0.length ≤ 25 + 0; omega, fun i _ => Nat.le_refl _, fun e he => ⟨hin0 e (t3 e he), (h0 e (t3 e he)).2⟩, Nat.zero_le _⟩ (Ak ?_ ?_) fun p hp => ?_
 · (try simp only [B9, B0, Bz, Bx, Bw, Bv, Bu, Bt]); simp (disch := omega) only [List.drop_zero, go_sem]
 · (try simp only [B9, B0, Bz, Bx, Bw, Bv, Bu, Bt]); simp (disch := omega) only [Eo, Hb, Ako t1, List.map_nil, go_sem]
 obtain ⟨i, T, fl, j⟩ := p;obtain ⟨p1, p2, p3, p4, p5, p6⟩ := hp;simp only at p1 p2 p3 p4 p5 p6;have hsl : (Cx fl T).length ≤ T.length := List.length_filter_le _ _;have hT50 : T.length ≤ 50 := by omega
 by_cases hlt : i < A.length;rotate_left
 · obtain rfl : i = A.length := by omega
   have hfi := (Pl p2 (by omega)).fine;simp (disch := omega) only [Afx, Eo, Hb, List.length_map, go_sem];refine Aa (Aps (S := Am T) (L := Cx fl T) hfi rfl) ?_;simp (disch := omega) only [Ba, A6, go_sem];refine Aa (Ws (Uj p2 (by omega)) (Ui p2)) ?_;simp (disch := omega) only [Ba, A6, go_sem];refine Aa (Apx (s := Am T) hfi) ?_;simp (disch := omega) only [go_sem]
 have hx : A[i]? = some A[i] := List.getElem?_eq_getElem hlt;have he : (A.map J0)[i]? = some (J0 A[i]) := by rw [List.getElem?_map, hx]; rfl
 generalize A[i] = a at *;have hal := Lf a;obtain ⟨r, hr, hr5⟩ : ∃ r : Nat, (IntKind.u64.wrap a.kind).tmod 5 = r ∧ r < 5 := by
  obtain ⟨r, h1, h2⟩ := Acn a.kind 5;exact ⟨r, h1, h2 (by decide)⟩
 have hi := Pl p2 (by omega);by_cases r3 : r = 3
 · subst r3;have hle := Auu (v := a.v) p4;simp (disch := omega) only [Afx, Eo, Hb, List.length_map, he, W5, hal, Q1, hr, Oi, go_sem];refine Aa (Av6 (S := Am T) (L := Cx fl T) a.v (by omega) rfl) ?_;rw [An8];simp (disch := omega) only [Oi, go_sem];refine Aa (Av5 (T := T) (fl := fl) a.v (by omega) fun _ _ => trivial) ?_;generalize Kz (Am T) fl a.v = fl' at *;have hsl' : (Cx fl' T).length ≤ T.length := List.length_filter_le _ _;simp (disch := omega) only [Eo, Hb, go_sem];refine Aa (M9 (S := Am T) (L := Cx fl' T) rfl) ?_;rw [C4];simp (disch := omega) only [go_sem];refine Aa (Ji (l := T) (by omega)) ?_;have c1 := Dr (vE (Bh T));have c2 := Jv (Bh T);simp (disch := omega) only [c1, c2, go_sem];refine Aa (Qv (S := Am T) (L := Cx fl' T) rfl) ?_;have c3 := Dr (vE (fl'));have c4 := Jv (fl');simp (disch := omega) only [c3, c4, go_sem];refine Aa (Wo (S := Am T) (L := Cx fl' T) rfl) ?_;simp (disch := omega) only [go_sem];refine Aa (Aa8 (T := T) (fl := fl') (by omega)) ?_;simp (disch := omega) only [go_sem];refine Ad (x := (i, T, fl, j)) (i + 1, T, fl', j) _ _ rfl ⟨by show i + 1 ≤ _; omega, p2, p3, hle, p5, p6⟩ (by show A.length - (i + 1) < A.length - i; omega) ?_ ?_
   · (try simp only [B9, B0, Bz, Bx, Bw, Bv, Bu, Bt]); simp (disch := omega) only [go_sem]
   · (try simp only [B9, B0, Bz, Bx, Bw, Bv, Bu, Bt]); simp (disch := omega) only [Eo, Hb, go_sem]
 by_cases r4 : r = 4
 · subst r4;by_cases hv : J1 fl a.v
   · simp (disch := omega) only [Afx, Eo, Hb, List.length_map, he, W5, hal, Q1, hr, Oi, go_sem];refine Aa (Adm (T := T) (fl := fl) (v := a.v) (by omega) hv) ?_;rw [← Ail hv];simp (disch := omega) only [Oi, Aw3, go_sem];refine Aa (A1w (S := Am T) (L := Cx fl T) a.v a.stop hv (fun e he => ⟨(p5 e ((List.mem_filter.1 he).1)).1.ev, (p5 e ((List.mem_filter.1 he).1)).2⟩) (by omega) rfl) ?_;simp (disch := omega) only [Eo, Hb, go_sem];refine Aa (M9 (S := Am T) (L := Cx fl T) rfl) ?_;rw [C4];simp (disch := omega) only [go_sem];refine Aa (Ji (l := T) (by omega)) ?_;have c1 := Dr (vE (Bh T));have c2 := Jv (Bh T);simp (disch := omega) only [c1, c2, go_sem];refine Aa (Qv (S := Am T) (L := Cx fl T) rfl) ?_;have c3 := Dr (vE (fl));have c4 := Jv (fl);simp (disch := omega) only [c3, c4, go_sem];refine Aa (Wo (S := Am T) (L := Cx fl T) rfl) ?_;simp (disch := omega) only [go_sem];refine Aa (Aa8 (T := T) (fl := fl) (by omega)) ?_;simp (disch := omega) only [go_sem];refine Ad (x := (i, T, fl, j)) (i + 1, T, fl, j) _ _ rfl ⟨by show i + 1 ≤ _; omega, p2, p3, p4, p5, p6⟩ (by show A.length - (i + 1) < A.length - i; omega) ?_ ?_
     · (try simp only [B9, B0, Bz, Bx, Bw, Bv, Bu, Bt]); simp (disch := omega) only [go_sem]
     · (try simp only [B9, B0, Bz, Bx, Bw, Bv, Bu, Bt]); simp (disch := omega) only [Eo, Hb, go_sem]
   · simp (disch := omega) only [Afx, Eo, Hb, List.length_map, he, W5, hal, Q1, hr, Oi, go_sem];refine Aa (Aa3 (T := T) (fl := fl) (v := a.v) hv) ?_;simp (disch := omega) only [Oi, go_sem];refine Aa (Aa4 (S := Am T) (L := Cx fl T) a.v hv rfl) ?_;simp (disch := omega) only [Eo, Hb, go_sem];refine Aa (M9 (S := Am T) (L := Cx fl T) rfl) ?_;rw [C4];simp (disch := omega) only [go_sem];refine Aa (Ji (l := T) (by omega)) ?_;have c1 := Dr (vE (Bh T));have c2 := Jv (Bh T);simp (disch := omega) only [c1, c2, go_sem];refine Aa (Qv (S := Am T) (L := Cx fl T) rfl) ?_;have c3 := Dr (vE (fl));have c4 := Jv (fl);simp (disch := omega) only [c3, c4, go_sem];refine Aa (Wo (S := Am T) (L := Cx fl T) rfl) ?_;simp (disch := omega) only [go_sem];refine Aa (Aa8 (T := T) (fl := fl) (by omega)) ?_;simp (disch := omega) only [go_sem];refine Ad (x := (i, T, fl, j)) (i + 1, T, fl, j) _ _ rfl ⟨by show i + 1 ≤ _; omega, p2, p3, p4, p5, p6⟩ (by show A.length - (i + 1) < A.length - i; omega) ?_ ?_
     · (try simp only [B9, B0, Bz, Bx, Bw, Bv, Bu, Bt]); simp (disch := omega) only [go_sem]
     · (try simp only [B9, B0, Bz, Bx, Bw, Bv, Bu, Bt]); simp (disch := omega) only [Eo, Hb, go_sem]
 have n3 : ¬ (r : Int) = 3 := by omega
 have n4 : ¬ (r : Int) = 4 := by omega
 by_cases hj : j < l.length;rotate_left
 · obtain rfl : j = l.length := by omega
   have hd : l.drop l.length = [] := List.drop_length;simp (disch := omega) only [Afx, Eo, Hb, hd, List.map_nil, List.length_nil, List.length_map, he, W5, hal, Q1, hr, n3, n4, go_sem];refine Ad (x := (i, T, fl, l.length)) (i + 1, T, fl, l.length) _ _ rfl ⟨by show i + 1 ≤ _; omega, p2, p3, p4, p5, p6⟩ (by show A.length - (i + 1) < A.length - i; omega) ?_ ?_
   · (try simp only [B9, B0, Bz, Bx, Bw, Bv, Bu, Bt]); simp (disch := omega) only [hd, List.map_nil, go_sem]
   · (try simp only [B9, B0, Bz, Bx, Bw, Bv, Bu, Bt]); simp (disch := omega) only [Eo, Hb, go_sem]
 · have hd : l.drop j = l[j] :: l.drop (j + 1) := List.drop_eq_getElem_cons hj;have hmem := List.getElem_mem hj;have hel := Ac l[j];have hei := hin _ hmem;have hce := (hl _ hmem).2;have hll : (l.drop (j + 1)).length = l.length - (j + 1) := by simp
   generalize l[j] = e at *;obtain ⟨q1, q2⟩ := Azh (e := e) p2 p4 hce;have hto := Au0 p2 hei.ev;have hle := A0k p2 hei.ev p4;have h0e : ((e :: l.drop (j + 1)).map Be)[0]? = some (Be e) := rfl;have hd1 : ((e :: l.drop (j + 1)).map Be).drop 1 = (l.drop (j + 1)).map Be := rfl;have htm : ∀ x ∈ Jz T e, EvIn x ∧ Hn x = x := fun x hx => by
    unfold Jz at hx;split at hx
    · rcases List.mem_append.1 hx with hx | hx
      · exact p5 x hx
      · rw [List.mem_singleton] at hx; subst hx; exact ⟨hei, hce⟩
    · exact p5 x hx
   simp (disch := omega) only [Afx, Eo, Hb, hd, List.length_map, List.length_cons, he, W5, hal, Q1, hr, n3, n4, h0e, Bj, hel, go_sem];refine Aa (Aqj (S := Am T) (L := Cx fl T) hi hei.ev (by omega) rfl) ?_;rw [q1, q2];simp (disch := omega) only [h0e, Bj, hel, List.length_map, List.length_cons, go_sem];refine Aa (Aqi (T := T) (fl := fl) p2 (by omega) hei) ?_;simp (disch := omega) only [Eo, Hb, go_sem];refine Nx ?_;have htl := hto.2;have hT51 : (Jz T e).length ≤ 51 := by omega
   have hsl' : (Cx fl (Jz T e)).length ≤ (Jz T e).length := List.length_filter_le _ _;have htv := hto.1;generalize Jz T e = T' at *;simp (disch := omega) only [hd1, List.length_map, List.length_cons, Eo, Hb, go_sem];refine Aa (M9 (S := Am T') (L := Cx fl T') rfl) ?_;rw [C4];simp (disch := omega) only [go_sem];refine Aa (Ji (l := T') (by omega)) ?_;have c1 := Dr (vE (Bh T'));have c2 := Jv (Bh T');simp (disch := omega) only [c1, c2, go_sem];refine Aa (Qv (S := Am T') (L := Cx fl T') rfl) ?_;have c3 := Dr (vE (fl));have c4 := Jv (fl);simp (disch := omega) only [c3, c4, go_sem];refine Aa (Wo (S := Am T') (L := Cx fl T') rfl) ?_;simp (disch := omega) only [go_sem];refine Aa (Aa8 (T := T') (fl := fl) (by omega)) ?_;simp (disch := omega) only [go_sem];refine Ad (x := (i, T, fl, j)) (i + 1, T', fl, j + 1) _ _ rfl ⟨by show i + 1 ≤ _; omega, htv, by show T'.length ≤ 25 + (j + 1); omega, hle, htm, by show j + 1 ≤ _; omega⟩ (by show A.length - (i + 1) < A.length - i; omega) ?_ ?_
   · have hdd : List.drop (Int.toNat 1) (List.take ((List.drop (j + 1) l).length + 1) (List.map Be (e :: List.drop (j + 1) l))) = List.map Be (List.drop (j + 1) l) := by
      rw [List.take_of_length_le (by simp)]; rfl
     (try simp only [B9, B0, Bz, Bx, Bw, Bv, Bu, Bt]); simp (disch := omega) only [hdd, go_sem]
   · (try simp only [B9, B0, Bz, Bx, Bw, Bv, Bu, Bt]); simp (disch := omega) only [Eo, Hb, go_sem]
theorem A41 {cs : List PV} (h : GC (.st [.int .i64, .arr 8 (.int .u32), .int .i64]) cs) : ∃ a : HAct, cs = J0 a ∧ True := by
 simp only [GC] at h;simp only [GCL] at h;obtain ⟨c0, r0, rfl, ⟨n0, rfl, w0⟩, c1, r1, rfl, g1, c2, r2, rfl, ⟨n2, rfl, w2⟩, rfl⟩ := h;obtain ⟨a, rfl, ha⟩ := Az3 (by simp only [GC]; exact g1);exact ⟨⟨n0, a, n2⟩, by simp [J0], trivial⟩
theorem Rc {c0 c1 c2 : List PV} (g0 : GC (.sl V8) c0) (g1 : GC (.sl V8) c1) (g2 : GC (.sl (.st [.int .i64, .arr 8 (.int .u32), .int .i64])) c2) {h d} :
 FunOk Tryz.prog 4 [I8 (.sl V8) c0, I8 (.sl V8) c1, I8 (.sl (.st [.int .i64, .arr 8 (.int .u32), .int .i64])) c2] h d (.pv (.b true)) [] := by
 obtain ⟨l0, rfl, h0⟩ := Ajy g0;obtain ⟨l, rfl, hl⟩ := Ajy g1;obtain ⟨es, rfl, _, g⟩ := Ajx g2;obtain ⟨A, rfl, _⟩ := Xl (f := J0) (p := fun _ => True) A41 g;exact Alo h0 hl
end Go.Proofs.YthmjebkldgdeiaaGreat.Fw
