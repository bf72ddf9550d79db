/- What the functions compute that the laws of this seat reach. -/
import Derived.Test.YthmjebkldgdeiaaGreatWalk2
import Derived.OpenShut
import Derived.ShutString
import Derived.ChangeOld
import Derived.SizedLaws
import Derived.ChangeOld
import Derived.Lib.Bytealg
import Derived.Lib.Overlaps
import Derived.OpenShut
import Derived.ShutString
import Derived.SizedLaws
set_option linter.unusedVariables false
set_option linter.unusedSimpArgs false
set_option linter.unusedSectionVars false
set_option maxRecDepth 100000
namespace Go.Proofs.YthmjebkldgdeiaaGreat.Fw
open Go.RowKit Go.Proofs
theorem W2 (v : Vc) : Ec [K1.int .u32, .int .u32, .int .u32, .int .u32, .int .u32, .int .u32, .int .u32, .int .u32] (vE v) = True := eq_true rfl
theorem A22 (v : Nat → Int) : Ec [K1.int .i64, .int .i64, .int .i64, .int .i64, .int .i64, .int .i64, .int .i64, .int .i64] (iE v) = True := eq_true rfl
theorem A21 (v : Nat → Bool) : Ec [K1.bool, .bool, .bool, .bool, .bool, .bool, .bool, .bool] (wE v) = True := eq_true rfl
theorem Axi (i : Bq) : Ec [K1.int .i64, .int .u32] [.i .i64 i.1, .i .u32 i.2] = True := eq_true rfl
def Afd (s : St) (k : Nat) : FS := mk [(5, .pv (.i .i64 k)), (2, .p 2 0), (3, .p 3 0)] [(2, some (.var (.agg (A5 s)))), (3, some (.var (.agg (A5 s))))]
set_option maxHeartbeats 2000000 in
theorem Aph {s : St} (hs : Fine s) {h d} : FunOk Tryz.prog 20 [.agg (A5 s), .agg (A5 s)] h d (.pv (.b true)) [] := by
 refine Ap Ag fn20 (by simp) rfl rfl fun F => ?_;have p1 := Gm (vE s.known);have p2 := Gm (iE s.wards);have p3 := Gm (wE s.ret);have f1 := W2 s.known;have f2 := A22 s.wards;have f3 := A21 s.ret;simp (disch := omega) only [ir20, A5, A3, p1, p2, p3, f1, f2, f3, go_sem];refine Aa (Apg (l := s.ents) rfl rfl rfl (Nat.le_trans hs.en (by omega))) ?_;simp (disch := omega) only [List.length_map, go_sem];refine A1 Ag (Afd s) (fun k => k ≤ s.objs.length) (fun k => s.objs.length - k) 0 (by simp) (Ak ?_ ?_) fun k hk => ?_
 · simp (disch := omega) only [go_sem]
 · simp (disch := omega) only [A5, A3, go_sem]
 by_cases hlt : k < s.objs.length
 · have h2 : (s.objs.map Ar)[k]? = some (Ar s.objs[k]) := by simp [hlt]
   have hvk := hs.ov _ (List.getElem_mem hlt);have hon := hs.on;generalize s.objs[k] = o at *;have hol := Et o;have q1 := Gm [.i .i64 o.id.1, .i .u32 o.id.2];have q2 := Gm [.i .i64 o.last.1, .i .u32 o.last.2];have q3 := Gm (vE o.seen);have q4 := W2 o.seen;simp (disch := omega) only [Afd, A5, A3, List.length_map, go_sem];refine Re ?_;simp (disch := omega) only [h2, List.length_map, Fv, hol, Hf, Ev, Hz, Agb, Lu, E2, Axi, q1, q2, q3, q4, go_sem];refine Aa (A1f (l := o.vers) (m := o.vers) rfl rfl rfl (by omega)) ?_;simp (disch := omega) only [go_sem];refine Ad (k + 1) _ _ rfl (by omega) (by omega) ?_ ?_
   · simp (disch := omega) only [go_sem]
   · simp (disch := omega) only [A5, A3, go_sem]
 · obtain rfl : k = s.objs.length := by omega
   simp (disch := omega) only [Afd, A5, A3, List.length_map, go_sem]
noncomputable def Az4 (f : Bool) (l : List Evt) (k : Nat) : FS := mk [(4, .pv (.i .i64 k)), (3, .os 40), (0, .pv (.sl f 21 (l.map A9)))] [(40, some (.row 21 ((Me (l.take k)).map A9)))]
structure EvIn (e : Evt) : Prop where
 ev : ev e
 dep : ∀ i, i < 8 → e.dep i < 4294967296
set_option maxHeartbeats 4000000 in
theorem A1e {f : Bool} {l : List Evt} {h d} (hn : l.length ≤ 400) (hev : ∀ e ∈ l, EvIn e) : FunOk Tryz.prog 11 [.pv (.sl f 21 (l.map A9))] h d (.pv (.sl false 21 ((Me l).map A9))) [] := by
 refine Qz Ag fn11 (by simp) rfl fun F => ?_;simp (disch := omega) only [ir11, go_sem];refine A1 Ag (Az4 f l) (fun k => k ≤ l.length) (fun k => l.length - k) 0 (by simp) (Rr 3 40 21 rfl (by omega) (Ak ?_ ?_)) fun k hk => ?_
 · simp (disch := omega) only [go_sem]
 · simp (disch := omega) only [Me, List.take_zero, List.foldl_nil, List.map_nil, go_sem]
 by_cases hlt : k < l.length
 · have hx : l[k]? = some l[k] := List.getElem?_eq_getElem hlt;have he : (l.map A9)[k]? = some (A9 l[k]) := by rw [List.getElem?_map, hx]; rfl
   have ht := C0 hx;have hsn := Vj (l.take k) l[k];rw [← ht] at hsn;obtain ⟨t1, t2, t3⟩ := Acg (l.take k) fun e he => (hev e (List.mem_of_mem_take he)).ev;have tl : (Me (l.take k)).length ≤ 400 := by have := List.length_take_le k l; omega
   have hek := hev _ (List.getElem_mem hlt);generalize l[k] = e at *;have hel := Ac e;generalize hT : Me (l.take k) = T at *;have hin := O4 t1 tl;simp (disch := omega) only [Az4, hT, go_sem];refine Aa (Ap4 (T8 t1 tl) (T7 t1) rfl) ?_;simp (disch := omega) only [List.length_map, he, Bf, hel, go_sem];refine ⟨rfl, Aa (Ay6 hin hek.ev hek.dep) ?_⟩;by_cases hw : Ed (An T) e = 0
   · have e1 : Anu T e = T ++ [e] := if_pos hw;rw [e1] at hsn;simp (disch := omega) only [hw, List.length_map, he, Bf, hel, go_sem];refine ⟨k + 1, by omega, by omega, D2 25 40 (by decide) rfl (Ak ?_ ?_)⟩
     · simp (disch := omega) only [go_sem]
     · simp (disch := omega) only [hsn, List.map_append, List.map_cons, List.map_nil, go_sem]
   · have e1 : Anu T e = T := if_neg hw;rw [e1] at hsn;simp (disch := omega) only [hw, go_sem];refine Ad (k + 1) _ _ rfl (by omega) (by omega) ?_ ?_
     · simp (disch := omega) only [go_sem]
     · simp (disch := omega) only [hsn, go_sem]
 · obtain rfl : k = l.length := by omega
   have htk : l.take l.length = l := List.take_length;simp (disch := omega) only [Az4, List.length_map, htk, go_sem]
def Ay0 (e : Evt) : Prop := e.name.length ≤ 30 ∧ e.data.length ≤ 250 ∧ e.gone.l.length ≤ 10 ∧ e.base.l.length ≤ 10
theorem Acb (s : St) : A6 (A5 s) = [] := by simp [A5, A3, A6, tn]
abbrev Ah7 : Sh := .st [Acp, .arr 8 (.int .u32), .int .i64, Acp, Acp, .str, .sl Acp, .sl Acp, .int .i64, .str, .int .i64]
theorem Ayz {cs : List PV} (h : GC Ah7 cs) : ∃ e : Evt, cs = A9 e ∧ (∀ i, i < 8 → e.dep i < 4294967296) ∧ e.gone = ⟨false, 2, e.gone.l⟩ ∧ e.base = ⟨false, 2, e.base.l⟩ := by
 simp only [GC] at h;simp only [GCL] at h;obtain ⟨c0, r0, rfl, g0, c1, r1, rfl, g1, c2, r2, rfl, ⟨n2, rfl, w2⟩, c3, r3, rfl, g3, c4, r4, rfl, g4, c5, r5, rfl, ⟨s5, rfl, w5⟩, c6, r6, rfl, g6, c7, r7, rfl, g7, c8, r8, rfl, ⟨n8, rfl, w8⟩, c9, r9, rfl, ⟨s9, rfl, w9⟩, c10, r10, rfl, ⟨n10, rfl, w10⟩, rfl⟩ := h;obtain ⟨b0, rfl, hb0⟩ := Ae4 (by simp only [GC]; exact g0);obtain ⟨a, rfl, ha⟩ := At7 (by simp only [GC]; exact g1);obtain ⟨b3, rfl, hb3⟩ := Ae4 (by simp only [GC]; exact g3);obtain ⟨b4, rfl, hb4⟩ := Ae4 (by simp only [GC]; exact g4);obtain ⟨e6, rfl, l6, g6⟩ := At8 (s := Acp) (by simp only [GC]; exact g6);obtain ⟨e7, rfl, l7, g7⟩ := At8 (s := Acp) (by simp only [GC]; exact g7);obtain ⟨m6, rfl, _⟩ := Abp (f := Eb) Ae4 g6;obtain ⟨m7, rfl, _⟩ := Abp (f := Eb) Ae4 g7;exact ⟨⟨b0.1, b0.2, a, n2, b3.1, b3.2, b4.1, b4.2, s5, ⟨false, 2, m6⟩, ⟨false, 2, m7⟩, n8, s9, n10⟩, by simp [A9, Eb, SlI.pv]; rfl, ha, rfl, rfl⟩
structure EvRaw (e : Evt) : Prop where
 dep : ∀ i, i < 8 → e.dep i < 4294967296
 gone : e.gone.ok
 base : e.base.ok
theorem A05 {e : Evt} (h : EvRaw e) (k : Ay0 e) : EvIn e := by
 obtain ⟨k1, k2, k3, k4⟩ := k;exact ⟨⟨h.gone, h.base, by omega, by omega, by omega⟩, h.dep⟩
structure GrewO (x y : Obj) : Prop where
 id : y.id = x.id
 dir : y.dir = x.dir
 seen : Rn x.seen y.seen
 len : x.vers.length ≤ y.vers.length
theorem GrewO.trans {x y z : Obj} (h : GrewO x y) (k : GrewO y z) : GrewO x z := ⟨k.id.trans h.id, k.dir.trans h.dir, fun i hi => Nat.le_trans (h.seen i hi) (k.seen i hi), Nat.le_trans h.len k.len⟩
structure Wd where
 w : Nat → Int
 v : Vc
 r : Nat → Bool
end Go.Proofs.YthmjebkldgdeiaaGreat.Fw
namespace Go.Proofs.YthmjebkldgdeiaaGreat.Fw
open Go.RowKit Go.Proofs
variable {P : Program}
theorem Arz (hm : P.follows .mixedOrders = true) {f N' : Nat} {rs : List Rv} {c : C} (hf : A7 P f = some (N', rs, c)) {args : List SV} {h : Nat → Option Blk} {d : Nat} {x : SV} (hlen : args.length ≤ N')
 (hargs : SV.closedL args = true) (hx : x.closed = true) (hrun : ∀ F, sx (Q4 P F N') c (Ahp rs fun y g => ∃ n, y = .p n 0 ∧ g.h n = some (.var x)) (mk (C9 0 args) [])) :
 FunOk P f args h d (.p d 0) [.new d (.var x)] := by
 obtain ⟨h1, h2, h3⟩ := Ch hargs;refine ⟨Cl hf, fun F N ρ s a w hR hh vs hc => ?_⟩;refine Calls.mono (Dd hm hf (h := h) hlen h2 V5 (by rw [h3]; exact hrun) hR hh hc) fun e w' he => ?_;obtain ⟨v, rfl, hg, N'', ρ', s', a', y, hR', hy, n, rfl, hn⟩ := he;rw [h1, Dk] at hR' hy;simp only [Conc] at hy;obtain ⟨b0, hy1, hy2⟩ := hy;obtain ⟨b, vs', ty, fr, u, g1, g2, g3, g4, g5, g6, g7⟩ := hR'.own n _ hn;have hown : ∀ b, Cq (ρ' n) = some b → w.heap.size ≤ b ∧ b < w'.heap.size := fun b hb => by
  have ho : Cp ρ' s'.h b := ⟨n, _, hn, hb⟩
  exact ⟨(hR'.may b ho).resolve_right id, hR'.lt ho⟩
 have hle : (vw ⟨w, fun _ => False, F.out ρ s.h, fun _ => undef, []⟩ w' ρ' s').le (A0 w' (F.out (upd ρ d (ρ' n)) ((s.kill d).seth d (some (.var x))).h)) := Bl fun b' c' hno hc' => ⟨fun hb' => hno (by
  rcases hb' with ⟨m, z, hm1, hm2⟩ | hb'
  · simp only [FS.seth, FS.kill] at hm1;by_cases hmd : m = d
    · subst hmd;rw [Ay] at hm2;exact .inl ⟨n, _, hn, hm2⟩
    · rw [Br hmd] at hm2;simp only [hmd, if_false] at hm1;obtain ⟨z', hz', _⟩ := Option.map_eq_some_iff.1 hm1;exact .inr (.inl ⟨m, z', hz', hm2⟩)
  · exact .inr (.inr hb')), hc'⟩
 have hnew := hR.adopt hg d (.var x) (ρ' n) hown fun hV => ⟨b, vs', ty, fr, u, by rw [Ay]; exact g1, g2, g3, Cb hle hx g4, g5, g6, g7⟩
 refine ⟨v, _, rfl, hnew.1, ?_⟩;simp only [Conc];exact ⟨b0, by rw [Ay]; exact hy1, hy2⟩
end Go.Proofs.YthmjebkldgdeiaaGreat.Fw
namespace Go.Proofs.YthmjebkldgdeiaaGreat.Fw
open Go.RowKit Go.Proofs
theorem Yp {f : Bool} {z : Nat} {es : List (List PV)} {h d} (hz : es = [] ∨ z = 2) (hb : es.length ≤ 1000) : FunOk Tryz.prog 98 [.pv (.sl f z es)] h d (.pv (.sl false 2 es)) [] := by
 refine Qz Ag fn98 (by simp) rfl fun F => ?_;simp (disch := omega) only [ir98, go_sem];intro b hb';cases b
 · simp (disch := omega) only [go_sem]
 · have he : es = [] := by
    cases es with
    | nil => rfl
    | cons c l => exact absurd (hb' (by simp)) (by simp)
   subst he
   (try simp only [Ca, B9, B0, Bz, Bx, Bw, Bv, Bu]); simp (disch := omega) only [go_sem]
   decide
theorem Qh {f : Bool} {z : Nat} {es : List (List PV)} (hz : es = [] ∨ z = 21) {h d} : FunOk Tryz.prog 69 [.pv (.sl f z es)] h d (.pv (.sl true z es)) [] := by
 refine Ap Ag fn69 (by simp) rfl rfl fun F => ?_;have e := List.take_length (l := es);simp (disch := omega) only [ir69, hz, e, List.drop_zero, go_sem]
def G1 (e : Evt) : Evt := { e with gone := ⟨false, 2, e.gone.l⟩, base := ⟨false, 2, e.base.l⟩ }
theorem Ax9 {e : Evt} (h : ev e) : ev (G1 e) := ⟨.inr rfl, .inr rfl, h.2.2.1, h.2.2.2.1, h.2.2.2.2⟩
theorem An6 (e : Evt) (g : SlI) : splice (A9 e) 16 [g.pv] = A9 { e with gone := g } := by
 simp only [splice, A9, vE, Cu]; rfl
theorem An8 (e : Evt) (g : SlI) : splice (A9 e) 17 [g.pv] = A9 { e with base := g } := by
 simp only [splice, A9, vE, Cu]; rfl
theorem Ky (e : Evt) (he : ev e) {h d} : FunOk Tryz.prog 57 [.vec 21 (A9 e)] h d (.vec 21 (A9 (G1 e))) [] := by
 refine Ap Ag fn57 (by simp) rfl rfl fun F => ?_;obtain ⟨h1, h2, h3, h4, h5⟩ := he;have hg : e.gone.pv = .sl e.gone.f e.gone.z (e.gone.l.map Eb) := rfl;have hb : e.base.pv = .sl e.base.f e.base.z (e.base.l.map Eb) := rfl;have hel := Ac e;have s1 := An6 e ⟨false, 2, e.gone.l⟩;have s2 := An8 { e with gone := ⟨false, 2, e.gone.l⟩ } ⟨false, 2, e.base.l⟩;simp only [SlI.pv] at s1 s2;simp (disch := omega) only [ir57, Ga, Fk, hg, hb, go_sem];refine Aa (Yp (es := e.gone.l.map Eb) (h1.imp (fun q => by rw [q]; rfl) id) (by rw [List.length_map]; omega)) ?_;simp (disch := omega) only [Fk, hb, go_sem];refine Aa (Yp (es := e.base.l.map Eb) (h2.imp (fun q => by rw [q]; rfl) id) (by rw [List.length_map]; omega)) ?_;simp (disch := omega) only [hel, s1, s2, Bf, go_sem];rfl
def Aor (S : St) (fl : Vc) (f : Bool) (z : Nat) (L : List Evt) : List SV := A5 S ++ [.vec 8 (vE fl), .pv (.sl f z (L.map A9))]
def X0 (S : St) (fl : Vc) (L : List Evt) : SV := .agg (Aor S fl false 21 L)
theorem Apc {S : St} (hS : Fine S) {h d} : FunOk Tryz.prog 23 [.agg (A5 S)] h d (.p d 0) [.new d (.var (X0 S S.known []))] := by
 refine Arz Ag fn23 (by simp) rfl rfl fun F => ?_;simp (disch := omega) only [ir23, A5, A3, go_sem];refine Aa (Sc (s := S) hS) ?_;simp (disch := omega) only [A5, A3, go_sem];have hi : Imp (.agg (A5 S ++ [.vec 8 (vE S.known), .pv (.sl true 0 [])])) (X0 S S.known []) :=
  Ad2 (l := [.vec 8 (vE S.known), .pv (.sl false 15 (S.objs.map Ar)), .pv (.sl false 15 (S.ents.map Bm)), .vec 8 (iE S.wards), .vec 8 (wE S.ret), .vec 8 (vE S.known), .pv (.sl true 0 [])]) (m := [.vec 8 (vE S.known), .pv (.sl false 15 (S.objs.map Ar)), .pv (.sl false 15 (S.ents.map Bm)), .vec 8 (iE S.wards), .vec 8 (wE S.ret), .vec 8 (vE S.known), .pv (.sl false 21 [])]) ⟨⟨Imp.refl _, rfl⟩, ⟨Imp.refl _, rfl⟩, ⟨Imp.refl _, rfl⟩, ⟨Imp.refl _, rfl⟩, ⟨Imp.refl _, rfl⟩, ⟨Imp.refl _, rfl⟩, ⟨Sv (He (fun q => by cases q) (.inl rfl) (.refl _)), rfl⟩, trivial⟩
 refine ⟨mk [(2, .p 8 0)] [(8, some (.var (X0 S S.known [])))], Ak ?_ ?_, ?_⟩
 · simp (disch := omega) only [go_sem]
 · simp (disch := omega) only [go_sem];exact ⟨hi, rfl⟩
 (try simp only [Ca, B9, B0, Bz, Bx, Bw, Bv, Bu]); simp (disch := omega) only [go_sem]
 exact ⟨8, rfl, if_pos rfl⟩
end Go.Proofs.YthmjebkldgdeiaaGreat.Fw
namespace Go.Proofs.YthmjebkldgdeiaaGreat.Fw
open Go.RowKit Go.Proofs
theorem Apn {S : St} {fl : Vc} {L : List Evt}  {g : Nat} {h d} (hg : h g = some (.var (X0 S fl L))) : FunOk Tryz.prog 18 [.p g 0] h d (.vec 8 (vE S.known)) [] := by
 refine FunOk.quiet (g := g) (blk := .var (X0 S fl L)) ?_ hg (by simp [A6, tn]);refine FunOk.io (fun h d hg => ?_) rfl rfl rfl rfl hg;refine Kb (g := 900) Ag fn18 (by simp) (by simp [A6, tn]) (by simp [A6, tn]) hg rfl (by simp [Blk.ptr, SV.kill]) rfl (fun _ => rfl) fun F => ?_;simp (disch := omega) only [ir18, X0, Aor, A5, A3, Blk.ptr, List.length_map, List.cons_append, List.nil_append, go_sem]
 skip
 refine ⟨_, .same _, ?_⟩
 (try simp only [Ca, B9, B0, Bz, Bx, Bw, Bv, Bu]); simp (disch := omega) only [go_sem]
 exact ⟨900, rfl, rfl⟩
theorem A1k {S : St} {fl : Vc} {L : List Evt}  {g : Nat} {h d} (hg : h g = some (.var (X0 S fl L))) : FunOk Tryz.prog 17 [.p g 0] h d (.pv (.i .i64 L.length)) [] := by
 refine FunOk.quiet (g := g) (blk := .var (X0 S fl L)) ?_ hg (by simp [A6, tn]);refine FunOk.io (fun h d hg => ?_) rfl rfl rfl rfl hg;refine Kb (g := 900) Ag fn17 (by simp) (by simp [A6, tn]) (by simp [A6, tn]) hg rfl (by simp [Blk.ptr, SV.kill]) rfl (fun _ => rfl) fun F => ?_;simp (disch := omega) only [ir17, X0, Aor, A5, A3, Blk.ptr, List.length_map, List.cons_append, List.nil_append, go_sem]
 skip
 refine ⟨_, .same _, ?_⟩
 (try simp only [Ca, B9, B0, Bz, Bx, Bw, Bv, Bu]); simp (disch := omega) only [go_sem]
 exact ⟨900, rfl, rfl⟩
def Am6 (m : Nat) (v : Vc) (L : List Evt) : SV := .fn (.func m) [.pi 1 [[.sl true 21 (L.map A9)]] 0 0, .pi 8 [vE v] 0 0]
theorem Ape {S : St} {fl : Vc} {L : List Evt} (v : Vc) (hv : Rn fl v) {g : Nat} {h d} (hg : h g = some (.var (X0 S fl L))) : FunOk Tryz.prog 28 [.p g 0, .vec 8 (vE v)] h d (.tup [Am6 70 v L, .pv (.i .i64 0)]) [] := by
 refine FunOk.quiet (g := g) (blk := .var (X0 S fl L)) ?_ hg (by simp [A6, tn]);refine FunOk.io (fun h d hg => ?_) rfl rfl rfl rfl hg;refine Kb (g := 900) Ag fn28 (by simp) (by simp [A6, tn]) (by simp [A6, tn]) hg rfl (by simp [Blk.ptr, SV.kill]) rfl (fun _ => rfl) fun F => ?_;have hv' := decide_eq_true hv;simp (disch := omega) only [ir28, X0, Aor, A5, A3, Blk.ptr, List.cons_append, List.nil_append, go_sem];refine Aa (Aik _ _) ?_;simp (disch := omega) only [hv', go_sem];refine Aa (Qh (.inr rfl)) ?_;simp (disch := omega) only [Am6, go_sem];refine ⟨_, Px 6 (x := .pv (.sl true 21 (L.map A9))) (cs := [.sl true 21 (L.map A9)]) rfl rfl (Px 3 (x := .vec 8 (vE v)) (cs := vE v) rfl rfl (.same _)), ?_⟩
 (try simp only [Ca, B9, B0, Bz, Bx, Bw, Bv, Bu]); simp (disch := omega) only [go_sem]
 exact ⟨900, rfl, rfl⟩
noncomputable def Zq (S : St) (e : Evt) : St := if Ed S e = 0 then E6 S e else S
open Classical in
noncomputable def Aez (S : St) (L : List Evt) (e : Evt) : List Evt := if Ed S e = 0 then L ++ [G1 e] else L
set_option maxHeartbeats 2000000 in
theorem A1v {S : St} {fl : Vc} {L : List Evt} {e : Evt} (hs : StIn S) (he : ev e) (hn : L.length ≤ 1000) {g : Nat} {h d} (hg : h g = some (.var (X0 S fl L))) : FunOk Tryz.prog 29 [.p g 0, .vec 21 (A9 e)] h d (.pv (.i .i64 (Ed S e))) [.upd g (.var (X0 (Zq S e) fl (Aez S L e)))] := by
 refine FunOk.io (fun h d hg => ?_) rfl rfl rfl rfl hg;refine Kb (g := 900) Ag fn29 (by simp) (by simp [A6, tn]) (by simp [A6, tn]) hg rfl (by simp [Blk.ptr, SV.kill]) rfl (fun _ => rfl) fun F => ?_;have hel := Ac e;have hel2 := Ac (G1 e);simp (disch := omega) only [ir29, X0, Aor, A5, A3, Blk.ptr, List.cons_append, List.nil_append, Bf, hel, go_sem];refine Aa (Aaw (s := S) hs he) ?_;by_cases hw : Ed S e = 0
 · have e1 : Afr S e = Zq S e := by unfold Afr Zq; rw [if_pos hw, if_pos hw]
   have e2 : Aez S L e = L ++ [G1 e] := if_pos hw;rw [e1, hw];simp (disch := omega) only [A5, A3, go_sem];refine Aa (Qh (.inr rfl)) ?_;simp (disch := omega) only [Bf, hel, go_sem];refine Aa (Ky e he) ?_;simp (disch := omega) only [hel2, go_sem];refine ⟨fun q => (by cases q), _, D3 34 rfl (.same _), ?_⟩
   (try simp only [Ca, B9, B0, Bz, Bx, Bw, Bv, Bu]); simp (maxSteps := 10000000) (disch := omega) only [e2, List.map_append, List.map_cons, List.map_nil, go_sem]
   exact ⟨900, rfl, rfl⟩
 · have e1 : Zq S e = S := if_neg hw;have e2 : Aez S L e = L := if_neg hw;rw [e1, e2];simp (disch := omega) only [A5, A3, hw, go_sem];refine ⟨_, .same _, ?_⟩
   (try simp only [Ca, B9, B0, Bz, Bx, Bw, Bv, Bu]); simp (disch := omega) only [go_sem]
   exact ⟨900, rfl, rfl⟩
def Ox : Evt := ⟨1, 1, fun _ => 0, 1, 0, 0, 0, 0, [97], .nil, .nil, 0, [], 0⟩
theorem Ba4 : Bo Ox = true := by
 have h1 : Iq Ox := ⟨by decide, by decide, by decide, by decide, rfl, by decide, by decide⟩
 have h2 : Om Ox := fun i _ => by simp [Ox]
 rw [Gq h1 h2, Aue rfl, Aa6 rfl];decide
theorem A76 : ev Ox := ⟨.inl rfl, .inl rfl, by decide, by decide, by decide⟩
theorem Azg : Acc (An []) Ox := ⟨Ba4, rfl, fun i _ => Nat.le_refl _, rfl, rfl⟩
theorem Ann : Ed (An []) Ox = 0 := Ri.2 Azg
theorem A8i : An [Ox] = E6 (An []) Ox := Xh (l := []) Val.nil Azg
theorem A9h : Zq (An []) Ox = An [Ox] := by unfold Zq; rw [if_pos Ann, A8i]
theorem A4h : Aez (An []) [] Ox = [G1 Ox] := by unfold Aez; rw [if_pos Ann]; rfl
theorem A23 : Fine (An []) := (O4 Val.nil (by simp)).fine
theorem A2p : Imp (.vec 8 [.i .u32 0, .i .u32 0, .i .u32 0, .i .u32 0, .i .u32 0, .i .u32 0, .i .u32 0, .i .u32 0]) (.vec 8 (vE fun _ => 0)) := Imp.refl _
theorem Bak (n : Nat) (S : St) (fl : Vc) (L : List Evt) : SV.kill n (X0 S fl L) = X0 S fl L := rfl
theorem A9w (S : St) (fl : Vc) (L : List Evt) : SV.width (X0 S fl L) = 35 := rfl
theorem Baw (n : Nat) (p : PV) (S : St) (fl : Vc) (L : List Evt) : SV.frz n p (X0 S fl L) = X0 S fl L := rfl
attribute [go_sem] Bak A9w Baw
theorem As2 (e : Evt) : G1 (G1 e) = G1 e := rfl
theorem A2d : (An []).known = fun _ => 0 := rfl
theorem Aq2 (es : List (List PV)) (f : Bool) (z : Nat) (K : KK) : LoadK (some [.sl f z es]) 0 1 false K = K (.pv (.sl f z es)) [] := by
 simp only [LoadK, Hr, eq_iff_iff];exact ⟨fun h => h.2.2, fun h => ⟨by simp, .inr trivial, h⟩⟩
theorem A5n (p : Nat) (hp : p < 1000) : ∀ q ∈ [p], q < Io := by
 intro q hq;have : Io = 1000000 := rfl;simp at hq; omega
noncomputable def An2 (l0 j : Nat) : FS := mk [(8, .pv (.i .i64 j)), (7, .pv (.i .i64 1)), (6, .pv (.sl true 21 [A9 (G1 Ox)])), (0, .fn (.yield l0) []), (2, .pi 8 [vE fun _ => 0] 0 0), (1000000, .pv (.i .i64 0)), (1000001, .p 0 0), (1000002, .p 7 0), (1000005, .p 4 0)] [(0, some (.var (.pv (.b false)))), (4, some (.var (.pv (.i .i64 j)))), (7, some (.var (X0 (An [Ox]) (fun _ => 0) [G1 Ox])))]
set_option maxHeartbeats 4000000 in
theorem Yn {h d} : FunOk Tryz.prog 9 [] h d (.pv (.b true)) [] := by
 refine Ap Ag fn9 (by simp) rfl rfl fun F => ?_;simp (disch := omega) only [ir9, go_sem];refine Aa (FunOk.imp (Apc (S := An []) A23) ⟨Acs, trivial⟩ (by simp [A6, tn, Acb])) ?_;simp (disch := omega) only [A2d, go_sem];refine Aa (FunOk.imp (A1v (S := An []) (L := []) (e := Ox) (O4 Val.nil (by simp)) A76 (by simp) rfl) ⟨Imp.refl _, Hi (cs := A9 Ox) rfl (Ac _), trivial⟩ (by simp [A6, tn])) ?_;rw [Ann, A9h, A4h];simp (disch := omega) only [go_sem];refine Aa (FunOk.imp (Ape (S := An [Ox]) (L := [G1 Ox]) (fun _ => 0) (fun i _ => Nat.le_refl _) rfl) ⟨Imp.refl _, A2p, trivial⟩ (by simp [A6, tn])) ?_;simp (disch := omega) only [Am6, go_sem];refine Aow Ag fn70 (by simp) fun l0 XI hc => ?_;rw [Aee _ _ _ (by show 3 ≤ 1000000; omega)];simp (disch := omega) only [ir70, List.map_cons, List.map_nil, List.getElem?_cons_zero, Aq2, List.length_cons, List.length_nil, go_sem];refine A1 Ag (An2 l0) (fun k => k ≤ 1) (fun k => 1 - k) 0 (by simp) (Ak ?_ ?_) fun k hk => ?_
 · simp (disch := omega) only [go_sem]
 · simp (disch := omega) only [go_sem]
 by_cases hlt : k < 1
 · obtain rfl : k = 0 := by omega
   have hel := Ac (G1 Ox);have hnm : (G1 Ox).name = [97] := rfl;have hh : Bh (fun _ => 0) (G1 Ox).rep (G1 Ox).seq = false := rfl;simp (disch := omega) only [An2, List.getElem?_cons_zero, List.length_cons, List.length_nil, Bf, hel, D9, Aq, go_sem];refine Aa (Gi _ _ _) ?_;simp (disch := omega) only [hh, Bf, hel, go_sem];refine Aa (Ky (G1 Ox) (Ax9 A76)) ?_;rw [As2];simp (disch := omega) only [go_sem];refine Ank Ag hc ?_ rfl fun XA XB => ?_
   · simp (disch := omega) only [go_sem]
   rw [Acx _ _ _ _ (A5n 30 (by decide))];simp (disch := omega) only [Bf, hel, Dp, hnm, go_sem];refine Ad (x := (0 : Nat)) (1 : Nat) _ _ rfl (by omega) (by omega) ?_ ?_
   · simp (disch := omega) only [go_sem]
   · simp (disch := omega) only [go_sem]
 · obtain rfl : k = 1 := by omega
   simp (disch := omega) only [An2, List.length_cons, List.length_nil, go_sem];refine Aa (A1k (S := An [Ox]) (L := [G1 Ox]) rfl) ?_;simp (disch := omega) only [List.length_cons, List.length_nil, go_sem];refine Aa (Apn (S := An [Ox]) (L := [G1 Ox]) rfl) ?_;have hv1 : vE (An [Ox]).known = [.i .u32 1, .i .u32 0, .i .u32 0, .i .u32 0, .i .u32 0, .i .u32 0, .i .u32 0, .i .u32 0] := by rw [Ef]; rfl
   have hpq : Qc (vE (An [Ox]).known) [.i .u32 1, .i .u32 0, .i .u32 0, .i .u32 0, .i .u32 0, .i .u32 0, .i .u32 0, .i .u32 0] = true := by rw [hv1]; exact Gm _
   have hfi := W2 (An [Ox]).known;have hf2 : Ec [K1.int .u32, .int .u32, .int .u32, .int .u32, .int .u32, .int .u32, .int .u32, .int .u32] [.i .u32 1, .i .u32 0, .i .u32 0, .i .u32 0, .i .u32 0, .i .u32 0, .i .u32 0, .i .u32 0] = True := eq_true rfl;simp (disch := omega) only [hpq, hfi, hf2, go_sem]
end Go.Proofs.YthmjebkldgdeiaaGreat.Fw
namespace Go.Proofs.YthmjebkldgdeiaaGreat.Fw
open Go.RowKit Go.Proofs
def Ajl (l : List Evt) : Prop := l.length ≤ 25 ∧ ∀ e ∈ l, Ay0 e
open Classical in
noncomputable def Y8 (l : List Evt) : Bool := decide (Ajl l)
theorem Ajc {l : List Evt} (h : Ajl l) : Y8 l = true := by simp [Y8, h]
theorem Abk {l : List Evt} (h : ¬ Ajl l) : Y8 l = false := by simp [Y8, h]
def O7 (f : Bool) (l : List Evt) (k : Nat) : FS := mk [(10, .pv (.i .i64 k)), (9, .pv (.i .i64 l.length)), (8, .pv (.sl f 21 (l.map A9)))] []
set_option maxHeartbeats 2000000 in
theorem Apu {x : SV} {f : Bool} {l : List Evt} {h d} (hx : Cn h [x] = [.pv (.sl f 21 (l.map A9))]) (hl : Be [x] = true) :
 FunOk Tryz.prog 10 [x] h d (.pv (.b (Y8 l))) [] := by
 refine Ci Ag fn10 (by simp) hl rfl fun F => ?_;rw [hx];by_cases h30 : 25 < (l.length : Int)
 · have hf := Abk (l := l) fun h => by have := h.1; omega
   simp (disch := omega) only [ir10, List.length_map, hf, go_sem]
 simp (disch := omega) only [ir10, List.length_map, go_sem];refine A1 Ag (O7 f l) (fun k => k ≤ l.length ∧ ∀ j e, j < k → l[j]? = some e → Ay0 e) (fun k => l.length - k) 0 ⟨by simp, fun j e hj => absurd hj (Nat.not_lt_zero j)⟩ (Ak ?_ ?_) fun k hk => ?_
 · simp (disch := omega) only [List.length_map, go_sem]
 · simp (disch := omega) only [go_sem]
 obtain ⟨hk1, hk2⟩ := hk;by_cases hlt : k < l.length
 · have hx' : l[k]? = some l[k] := List.getElem?_eq_getElem hlt;have he : (l.map A9)[k]? = some (A9 l[k]) := by rw [List.getElem?_map, hx']; rfl
   have hm := List.getElem_mem hlt;generalize l[k] = e at *;have hel := Ac e;have hg : e.gone.pv = .sl e.gone.f e.gone.z (e.gone.l.map Eb) := rfl;have hb : e.base.pv = .sl e.base.f e.base.z (e.base.l.map Eb) := rfl;have hno : ¬ Ay0 e → Y8 l = false := fun q => Abk fun h => q (h.2 e hm);by_cases c1 : 30 < (e.name.length : Int)
   · have hf := hno fun q => by have := q.1; omega
     simp (disch := omega) only [O7, List.length_map, he, Bf, hel, Dp, c1, hf, go_sem]
   by_cases c2 : 250 < (e.data.length : Int)
   · have hf := hno fun q => by have := q.2.1; omega
     simp (disch := omega) only [O7, List.length_map, he, Bf, hel, Dp, c1, Hg, c2, hf, go_sem]
   by_cases c3 : 10 < (e.gone.l.length : Int)
   · have hf := hno fun q => by have := q.2.2.1; omega
     simp (disch := omega) only [O7, List.length_map, he, Bf, hel, Dp, c1, Hg, c2, Ga, hg, c3, hf, go_sem]
   by_cases c4 : 10 < (e.base.l.length : Int)
   · have hf := hno fun q => by have := q.2.2.2; omega
     simp (disch := omega) only [O7, List.length_map, he, Bf, hel, Dp, c1, Hg, c2, Ga, hg, c3, Fk, hb, c4, hf, go_sem]
   simp (disch := omega) only [O7, List.length_map, he, Bf, hel, Dp, c1, Hg, c2, Ga, hg, c3, Fk, hb, c4, go_sem];refine Ad (k + 1) _ _ rfl ⟨by omega, fun j x hj hjx => ?_⟩ (by omega) ?_ ?_
   · by_cases ej : j = k
     · subst ej; rw [hx'] at hjx; cases hjx; exact ⟨by omega, by omega, by omega, by omega⟩
     · exact hk2 j x (by omega) hjx
   · simp (disch := omega) only [go_sem]
   · simp (disch := omega) only [go_sem]
 · obtain rfl : k = l.length := by omega
   have hf := Ajc (l := l) ⟨by omega, fun e he => by
    obtain ⟨j, hj⟩ := List.mem_iff_getElem?.1 he;exact hk2 j e (List.getElem?_eq_some_iff.1 hj).1 hj⟩
   simp (disch := omega) only [O7, hf, go_sem]
end Go.Proofs.YthmjebkldgdeiaaGreat.Fw
namespace Go.Proofs.YthmjebkldgdeiaaGreat.Fw
open Go.RowKit
variable {P : Program} {F : Fr} {N : Nat} {ρ ρ' : Nat → Value} {s : FS} {a : Act} {w w' : World} {V V' : View}
end Go.Proofs.YthmjebkldgdeiaaGreat.Fw
namespace Go.Proofs.YthmjebkldgdeiaaGreat.Fw
open Go.RowKit Go.Proofs
def Tn (P : Evt → Bool) (l : List Evt) : List Evt := l.filter fun v => !P v
theorem Wt {P : Evt → Bool} {l : List Evt} {k : Nat} {v : Evt} (hv : l[k]? = some v) : Tn P (l.take (k + 1)) = Tn P (l.take k) ++ if P v = true then [] else [v] := by
 unfold Tn;rw [List.take_add_one, hv, List.filter_append];congr 1;cases hp : P v <;> simp [hp]
theorem Yy (P : Evt → Bool) (l : List Evt) (k : Nat) : (Tn P (l.take k)).length ≤ k := Nat.le_trans (List.length_filter_le _ _) (by simp; omega)
theorem Sb {f : Bool} {l : List Evt} {h d} (hn : l.length ≤ 1000) : FunOk Tryz.prog 19 [.pv (.sl f 21 (l.map A9))] h d (.vec 8 (vE (Bn l))) [] := Aas rfl rfl hn
def F5 (v : Vc) (T : List Evt) : List Evt := Tn (fun e => Bh v e.rep e.seq) T
theorem Alm {a b : List Bq} (hl : a.length = b.length) (h : ∀ j, j < a.length → a.getD j (0, 0) = b.getD j (0, 0)) : a = b := by
 apply List.ext_getElem hl;intro j h1 h2;have := h j h1
 rwa [List.getD_eq_getElem?_getD, List.getD_eq_getElem?_getD, List.getElem?_eq_getElem h1, List.getElem?_eq_getElem h2] at this
theorem Arl {a : List Bq} {k : Nat} (h : k < a.length) : (a.map Eb)[k]? = some (Eb (a.getD k (0, 0))) := by
 simp [List.getD_eq_getElem?_getD, List.getElem?_eq_getElem h]
def Ah1 (f g : Bool) (y z : Nat) (a b : List Bq) (k : Nat) : FS := mk [(5, .pv (.i .i64 k)), (0, .pv (.sl f y (a.map Eb))), (1, .pv (.sl g z (b.map Eb)))] []
set_option maxHeartbeats 1000000 in
theorem Mv {f g : Bool} {y z : Nat} {a b : List Bq} {h d} (hy : a = [] ∨ y = 2) (hz : b = [] ∨ z = 2) (hn : a.length ≤ 1000) (hn' : b.length ≤ 1000) :
 FunOk Tryz.prog 104 [.pv (.sl f y (a.map Eb)), .pv (.sl g z (b.map Eb))] h d (.pv (.b (decide (a = b)))) [] := by
 refine Ci Ag fn104 (by simp) rfl rfl fun F => ?_;simp (disch := omega) only [go_sem];by_cases hlen : a.length = b.length
 · have hle : (a.length : Int) = (b.length : Int) := by omega
   simp (disch := omega) only [ir104, List.length_map, hle, go_sem];refine A1 Ag (Ah1 f g y z a b) (fun k => k ≤ a.length ∧ ∀ j, j < k → a.getD j (0, 0) = b.getD j (0, 0)) (fun k => a.length - k) 0 (by simp) (Ak ?_ ?_) fun k hk => ?_
   · simp (disch := omega) only [List.length_map, hle, go_sem]
   · simp (disch := omega) only [go_sem]
   obtain ⟨hk1, hk2⟩ := hk;by_cases hlt : k < a.length
   · have hy1 : y = 2 := hy.resolve_left fun e => by subst e; simp at hlt
     have hz1 : z = 2 := hz.resolve_left fun e => by subst e; rw [List.length_nil] at hlen; omega
     subst hy1; subst hz1;have h1 := Arl hlt;have h2 := Arl (a := b) (k := k) (by omega);have hb : k < b.length := by omega
     by_cases hd : a.getD k (0, 0) = b.getD k (0, 0)
     · rw [← hd] at h2;have hd0 := hd;generalize a.getD k (0, 0) = u at h1 h2;have hp := Gs (r := u.1) (r' := u.1) (q := u.2) (q' := u.2) ⟨rfl, rfl⟩;simp (disch := omega) only [Ah1, List.length_map, hlen, h1, h2, El, Ae, hp, go_sem];refine Ad (k + 1) _ _ rfl ⟨by omega, fun j hj => ?_⟩ (by omega) ?_ ?_
       · by_cases e : j = k
         · subst e; exact hd
         · exact hk2 j (by omega)
       · simp (disch := omega) only [go_sem]
       · simp (disch := omega) only [go_sem]
     · have hne : ¬ a = b := fun e => hd (by rw [e]);generalize a.getD k (0, 0) = u at *;generalize b.getD k (0, 0) = v at *;have hp := Fj (r := u.1) (r' := v.1) (q := u.2) (q' := v.2) fun e => hd (Prod.ext e.1 e.2);simp (disch := omega) only [Ah1, List.length_map, hlen, h1, h2, El, Ae, hp, hne, go_sem]
   · obtain rfl : k = a.length := by omega
     have he := Alm hlen hk2;subst he
     (try simp only [Ca, B9, B0, Bz, Bx, Bw, Bv, Bu]); simp (disch := omega) only [Ah1, List.length_map, go_sem]
 · have hle : ¬ (a.length : Int) = (b.length : Int) := by omega
   have hne : ¬ a = b := fun e => hlen (by rw [e]);simp (disch := omega) only [ir104, List.length_map, hle, hne, go_sem]
def Es (a b : Evt) : Bool := decide (a.rep = b.rep ∧ a.seq = b.seq) && (decide (vEq a.dep b.dep) && (decide (a.kind = b.kind) && (decide (a.orep = b.orep ∧ a.oseq = b.oseq) && (decide (a.drep = b.drep ∧ a.dseq = b.dseq) && (decide (a.name = b.name) && (decide (a.gone.l = b.gone.l) && (decide (a.base.l = b.base.l) && (decide (a.off = b.off) && (decide (a.data = b.data) && decide (a.ward = b.ward))))))))))
set_option maxHeartbeats 4000000 in
theorem Apf (a b : Evt) (ha : a.gone.ok ∧ a.base.ok ∧ a.gone.l.length ≤ 1000 ∧ a.base.l.length ≤ 1000) (hb : b.gone.ok ∧ b.base.ok ∧ b.gone.l.length ≤ 1000 ∧ b.base.l.length ≤ 1000) {h d} : FunOk Tryz.prog 65 [.vec 21 (A9 a), .vec 21 (A9 b)] h d (.pv (.b (Es a b))) [] := by
 refine Ap Ag fn65 (by simp) rfl rfl fun F => ?_;obtain ⟨a1, a2, a3, a4⟩ := ha;obtain ⟨b1, b2, b3, b4⟩ := hb;by_cases c0 : a.rep = b.rep ∧ a.seq = b.seq;rotate_left
 · have c0f := eq_false c0;have c0p : Qc [PV.i .i64 a.rep, PV.i .u32 a.seq] [PV.i .i64 b.rep, PV.i .u32 b.seq] = false := Fj c0;have eb : Es a b = false := by simp only [Es, c0f, decide_true, decide_false, Bool.true_and, Bool.false_and, Bool.and_true, Bool.and_false, Bool.and_self]
   simp (disch := omega) only [ir65, Aq, Ae, C4, Dt, c0p, eb, go_sem]
 have c0t := eq_true c0;have c0p : Qc [PV.i .i64 a.rep, PV.i .u32 a.seq] [PV.i .i64 b.rep, PV.i .u32 b.seq] = true := Gs c0;by_cases c1 : vEq a.dep b.dep;rotate_left
 · have c1f := eq_false c1;have eb : Es a b = false := by simp only [Es, c0t, c1f, decide_true, decide_false, Bool.true_and, Bool.false_and, Bool.and_true, Bool.and_false, Bool.and_self]
   simp (disch := omega) only [ir65, Aq, Ae, C4, Dt, c0p, c1f, eb, go_sem]
 have c1t := eq_true c1;by_cases c2 : a.kind = b.kind;rotate_left
 · have c2f := eq_false c2;have eb : Es a b = false := by simp only [Es, c0t, c1t, c2f, decide_true, decide_false, Bool.true_and, Bool.false_and, Bool.and_true, Bool.and_false, Bool.and_self]
   simp (disch := omega) only [ir65, Aq, Ae, C4, Dt, c0p, c1t, c2f, eb, go_sem]
 have c2t := eq_true c2;by_cases c3 : a.orep = b.orep ∧ a.oseq = b.oseq;rotate_left
 · have c3f := eq_false c3;have c3p : Qc [PV.i .i64 a.orep, PV.i .u32 a.oseq] [PV.i .i64 b.orep, PV.i .u32 b.oseq] = false := Fj c3;have eb : Es a b = false := by simp only [Es, c0t, c1t, c2t, c3f, decide_true, decide_false, Bool.true_and, Bool.false_and, Bool.and_true, Bool.and_false, Bool.and_self]
   simp (disch := omega) only [ir65, Aq, Ae, C4, Dt, c0p, c1t, c2t, c3p, eb, go_sem]
 have c3t := eq_true c3;have c3p : Qc [PV.i .i64 a.orep, PV.i .u32 a.oseq] [PV.i .i64 b.orep, PV.i .u32 b.oseq] = true := Gs c3;by_cases c4 : a.drep = b.drep ∧ a.dseq = b.dseq;rotate_left
 · have c4f := eq_false c4;have c4p : Qc [PV.i .i64 a.drep, PV.i .u32 a.dseq] [PV.i .i64 b.drep, PV.i .u32 b.dseq] = false := Fj c4;have eb : Es a b = false := by simp only [Es, c0t, c1t, c2t, c3t, c4f, decide_true, decide_false, Bool.true_and, Bool.false_and, Bool.and_true, Bool.and_false, Bool.and_self]
   simp (disch := omega) only [ir65, Aq, Ae, C4, Dt, c0p, c1t, c2t, c3p, c4p, eb, go_sem]
 have c4t := eq_true c4;have c4p : Qc [PV.i .i64 a.drep, PV.i .u32 a.dseq] [PV.i .i64 b.drep, PV.i .u32 b.dseq] = true := Gs c4;by_cases c5 : a.name = b.name;rotate_left
 · have c5f := eq_false c5;have eb : Es a b = false := by simp only [Es, c0t, c1t, c2t, c3t, c4t, c5f, decide_true, decide_false, Bool.true_and, Bool.false_and, Bool.and_true, Bool.and_false, Bool.and_self]
   simp (disch := omega) only [ir65, Aq, Ae, C4, Dt, c0p, c1t, c2t, c3p, c4p, c5f, eb, go_sem]
 have c5t := eq_true c5;by_cases c6 : a.gone.l = b.gone.l;rotate_left
 · have c6f := eq_false c6;have eb : Es a b = false := by simp only [Es, c0t, c1t, c2t, c3t, c4t, c5t, c6f, decide_true, decide_false, Bool.true_and, Bool.false_and, Bool.and_true, Bool.and_false, Bool.and_self]
   simp (disch := omega) only [ir65, Aq, Ae, C4, Dt, c0p, c1t, c2t, c3p, c4p, c5t, c6f, go_sem];refine Aa (Mv (a := a.gone.l) (b := b.gone.l) a1 b1 a3 b3) ?_;simp (disch := omega) only [Aq, Ae, C4, Dt, c0p, c1t, c2t, c3p, c4p, c5t, c6f, eb, go_sem]
 have c6t := eq_true c6;by_cases c7 : a.base.l = b.base.l;rotate_left
 · have c7f := eq_false c7;have eb : Es a b = false := by simp only [Es, c0t, c1t, c2t, c3t, c4t, c5t, c6t, c7f, decide_true, decide_false, Bool.true_and, Bool.false_and, Bool.and_true, Bool.and_false, Bool.and_self]
   simp (disch := omega) only [ir65, Aq, Ae, C4, Dt, c0p, c1t, c2t, c3p, c4p, c5t, c6t, c7f, go_sem];refine Aa (Mv (a := a.gone.l) (b := b.gone.l) a1 b1 a3 b3) ?_;simp (disch := omega) only [Aq, Ae, C4, Dt, c0p, c1t, c2t, c3p, c4p, c5t, c6t, c7f, go_sem];refine Aa (Mv (a := a.base.l) (b := b.base.l) a2 b2 a4 b4) ?_;simp (disch := omega) only [Aq, Ae, C4, Dt, c0p, c1t, c2t, c3p, c4p, c5t, c6t, c7f, eb, go_sem]
 have c7t := eq_true c7;by_cases c8 : a.off = b.off;rotate_left
 · have c8f := eq_false c8;have eb : Es a b = false := by simp only [Es, c0t, c1t, c2t, c3t, c4t, c5t, c6t, c7t, c8f, decide_true, decide_false, Bool.true_and, Bool.false_and, Bool.and_true, Bool.and_false, Bool.and_self]
   simp (disch := omega) only [ir65, Aq, Ae, C4, Dt, c0p, c1t, c2t, c3p, c4p, c5t, c6t, c7t, c8f, go_sem];refine Aa (Mv (a := a.gone.l) (b := b.gone.l) a1 b1 a3 b3) ?_;simp (disch := omega) only [Aq, Ae, C4, Dt, c0p, c1t, c2t, c3p, c4p, c5t, c6t, c7t, c8f, go_sem];refine Aa (Mv (a := a.base.l) (b := b.base.l) a2 b2 a4 b4) ?_;simp (disch := omega) only [Aq, Ae, C4, Dt, c0p, c1t, c2t, c3p, c4p, c5t, c6t, c7t, c8f, eb, go_sem]
 have c8t := eq_true c8;by_cases c9 : a.data = b.data;rotate_left
 · have c9f := eq_false c9;have eb : Es a b = false := by simp only [Es, c0t, c1t, c2t, c3t, c4t, c5t, c6t, c7t, c8t, c9f, decide_true, decide_false, Bool.true_and, Bool.false_and, Bool.and_true, Bool.and_false, Bool.and_self]
   simp (disch := omega) only [ir65, Aq, Ae, C4, Dt, c0p, c1t, c2t, c3p, c4p, c5t, c6t, c7t, c8t, c9f, go_sem];refine Aa (Mv (a := a.gone.l) (b := b.gone.l) a1 b1 a3 b3) ?_;simp (disch := omega) only [Aq, Ae, C4, Dt, c0p, c1t, c2t, c3p, c4p, c5t, c6t, c7t, c8t, c9f, go_sem];refine Aa (Mv (a := a.base.l) (b := b.base.l) a2 b2 a4 b4) ?_;simp (disch := omega) only [Aq, Ae, C4, Dt, c0p, c1t, c2t, c3p, c4p, c5t, c6t, c7t, c8t, c9f, eb, go_sem]
 have c9t := eq_true c9;by_cases c10 : a.ward = b.ward;rotate_left
 · have c10f := eq_false c10;have eb : Es a b = false := by simp only [Es, c0t, c1t, c2t, c3t, c4t, c5t, c6t, c7t, c8t, c9t, c10f, decide_true, decide_false, Bool.true_and, Bool.false_and, Bool.and_true, Bool.and_false, Bool.and_self]
   simp (disch := omega) only [ir65, Aq, Ae, C4, Dt, c0p, c1t, c2t, c3p, c4p, c5t, c6t, c7t, c8t, c9t, c10f, go_sem];refine Aa (Mv (a := a.gone.l) (b := b.gone.l) a1 b1 a3 b3) ?_;simp (disch := omega) only [Aq, Ae, C4, Dt, c0p, c1t, c2t, c3p, c4p, c5t, c6t, c7t, c8t, c9t, c10f, go_sem];refine Aa (Mv (a := a.base.l) (b := b.base.l) a2 b2 a4 b4) ?_;simp (disch := omega) only [Aq, Ae, C4, Dt, c0p, c1t, c2t, c3p, c4p, c5t, c6t, c7t, c8t, c9t, c10f, eb, go_sem]
 have c10t := eq_true c10;have eb : Es a b = true := by simp only [Es, c0t, c1t, c2t, c3t, c4t, c5t, c6t, c7t, c8t, c9t, c10t, decide_true, decide_false, Bool.true_and, Bool.false_and, Bool.and_true, Bool.and_false, Bool.and_self]
 simp (disch := omega) only [ir65, Aq, Ae, C4, Dt, c0p, c1t, c2t, c3p, c4p, c5t, c6t, c7t, c8t, c9t, c10t, go_sem];refine Aa (Mv (a := a.gone.l) (b := b.gone.l) a1 b1 a3 b3) ?_;simp (disch := omega) only [Aq, Ae, C4, Dt, c0p, c1t, c2t, c3p, c4p, c5t, c6t, c7t, c8t, c9t, c10t, go_sem];refine Aa (Mv (a := a.base.l) (b := b.base.l) a2 b2 a4 b4) ?_;simp (disch := omega) only [Aq, Ae, C4, Dt, c0p, c1t, c2t, c3p, c4p, c5t, c6t, c7t, c8t, c9t, c10t, eb, go_sem]
theorem Ab9 (c : Int) (n : Nat) : ∃ q : Nat, (IntKind.u64.wrap c).tmod (n : Int) = q ∧ (0 < n → q < n) := by
 have h0 := Zu c;have h1 : 0 ≤ IntKind.u64.wrap c := by omega
 refine ⟨((IntKind.u64.wrap c).tmod n).toNat, ?_, fun hn => ?_⟩
 · have : 0 ≤ (IntKind.u64.wrap c).tmod n := Int.tmod_nonneg _ h1;omega
 · have h2 := Int.tmod_lt_of_pos (IntKind.u64.wrap c) (b := (n : Int)) (by omega);have : 0 ≤ (IntKind.u64.wrap c).tmod n := Int.tmod_nonneg _ h1;omega
theorem Aos (e : Evt) : Es e e = true := by simp [Es, vEq]
theorem A0n {v : Vc} {L : List Evt} {j : Nat} {e : Evt} (hx : L[j]? = some e) (hh : ¬ Bh v e.rep e.seq = true) : (F5 v L)[(F5 v (L.take j)).length]? = some e := by
 have hdr : L = L.take j ++ e :: L.drop (j + 1) := by
  obtain ⟨h1, h2⟩ := List.getElem?_eq_some_iff.1 hx;rw [← h2, ← List.drop_eq_getElem_cons h1, List.take_append_drop]
 have : F5 v L = F5 v (L.take j) ++ e :: F5 v (L.drop (j + 1)) := by
  conv => lhs; rw [hdr]
  unfold F5 Tn;rw [List.filter_append, List.filter_cons, if_pos (by simpa using hh)]
 rw [this, List.getElem?_append_right (Nat.le_refl _), Nat.sub_self]; rfl
structure HAct where
 kind : Int
 v : Vc
 stop : Int
end Go.Proofs.YthmjebkldgdeiaaGreat.Fw
namespace Go.Proofs.YthmjebkldgdeiaaGreat.Fw
open Go.RowKit Go.Proofs
variable {P : Program} {F : Fr} {N : Nat} {ρ ρ' : Nat → Value} {s : FS} {ac : Act} {w w' : World} {V V' : View}
theorem Ve : ∀ a b : List SV, SV.widthL (a ++ b) = SV.widthL a + SV.widthL b
 | [], b => by simp [SV.widthL]
 | x :: a, b => by simp only [List.cons_append, SV.widthL, Ve a b]; omega
theorem RelR.nilagg (h : RelR F N ρ s ac w) {m n z sz : Nat} {a b : List SV} (hm : s.h m = some (.var (.agg (a ++ .pv (.sl true z []) :: b)))) (hmn : m ≠ n) (ha : SV.closedL a = true) (hb : SV.closedL b = true) (hs : 0 < sz) :
 ∃ ρ', RelR F N ρ' (((s.kill n).seth n (some (.row sz []))).seth m (some (.var (.agg (a ++ .os n :: b))))) ac w := by
 obtain ⟨bb, vs, ty, fr, u0, g1, g2, g3, g4, g5, g6, g7⟩ := h.own m _ hm;simp only [Conc] at g4;obtain ⟨us, rfl, hc⟩ := g4;obtain ⟨va, vb, rfl, h1, h2⟩ := Il hc;simp only [Cells] at h2;obtain ⟨u, ub, rfl, h3, h4, h5, h6⟩ := h2;simp only [Conc] at h3;obtain ⟨base, rfl⟩ : ∃ base, u = .slice base 0 0 := by
  cases h3 with
  | sl full sz es a cap cs bl off arr hcap hfull hsz ha hcs hel =>
    have := hfull rfl;simp only [List.length_nil] at this;subst this;exact ⟨a, rfl⟩
 obtain ⟨hR, hV⟩ := h.adopt (Grew.refl w) n (.row sz []) (.slice base 0 0) (fun b hb => by cases base <;> simp [Cq] at hb) fun hV => ⟨base, 0, by rw [Ay]; rfl, Nat.le_refl _, hs, by simp, fun h => absurd rfl h⟩
 have hcl : SV.closedL (a ++ .pv (.sl true z []) :: b) = true := by
  have key : ∀ l : List SV, SV.closedL l = true → SV.closedL (l ++ .pv (.sl true z []) :: b) = true := fun l => by
   induction l with
   | nil => intro _; simp [SV.closedL, SV.closed, hb]
   | cons x l ih => intro hl; simp only [SV.closedL, Bool.and_eq_true, List.cons_append] at hl ⊢; exact ⟨hl.1, ih hl.2⟩
  exact key a ha
 have hm2 : ((s.kill n).seth n (some (.row sz []))).h m = some (.var (.agg (a ++ .pv (.sl true z []) :: b))) := by
  simp only [FS.seth, FS.kill];rw [if_neg hmn, hm];simp only [Option.map_some, Blk.kill, SV.kill, Gc n hcl]
 refine ⟨_, hR.redesc hm2 ⟨bb, _, ty, fr, _, by rw [Br hmn]; exact g1, g2, g3, ?_, g5, ?_, g7⟩⟩
 · simp only [Conc];refine ⟨_, rfl, Jt (Dj hV ha h1) ?_⟩;simp only [Cells];exact ⟨.slice base 0 0, ub, rfl, by simp only [Conc]; exact ⟨by rw [Ay], trivial⟩, h4, h5, Dj hV hb h6⟩
 · rw [g6];simp only [SV.width, Ve, SV.widthL]
theorem Ak0 {r : Option Nat} {X : Frs} {c : C} {Q : C5} {T : List (Nat × SV)} {H : List (Nat × Option Blk)} (m n sz : Nat) {z : Nat} {a b : List SV} (hm : lk none m H = some (.var (.agg (a ++ .pv (.sl true z []) :: b)))) (hmn : m ≠ n) (ha : SV.closedL a = true) (hb : SV.closedL b = true) (hs : 0 < sz)
 (h : (I0 P r X N).loop c Q (mk (Ov n T) ((m, some (.var (.agg (a ++ .os n :: b)))) :: (n, some (.row sz [])) :: J8 n H))) : (I0 P r X N).loop c Q (mk T H) := fun code hc ac w hR => h code hc ac w (RelX.wk0 (fun ⟨ρ, hR⟩ => by
 have := RelR.nilagg (s := mk T H) hR hm hmn ha hb hs;rw [Aa8, Uf, Uf] at this;exact this) hR)
theorem DeepOk.frzD {f : Nat} {args args' : List SV} {h : Nat → Option Blk} {d d' : Nat} {x : SV} {u : List HU} {n sz : Nat} {es : List (List PV)} (hn : h n = some (.row sz es)) (ha : SV.frzL n (.sl false sz es) args = args')
 (hf : DeepOk P f args' (fun k => if k = n then none else (h k).map (Blk.frz n (.sl false sz es))) d' x u) : DeepOk P f args h d x (.frz n (.sl false sz es) :: u) := by
 refine ⟨hf.1, fun F N ρ s a w hR hh vs hv => ?_⟩;subst ha;have hs : s.h n = some (.row sz es) := by rw [hh]; exact hn
 obtain ⟨hR', hV, hV2⟩ := hR.frz hs;have hp := (Jn hR hs).mono hV2;exact hf.2 F N ρ (s.frz n (.sl false sz es)) a w hR' (funext fun k => by simp only [FS.frz, hh]) vs (ConcL.frz hV hp hv)
theorem DeepOk.nilD {f : Nat} {args : List SV} {h : Nat → Option Blk} {d d' : Nat} {x : SV} {u : List HU} (n sz : Nat) (hs : 0 < sz) (ha : n ∉ A6 args)
 (hf : DeepOk P f args (fun k => if k = n then some (.row sz []) else (h k).map (Blk.kill n)) d' x u) : DeepOk P f args h d x (.new n (.row sz []) :: u) := by
 refine ⟨hf.1, fun F N ρ s a w hR hh vs hv => ?_⟩;obtain ⟨hR', hV⟩ := hR.adopt (Grew.refl w) n (.row sz []) (.slice none 0 0) (fun b hb => by simp [Cq] at hb) fun hV => ⟨none, 0, by rw [Ay]; rfl, Nat.le_refl _, hs, by simp, fun h => absurd rfl h⟩
 exact hf.2 F N (upd ρ n (.slice none 0 0)) ((s.kill n).seth n (some (.row sz []))) a w hR' (funext fun k => by simp only [FS.seth, FS.kill, hh]) vs (ConcL.agree hV (fun k hk => Br fun e => ha (e ▸ hk)) hv)
end Go.Proofs.YthmjebkldgdeiaaGreat.Fw
namespace Go.Proofs.YthmjebkldgdeiaaGreat.Fw
open Go.RowKit Go.Proofs
def Wx (l : List Evt) (e : Evt) : Bool := l.any fun x => decide (Ah x = Ah e)
def cpE (e : Evt) : SV := .pi 21 [A9 e] 0 0
theorem Avt (v e : Evt) {x : SV} {h d} (hx : Cn h [.vec 21 (A9 v), x] = [.vec 21 (A9 v), cpE e]) (hl : Be [.vec 21 (A9 v), x] = true) : FunOk Tryz.prog 56 [.vec 21 (A9 v), x] h d (.pv (.b (decide (Ah v = Ah e)))) [] := by
 refine Ci Ag fn56 (by simp) hl rfl fun F => ?_;rw [hx];have hv := Ac v;have he := Ac e;have e0 : [A9 e][0]? = some (A9 e) := rfl;by_cases hne : Ah v = Ah e
 · have hp := Fd hne;simp (disch := omega) only [ir56, cpE, Aq, e0, Ae, Bp, hp, hne, go_sem]
 · have hp := Fe hne;simp (disch := omega) only [ir56, cpE, Aq, e0, Ae, Bp, hp, hne, go_sem]
def Afg (f : Bool) (z : Nat) (l : List Evt) (e : Evt) (k : Nat) : FS := mk [(8, .pv (.i .i64 k)), (7, .pv (.i .i64 l.length)), (0, .pv (.sl f z (l.map A9))), (1, .fn (.func 56) [cpE e])] []
theorem Apq {f : Bool} {z : Nat} {l : List Evt} (e : Evt) (hz : l = [] ∨ z = 21) (hn : l.length ≤ 1000) :
 ∃ n : Int, (0 ≤ n ↔ Wx l e = true) ∧ ∀ h d, FunOk Tryz.prog 97 [.pv (.sl f z (l.map A9)), .fn (.func 56) [cpE e]] h d (.pv (.i .i64 n)) [] := by
 refine ⟨if l.findIdx (fun x => decide (Ah x = Ah e)) < l.length then (l.findIdx (fun x => decide (Ah x = Ah e)) : Int) else -1, ?_, ?_⟩
 · unfold Wx;by_cases hi : l.findIdx (fun x => decide (Ah x = Ah e)) < l.length
   · rw [if_pos hi];obtain ⟨x, hx, hp⟩ := List.findIdx_lt_length.1 hi;refine ⟨fun _ => ?_, fun _ => by omega⟩;rw [List.any_eq_true];exact ⟨x, hx, hp⟩
   · rw [if_neg hi];refine ⟨fun h => by omega, fun h => ?_⟩;rw [List.any_eq_true] at h;obtain ⟨x, hx, hp⟩ := h;exact absurd (List.findIdx_lt_length.2 ⟨x, hx, hp⟩) hi
 intro h d;refine Ap Ag fn97 (by simp) rfl rfl fun F => ?_;simp (disch := omega) only [ir97, List.length_map, go_sem];refine A1 Ag (Afg f z l e) (fun k => k ≤ l.length ∧ ∀ j, (hj : j < l.length) → j < k → ¬ Ah l[j] = Ah e) (fun k => l.length - k) 0 (by simp) (Ak ?_ ?_) fun k hk => ?_
 · simp (disch := omega) only [go_sem]
 · simp (disch := omega) only [go_sem]
 obtain ⟨hk1, hk2⟩ := hk;by_cases hlt : k < l.length
 · have hz2 : z = 21 := hz.resolve_left fun e => by subst e; simp at hlt
   subst hz2;have he : (l.map A9)[k]? = some (A9 l[k]) := by simp [hlt]
   have hv := Ac l[k];simp (disch := omega) only [Afg, List.length_map, he, Bf, go_sem];refine Aa (Avt l[k] e rfl rfl) ?_;by_cases hp : Ah l[k] = Ah e
   · have ei : l.findIdx (fun x => decide (Ah x = Ah e)) = k := (List.findIdx_eq hlt).2 ⟨by simp [hp], fun j hj => by simp [hk2 j (by omega) hj]⟩;simp (disch := omega) only [hp, ei, hlt, go_sem]
   · simp (disch := omega) only [hp, go_sem];refine Ad (k + 1) _ _ rfl ⟨by omega, fun j hj hjk => ?_⟩ (by omega) ?_ ?_
     · by_cases ej : j = k
       · subst ej; exact hp
       · exact hk2 j hj (by omega)
     · simp (disch := omega) only [go_sem]
     · simp (disch := omega) only [go_sem]
 · obtain rfl : k = l.length := by omega
   have ei : l.findIdx (fun x => decide (Ah x = Ah e)) = l.length := List.findIdx_eq_length.2 fun x hx => by
    obtain ⟨j, hj, rfl⟩ := List.getElem_of_mem hx;simp [hk2 j hj hj]
   simp (disch := omega) only [Afg, ei, hlt, go_sem]
theorem Avy {x y : SV} {l : List Evt} (e : Evt) (hn : l.length ≤ 1000) {h d} (hx : Cn h [x, y] = [.pv (.sl false 21 (l.map A9)), .fn (.func 56) [cpE e]]) (hl : Be [x, y] = true) :
 FunOk Tryz.prog 55 [x, y] h d (.pv (.b (Wx l e))) [] := by
 refine Ci Ag fn55 (by simp) hl rfl fun F => ?_;rw [hx];simp (disch := omega) only [ir55, go_sem];obtain ⟨n, hn', hc⟩ := Apq (f := false) (z := 21) (l := l) e (.inr rfl) hn;refine Aa (hc _ _) ?_;cases ha : Wx l e
 · have h0 : ¬ 0 ≤ n := fun q => by rw [hn'.1 q] at ha; cases ha
   simp (disch := omega) only [h0, go_sem]
 · have h0 : 0 ≤ n := hn'.2 ha;simp (disch := omega) only [h0, go_sem]
def Hc (S : St) (fl : Vc) (x : SV) : List SV := A5 S ++ [.vec 8 (vE fl), x]
noncomputable def adL (S : St) (L : List Evt) (e : Evt) : List (List PV) := if Ed S e = 0 then (L ++ [G1 e]).map A9 else []
open Classical in
noncomputable def adX (S : St) (fl : Vc) (L : List Evt) (e : Evt) : SV := if Ed S e = 0 then .agg (Hc (E6 S e) fl (.os 60)) else .agg (Hc S fl (.pv (.sl false 21 (L.map A9))))
set_option maxHeartbeats 4000000 in
theorem A1s {S : St} {fl : Vc} {L : List Evt} {e : Evt} (hs : StIn S) (he : ev e) (hn : L.length ≤ 1000) {h d} (hg : h 70 = some (.var (.agg (Hc S fl (.pv (.sl false 21 (L.map A9))))))) (hm : h 60 = some (.row 21 [])) :
 DeepOk Tryz.prog 29 [.p 70 0, .vec 21 (A9 e)] h d (.pv (.i .i64 (Ed S e))) [.new 60 (.row 21 (adL S L e)), .upd 70 (.var (adX S fl L e))] := by
 have hel := Ac e;have hel2 := Ac (G1 e);by_cases hw : Ed S e = 0
 · have e1 : Afr S e = E6 S e := if_pos hw;have e2 : adL S L e = (L ++ [G1 e]).map A9 := if_pos hw;have e3 : adX S fl L e = .agg (Hc (E6 S e) fl (.os 60)) := if_pos hw;rw [e2, e3];refine Ea Ag fn29 (by simp) hg hm (by decide) rfl (fun n hn => ?_) fun F => ?_
   · simp [Hc, A5, A3, tn, A6] at hn; exact .inr hn
   simp (disch := omega) only [ir29, Hc, A5, A3, Blk.ptr, List.cons_append, List.nil_append, Bf, hel, go_sem];refine Aa (Aaw (s := S) hs he) ?_;rw [e1, hw];simp (disch := omega) only [A5, A3, go_sem];refine Aa (Qh (.inr rfl)) ?_;simp (disch := omega) only [Bf, hel, go_sem];refine Aa (Ky e he) ?_;simp (disch := omega) only [hel2, go_sem];refine ⟨fun q => (by cases q), _, D3 60 rfl (D2 34 60 (by decide) rfl (.same _)), ?_⟩
   (try simp only [Ca, B9, B0, Bz, Bx, Bw, Bv, Bu]); simp (disch := omega) only [Hc, A5, A3, List.cons_append, List.nil_append, List.map_append, List.map_cons, List.map_nil, go_sem]
 · have e2 : adL S L e = [] := if_neg hw;have e3 : adX S fl L e = .agg (Hc S fl (.pv (.sl false 21 (L.map A9)))) := if_neg hw;rw [e2, e3];refine Ea Ag fn29 (by simp) hg hm (by decide) rfl (fun n hn => ?_) fun F => ?_
   · simp [Hc, A5, A3, tn, A6] at hn
   simp (disch := omega) only [ir29, Hc, A5, A3, Blk.ptr, List.cons_append, List.nil_append, Bf, hel, go_sem];refine Aa (Aaw (s := S) hs he) ?_;simp (disch := omega) only [A5, A3, hw, go_sem];refine ⟨_, .same _, ?_⟩
   (try simp only [Ca, B9, B0, Bz, Bx, Bw, Bv, Bu]); simp (disch := omega) only [Hc, A5, A3, List.cons_append, List.nil_append, go_sem]
theorem A1u {S : St} {fl : Vc} {L : List Evt} {e : Evt} (hs : StIn S) (he : ev e) (hn : L.length ≤ 1000) {h d} (hg : h 70 = some (.var (.agg (Hc S fl (.os 60))))) (hm : h 60 = some (.row 21 (L.map A9))) :
 DeepOk Tryz.prog 29 [.p 70 0, .vec 21 (A9 e)] h d (.pv (.i .i64 (Ed S e))) [.frz 60 (.sl false 21 (L.map A9)), .new 60 (.row 21 []), .new 60 (.row 21 (adL S L e)), .upd 70 (.var (adX S fl L e))] := by
 refine DeepOk.frzD (d' := d) hm (args' := [.p 70 0, .vec 21 (A9 e)]) rfl (DeepOk.nilD (d' := d) 60 21 (by decide) (by simp [A6, tn]) (A1s hs he hn ?_ rfl));show (if (70 : Nat) = 60 then _ else _) = _;rw [if_neg (by decide)];show Option.map _ (if (70 : Nat) = 60 then _ else _) = _;rw [if_neg (by decide), hg];rfl
end Go.Proofs.YthmjebkldgdeiaaGreat.Fw
namespace Go.Proofs.YthmjebkldgdeiaaGreat.Fw
open Go.RowKit Go.Proofs
open Classical in
noncomputable def R5 (fl kn : Vc) : List Evt → List Evt → List Evt → List Evt × Int
 | [], _, A => if Rn fl (Bn A) then (A, 0) else ([], 10)
 | e :: l, p, A => if Bh fl e.rep e.seq = true ∨ Wx p e = true then ([], 7) else if Bh kn e.rep e.seq = true then R5 fl kn l (p ++ [e]) A else if Ed (An A) e = 0 then R5 fl kn l (p ++ [e]) (A ++ [e]) else ([], Ed (An A) e)
theorem Aln (l : List Evt) (e : Evt) : Wx l e = (G8 l (Ah e)).isSome := by
 unfold Wx G8;rw [Bool.eq_iff_iff, List.any_eq_true, List.find?_isSome]
structure RsI (fl : Vc) (B log : List Evt) (R : List Evt × Int) (p : Nat × List Evt) : Prop where
 le : p.1 ≤ log.length
 val : Val p.2
 len : p.2.length ≤ B.length + p.1
 eq : R5 fl (Bn B) (log.drop p.1) (log.take p.1) p.2 = R
def hiC (S : St) (fl : Vc) (L : List Evt) : List PV := vE S.known ++ [.sl false 15 (S.objs.map Ar)] ++ [.sl false 15 (S.ents.map Bm)] ++ iE S.wards ++ wE S.ret ++ vE fl ++ [.sl false 21 (L.map A9)]
def hiP (S : St) (fl : Vc) (L : List Evt) : SV := .pi 35 [hiC S fl L] 0 0
noncomputable def rsV (fl : Vc) (log : List Evt) (R : List Evt × Int) : SV := bif decide (R.2 = 0) then .tup [hiP (An R.1) fl log, .pv (.i .i64 0)] else .tup [.pv (.v (.pointer none)), .pv (.i .i64 R.2)]
theorem A0r (fl : Vc) (log : List Evt) (R : List Evt × Int) : (rsV fl log R).closed = true := by
 unfold rsV; cases decide (R.2 = 0) <;> rfl
noncomputable def Az5 (fl : Vc) (B log : List Evt) (p : Nat × List Evt) : FS := mk [(19, .pv (.i .i64 p.1)), (18, .pv (.i .i64 log.length)), (17, .pv (.sl false 21 (log.map A9))), (8, .p 70 0), (3, .p 3 0), (4, .p 4 0)] [(3, some (.var (.agg (A5 (An B))))), (4, some (.var (.vec 8 (vE fl)))), (70, some (.var (.agg (Hc (An p.2) fl (.os 60))))), (60, some (.row 21 ((log.take p.1).map A9)))]
set_option maxHeartbeats 16000000 in
theorem Ac8 {fl : Vc} {B log : List Evt} {R : List Evt × Int} (hB : Val B) (hlog : ∀ e ∈ log, ev e ∧ G1 e = e) (hn : B.length + log.length ≤ 100) (hR : R5 fl (Bn B) log [] B = R) {h d} :
 FunOk Tryz.prog 14 [.agg (A5 (An B)), .vec 8 (vE fl), .pv (.sl false 21 (log.map A9))] h d (rsV fl log R) [] := by
 refine Y7 Ag fn14 (by simp) rfl (A0r fl log R) fun F => ?_;unfold rsV;have hBf := (O4 hB (by omega)).fine;have hBk : (An B).known = Bn B := Ef B;simp (disch := omega) only [ir14, A5, A3, List.length_map, go_sem];refine Aa (E := (Q4 Tryz.prog F 67).reg) (Sc (s := An B) hBf) ?_;simp (disch := omega) only [A5, A3, List.length_map, go_sem];refine Ak0 16 60 21 (a := A5 (An B) ++ [.vec 8 (vE fl)]) (b := []) rfl (by decide) rfl rfl (by decide) ?_;refine A1 Ag (Az5 fl B log) (RsI fl B log R) (fun p => log.length - p.1) (0, B) ⟨Nat.zero_le _, hB, Nat.le_refl _, hR⟩ (D2 16 70 (by decide) rfl (Ak ?_ ?_)) fun p hp => ?_
 · (try simp only [Ca, B9, B0, Bz, Bx, Bw, Bv, Bu]); simp (disch := omega) only [go_sem]
 · (try simp only [Ca, B9, B0, Bz, Bx, Bw, Bv, Bu]); simp (disch := omega) only [Hc, A5, A3, List.take_zero, List.map_nil, List.cons_append, List.nil_append, go_sem]
 obtain ⟨k, A⟩ := p;obtain ⟨p1, p2, p3, p4⟩ := hp;simp only at p1 p2 p3 p4;have hAk : (An A).known = Bn A := Ef A;by_cases hlt : k < log.length
 · have hx : log[k]? = some log[k] := List.getElem?_eq_getElem hlt;have he : (log.map A9)[k]? = some (A9 log[k]) := by rw [List.getElem?_map, hx]; rfl
   have hts := C0 hx;have hd : log.drop k = log[k] :: log.drop (k + 1) := List.drop_eq_getElem_cons hlt;obtain ⟨hev, hce⟩ := hlog _ (List.getElem_mem hlt);rw [hd] at p4;have hkl : (log.take k).length ≤ 100 := by rw [List.length_take]; omega
   generalize log[k] = e at *;have hel := Ac e;generalize hPP : log.take k = Pk at *;simp (disch := omega) only [Az5, hPP, List.length_map, he, Bf, hel, Aq, go_sem];refine Aa (Gi _ _ _) ?_;by_cases h1 : Bh fl e.rep e.seq = true
   · have hr : R = ([], 7) := by rw [← p4]; simp [R5, h1]
     subst hr
     (try simp only [Ca, B9, B0, Bz, Bx, Bw, Bv, Bu]); simp (disch := omega) only [h1, go_sem]
     refine Bk ?_;simp (disch := omega) only [cond_false, go_sem]
   have h1' : Bh fl e.rep e.seq = false := by simpa using h1
   simp (disch := omega) only [h1', Hc, A5, A3, List.cons_append, List.nil_append, go_sem];refine Aa (Avy (l := Pk) e (by omega) rfl rfl) ?_;by_cases h2 : Wx Pk e = true
   · have hr : R = ([], 7) := by rw [← p4]; simp [R5, h2]
     subst hr
     (try simp only [Ca, B9, B0, Bz, Bx, Bw, Bv, Bu]); simp (disch := omega) only [h2, go_sem]
     refine Bk ?_;simp (disch := omega) only [cond_false, go_sem]
   have h2' : Wx Pk e = false := by simpa using h2
   simp (disch := omega) only [h2', A5, A3, Aq, hBk, go_sem];refine Aa (Gi _ _ _) ?_;by_cases h3 : Bh (Bn B) e.rep e.seq = true
   · have p4' : R5 fl (Bn B) (log.drop (k + 1)) (log.take (k + 1)) A = R := by rw [hts, ← p4]; simp [R5, h1, h2, h3]
     simp (disch := omega) only [h3, Bf, hel, go_sem];refine Aa (E := (Q4 Tryz.prog F 67).reg) (Ky e hev) ?_;rw [hce];simp (disch := omega) only [hel, List.length_map, go_sem];refine ⟨(k + 1, A), ⟨by show k + 1 ≤ _; omega, p2, by show A.length ≤ B.length + (k + 1); omega, p4'⟩, by show log.length - (k + 1) < log.length - k; omega, D2 48 60 (by decide) rfl (Ak ?_ ?_)⟩
     · (try simp only [Ca, B9, B0, Bz, Bx, Bw, Bv, Bu]); simp (disch := omega) only [go_sem]
     · (try simp only [Ca, B9, B0, Bz, Bx, Bw, Bv, Bu]); simp (disch := omega) only [hBk, hts, Hc, A5, A3, List.cons_append, List.nil_append, List.map_append, List.map_cons, List.map_nil, go_sem]
   have h3' : Bh (Bn B) e.rep e.seq = false := by simpa using h3
   simp (disch := omega) only [h3', Bf, hel, go_sem];refine G9 (A1u (S := An A) (fl := fl) (L := Pk) (O4 p2 (by omega)) hev (by omega) rfl rfl) ?_;by_cases hw : Ed (An A) e = 0
   · have p4' : R5 fl (Bn B) (log.drop (k + 1)) (log.take (k + 1)) (A ++ [e]) = R := by rw [hts, ← p4]; simp [R5, h1, h2, h3, hw]
     have e2 : adL (An A) Pk e = (Pk ++ [G1 e]).map A9 := if_pos hw;have e3 : adX (An A) fl Pk e = .agg (Hc (E6 (An A) e) fl (.os 60)) := if_pos hw;rw [e2, e3, hw];have hb : An (A ++ [e]) = E6 (An A) e := Xh p2 (Ri.1 hw);simp (disch := omega) only [go_sem];refine Ad (x := (k, A)) (k + 1, A ++ [e]) _ _ rfl ⟨by show k + 1 ≤ _; omega, Val.snoc p2 hev hw, by show (A ++ [e]).length ≤ B.length + (k + 1); rw [List.length_append, List.length_singleton]; omega, p4'⟩ (by show log.length - (k + 1) < log.length - k; omega) ?_ ?_
     · (try simp only [Ca, B9, B0, Bz, Bx, Bw, Bv, Bu]); simp (disch := omega) only [go_sem]
     · (try simp only [Ca, B9, B0, Bz, Bx, Bw, Bv, Bu]); simp (disch := omega) only [hBk, hts, hb, hce, Hc, A5, A3, List.cons_append, List.nil_append, List.map_append, List.map_cons, List.map_nil, go_sem]
   · have hr : R = ([], Ed (An A) e) := by rw [← p4]; simp [R5, h1, h2, h3, hw]
     subst hr
     (try simp only [Ca, B9, B0, Bz, Bx, Bw, Bv, Bu]); simp (disch := omega) only [hw, go_sem]
     refine Bk ?_;simp (disch := omega) only [hw, cond_false, go_sem]
 · obtain rfl : k = log.length := by omega
   have htk : log.take log.length = log := List.take_length;rw [List.drop_length, htk] at p4;simp (disch := omega) only [Az5, htk, Hc, A5, A3, List.cons_append, List.nil_append, hAk, go_sem];refine Aa (E := (Q4 Tryz.prog F 67).reg) (Aik _ _) ?_;by_cases hv : Rn fl (Bn A)
   · have hr : R = (A, 0) := by rw [← p4]; simp [R5, hv]
     subst hr;have hv' := decide_eq_true hv
     (try simp only [Ca, B9, B0, Bz, Bx, Bw, Bv, Bu]); simp (disch := omega) only [hv', go_sem]
     refine ⟨_, D3 60 rfl (Px 70 (x := .agg [.vec 8 (vE (Bn A)), .pv (.sl false 15 ((An A).objs.map Ar)), .pv (.sl false 15 ((An A).ents.map Bm)), .vec 8 (iE (An A).wards), .vec 8 (wE (An A).ret), .vec 8 (vE fl), .pv (.sl false 21 (log.map A9))]) (cs := hiC (An A) fl log) rfl (by rw [← hAk]; rfl) (.same _)), ?_⟩
     (try simp only [Ca, B9, B0, Bz, Bx, Bw, Bv, Bu]); simp (disch := omega) only [hiP, cond_true, go_sem]
   · have hr : R = ([], 10) := by rw [← p4]; simp [R5, hv]
     subst hr;have hv' := decide_eq_false hv
     (try simp only [Ca, B9, B0, Bz, Bx, Bw, Bv, Bu]); simp (disch := omega) only [hv', go_sem]
     refine Bk ?_;simp (disch := omega) only [cond_false, go_sem]
noncomputable def Az6 (fl : Vc) (B log : List Evt) (p : Nat × List Evt) : FS := mk [(9, .pv (.i .i64 p.1)), (8, .pv (.sl false 21 (p.2.map A9))), (0, .pv (.sl false 21 (B.map A9))), (2, .pv (.sl false 21 (log.map A9))), (4, .p 4 0)] [(4, some (.var (.vec 8 (vE fl))))]
theorem Abe (n : Int) : Imp (.tup [.pv (.sl true 0 []), .pv (.i .i64 n)]) (.tup [.pv (.sl false 21 []), .pv (.i .i64 n)]) := Ai4 ⟨Sv (He (fun q => by cases q) (.inl rfl) (.refl _)), Imp.refl _, trivial⟩
set_option maxHeartbeats 16000000 in
theorem Akg {fl : Vc} {B log : List Evt} {R : List Evt × Int} (hB : Val B) (hlog : ∀ e ∈ log, EvIn e ∧ G1 e = e) (hn : B.length + log.length ≤ 100) (hR : R5 fl (Bn B) log [] B = R) {h d} :
 FunOk Tryz.prog 13 [.pv (.sl false 21 (B.map A9)), .vec 8 (vE fl), .pv (.sl false 21 (log.map A9))] h d (.tup [.pv (.sl false 21 (R.1.map A9)), .pv (.i .i64 R.2)]) [] := by
 refine N6 Ag fn13 (by simp) rfl rfl fun F => ?_;simp (disch := omega) only [ir13, go_sem];refine A1 Ag (Az6 fl B log) (RsI fl B log R) (fun p => log.length - p.1) (0, B) ⟨Nat.zero_le _, hB, Nat.le_refl _, hR⟩ (Ak ?_ ?_) fun p hp => ?_
 · (try simp only [Ca, B9, B0, Bz, Bx, Bw, Bv, Bu]); simp (disch := omega) only [go_sem]
 · simp (disch := omega) only [go_sem]
 obtain ⟨k, A⟩ := p;obtain ⟨p1, p2, p3, p4⟩ := hp;simp only at p1 p2 p3 p4;by_cases hlt : k < log.length
 · have hx : log[k]? = some log[k] := List.getElem?_eq_getElem hlt;have he : (log.map A9)[k]? = some (A9 log[k]) := by rw [List.getElem?_map, hx]; rfl
   have hts := C0 hx;have hd : log.drop k = log[k] :: log.drop (k + 1) := List.drop_eq_getElem_cons hlt;obtain ⟨hei, hce⟩ := hlog _ (List.getElem_mem hlt);rw [hd] at p4;have htl : (log.map A9).take k = (log.take k).map A9 := by rw [List.map_take]
   have hkl : (log.take k).length ≤ 100 := by rw [List.length_take]; omega
   generalize log[k] = e at *;have hel := Ac e;generalize hPP : log.take k = Pk at *;have hfe := Aln Pk e;simp (disch := omega) only [Az6, List.length_map, he, Bf, hel, Aq, htl, go_sem];refine Hp ?_;simp (disch := omega) only [List.length_map, he, Bf, hel, Aq, htl, go_sem];cases hF : G8 Pk (Ah e) with
   | some x =>
     have hc : ∀ h d, FunOk Tryz.prog 52 [.pv (.sl false 21 (Pk.map A9)), .vec 2 [.i .i64 e.rep, .i .u32 e.seq]] h d (.tup [.vec 21 (A9 x), .pv (.b true)]) [] := fun h d => by
      have := Aat (f := false) (l := Pk) (Ah e) (by omega) (h := h) (d := d);rw [hF] at this; exact this
     have h2 : Wx Pk e = true := by rw [hfe, hF]; rfl
     have hr : R = ([], 7) := by rw [← p4]; simp [R5, h2]
     have hxl := Ac x;refine Aa (hc _ _) ?_;subst hr
     (try simp only [Ca, B9, B0, Bz, Bx, Bw, Bv, Bu]); simp (disch := omega) only [hxl, go_sem]
     refine Bk ?_;simp (disch := omega) only [hxl, List.map_nil, go_sem];exact Abe _
   | none =>
     have hc : ∀ h d, FunOk Tryz.prog 52 [.pv (.sl false 21 (Pk.map A9)), .vec 2 [.i .i64 e.rep, .i .u32 e.seq]] h d (.tup [.vec 21 (A9 ⟨0, 0, fun _ => 0, 0, 0, 0, 0, 0, [], .nil, .nil, 0, [], 0⟩), .pv (.b false)]) [] := fun h d => by
      have := Aat (f := false) (l := Pk) (Ah e) (by omega) (h := h) (d := d);rw [hF] at this; exact this
     have h2 : ¬ Wx Pk e = true := by rw [hfe, hF]; simp
     refine Aa (hc _ _) ?_;have hzl := Ac ⟨0, 0, fun _ => 0, 0, 0, 0, 0, 0, [], .nil, .nil, 0, [], 0⟩;generalize (⟨0, 0, fun _ => 0, 0, 0, 0, 0, 0, [], .nil, .nil, 0, [], 0⟩ : Evt) = z at *;simp (disch := omega) only [List.length_map, he, Bf, hel, Aq, hzl, go_sem];refine Aa (Kl _ _ _) ?_;by_cases h1 : Bh fl e.rep e.seq = true
     · have hr : R = ([], 7) := by rw [← p4]; simp [R5, h1]
       subst hr
       (try simp only [Ca, B9, B0, Bz, Bx, Bw, Bv, Bu]); simp (disch := omega) only [h1, go_sem]
       refine Bk ?_;simp (disch := omega) only [h1, List.map_nil, go_sem];exact Abe _
     have h1' : Bh fl e.rep e.seq = false := by simpa using h1
     simp (disch := omega) only [h1', go_sem];refine Aa (Sb (l := B) (by omega)) ?_;simp (disch := omega) only [List.length_map, he, Bf, hel, Aq, go_sem];refine Aa (Kl _ _ _) ?_;by_cases h3 : Bh (Bn B) e.rep e.seq = true
     · have p4' : R5 fl (Bn B) (log.drop (k + 1)) (log.take (k + 1)) A = R := by rw [hts, ← p4]; simp [R5, h1, h2, h3]
       simp (disch := omega) only [h3, go_sem];refine Ad (x := (k, A)) (k + 1, A) _ _ rfl ⟨by show k + 1 ≤ _; omega, p2, by show A.length ≤ B.length + (k + 1); omega, p4'⟩ (by show log.length - (k + 1) < log.length - k; omega) ?_ ?_
       · (try simp only [Ca, B9, B0, Bz, Bx, Bw, Bv, Bu]); simp (disch := omega) only [go_sem]
       · simp (disch := omega) only [go_sem]
     have h3' : Bh (Bn B) e.rep e.seq = false := by simpa using h3
     simp (disch := omega) only [h3', go_sem];refine Aa (Wh (T8 p2 (show A.length ≤ 400 by omega)) (T7 p2)) ?_;simp (disch := omega) only [List.length_map, he, Bf, hel, Aq, A5, A3, go_sem];refine Aa (Ay6 (s := An A) (O4 p2 (show A.length ≤ 400 by omega)) hei.ev hei.dep) ?_;by_cases hw : Ed (An A) e = 0
     · have p4' : R5 fl (Bn B) (log.drop (k + 1)) (log.take (k + 1)) (A ++ [e]) = R := by rw [hts, ← p4]; simp [R5, h1, h2, h3, hw]
       simp (disch := omega) only [hw, List.length_map, he, Bf, hel, List.nil_append, go_sem];refine ⟨(k + 1, A ++ [e]), ⟨by show k + 1 ≤ _; omega, Val.snoc p2 hei.ev hw, by show (A ++ [e]).length ≤ B.length + (k + 1); rw [List.length_append, List.length_singleton]; omega, p4'⟩, by show log.length - (k + 1) < log.length - k; omega, D3 70 rfl (Ak ?_ ?_)⟩
       · (try simp only [Ca, B9, B0, Bz, Bx, Bw, Bv, Bu]); simp (disch := omega) only [List.map_append, List.map_cons, List.map_nil, go_sem]
       · simp (disch := omega) only [List.map_append, List.map_cons, List.map_nil, go_sem]
     · have hr : R = ([], Ed (An A) e) := by rw [← p4]; simp [R5, h1, h2, h3, hw]
       subst hr
       (try simp only [Ca, B9, B0, Bz, Bx, Bw, Bv, Bu]); simp (disch := omega) only [hw, go_sem]
       refine Bk ?_;simp (disch := omega) only [hw, List.map_nil, go_sem];exact Abe _
 · obtain rfl : k = log.length := by omega
   have htk : log.take log.length = log := List.take_length;rw [List.drop_length, htk] at p4;simp (disch := omega) only [Az6, List.length_map, go_sem];refine Aa (E := (Q4 Tryz.prog F 77).reg) (Sb (l := A) (by omega)) ?_;simp (disch := omega) only [go_sem];refine Aa (E := (Q4 Tryz.prog F 77).reg) (Apl _ _) ?_;by_cases hv : Rn fl (Bn A)
   · have hr : R = (A, 0) := by rw [← p4]; simp [R5, hv]
     subst hr;have hv' := decide_eq_true hv
     (try simp only [Ca, B9, B0, Bz, Bx, Bw, Bv, Bu]); simp (disch := omega) only [hv', go_sem]
     refine Bk ?_;simp (disch := omega) only [go_sem]
   · have hr : R = ([], 10) := by rw [← p4]; simp [R5, hv]
     have hv' := decide_eq_false hv;subst hr
     (try simp only [Ca, B9, B0, Bz, Bx, Bw, Bv, Bu]); simp (disch := omega) only [hv', go_sem]
     refine Bk ?_;simp (disch := omega) only [hv', List.map_nil, go_sem];exact Abe _
theorem Uw (S : St) (fl : Vc) (L : List Evt) : (hiC S fl L).length = 35 := by simp [hiC, vE, iE, wE, Cu]
theorem Agc (S : St) (fl : Vc) (L : List Evt) (K : KK) : LoadK (some (hiC S fl L)) 0 8 true K = K (.vec 8 (vE S.known)) [] := by
 simp only [LoadK, Hr, eq_iff_iff];exact ⟨fun h => h.2.2, fun h => ⟨by simp [Uw], .inl trivial, h⟩⟩
theorem Uo (S : St) (fl : Vc) (L : List Evt) (K : KK) : LoadK (some (hiC S fl L)) 26 8 true K = K (.vec 8 (vE fl)) [] := by
 simp only [LoadK, Hr, eq_iff_iff];exact ⟨fun h => h.2.2, fun h => ⟨by simp [Uw], .inl trivial, h⟩⟩
theorem Un (S : St) (fl : Vc) (L : List Evt) (K : KK) : LoadK (some (hiC S fl L)) 34 1 false K = K (.pv (.sl false 21 (L.map A9))) [] := by
 simp only [LoadK, Hr, eq_iff_iff];exact ⟨fun h => h.2.2, fun h => ⟨by simp [Uw], .inr trivial, h⟩⟩
def stC (S : St) : List PV := vE S.known ++ [.sl false 15 (S.objs.map Ar)] ++ [.sl false 15 (S.ents.map Bm)] ++ iE S.wards ++ wE S.ret
theorem A2c (S : St) (fl : Vc) (L : List Evt) (K : KK) : LoadK (some (hiC S fl L)) 0 26 true K = K (.vec 26 (stC S)) [] := by
 simp only [LoadK, Hr, eq_iff_iff];exact ⟨fun h => h.2.2, fun h => ⟨by simp [Uw], .inl trivial, h⟩⟩
theorem Au1 (S : St) : Imp (.vec 26 (stC S)) (.agg (A5 S)) := Ai5 ⟨by simp [Bi], _, by simp only [stC, List.append_assoc]; rfl, _, rfl, _, rfl, by simp [N5], _, rfl, by simp [wE, Cu], [], by simp, rfl⟩
theorem Apm {S : St} {fl : Vc} {L : List Evt} {h d} : FunOk Tryz.prog 18 [hiP S fl L] h d (.vec 8 (vE S.known)) [] := by
 refine Ap Ag fn18 (by simp) rfl rfl fun F => ?_;simp (disch := omega) only [ir18, hiP, List.getElem?_cons_zero, Agc, Uo, Un, List.length_map, go_sem]
theorem Aps {S : St} {fl : Vc} {L : List Evt} {h d} : FunOk Tryz.prog 16 [hiP S fl L] h d (.vec 8 (vE fl)) [] := by
 refine Ap Ag fn16 (by simp) rfl rfl fun F => ?_;simp (disch := omega) only [ir16, hiP, List.getElem?_cons_zero, Agc, Uo, Un, List.length_map, go_sem]
theorem A1j {S : St} {fl : Vc} {L : List Evt} {h d} : FunOk Tryz.prog 17 [hiP S fl L] h d (.pv (.i .i64 L.length)) [] := by
 refine Ap Ag fn17 (by simp) rfl rfl fun F => ?_;simp (disch := omega) only [ir17, hiP, List.getElem?_cons_zero, Agc, Uo, Un, List.length_map, go_sem]
theorem Apb {S : St} {fl : Vc} {L : List Evt} (hS : Fine S) {h d} : FunOk Tryz.prog 21 [hiP S fl L] h d (.agg (A5 S)) [] := by
 refine Ap Ag fn21 (by simp) rfl rfl fun F => ?_;simp (disch := omega) only [ir21, hiP, List.getElem?_cons_zero, A2c, go_sem];refine Aa (FunOk.imp (Sc (s := S) hS) ⟨Au1 S, trivial⟩ (by simp [A6, tn, Acb])) ?_;simp (disch := omega) only [A5, A3, go_sem]
theorem Apd {S : St} {fl : Vc} {L : List Evt} (v : Vc) (hv : Rn fl v) {h d} : FunOk Tryz.prog 28 [hiP S fl L, .vec 8 (vE v)] h d (.tup [Am6 70 v L, .pv (.i .i64 0)]) [] := by
 refine Y7 Ag fn28 (by simp) rfl rfl fun F => ?_;have hv' := decide_eq_true hv;simp (disch := omega) only [ir28, hiP, List.getElem?_cons_zero, Uo, go_sem];refine Aa (Aik _ _) ?_;simp (disch := omega) only [hv', List.getElem?_cons_zero, Un, go_sem];refine Aa (Qh (.inr rfl)) ?_;simp (disch := omega) only [Am6, go_sem];refine ⟨_, Px 6 (x := .pv (.sl true 21 (L.map A9))) (cs := [.sl true 21 (L.map A9)]) rfl rfl (Px 3 (x := .vec 8 (vE v)) (cs := vE v) rfl rfl (.same _)), ?_⟩
 (try simp only [Ca, B9, B0, Bz, Bx, Bw, Bv, Bu]); simp (disch := omega) only [go_sem]
noncomputable def Ah0 (l0 : Nat) (S : St) (fl v : Vc) (L : List Evt) (most : Nat) (j : Nat) : FS := mk [(8, .pv (.i .i64 j)), (7, .pv (.i .i64 L.length)), (6, .pv (.sl true 21 (L.map A9))), (0, .fn (.yield l0) []), (2, .pi 8 [vE v] 0 0), (1000000, .pv (.i .i64 0)), (1000007, .p 6 0), (1000009, .p 8 0), (1000012, .p 11 0), (1000013, .p 12 0)] [(6, some (.var (.pv (.sl false 21 ((F5 v L).map A9))))), (8, some (.var (.pv (.b false)))), (11, some (.var (.pv (.i .i64 ((F5 v (L.take j)).length : Nat))))), (12, some (.var (.pv (.i .i64 most))))]
set_option maxHeartbeats 4000000 in
theorem Avs {S : St} {fl : Vc} {L : List Evt} (v : Vc) (stop : Int) (hv : Rn fl v) (hL : ∀ e ∈ L, ev e ∧ G1 e = e) (hn : L.length ≤ 100) {h d} : FunOk Tryz.prog 22 [hiP S fl L, .vec 8 (vE v), .pv (.sl false 21 ((F5 v L).map A9)), .pv (.i .i64 stop)] h d (.pv (.b true)) [] := by
 refine Ap Ag fn22 (by simp) rfl rfl fun F => ?_;obtain ⟨q, hq, hqn⟩ := Ab9 stop 30;have hqn' := hqn (by decide);have hq' : (IntKind.u64.wrap stop).tmod 30 = (q : Int) := hq;have hsl : (F5 v L).length ≤ L.length := List.length_filter_le _ _;simp (disch := omega) only [ir22, go_sem];refine Aa (Apd (S := S) (fl := fl) (L := L) v hv) ?_;simp (disch := omega) only [Am6, hq', go_sem];refine Aow Ag fn70 (by simp) fun l0 XI hc => ?_;rw [Aee _ _ _ (by show 3 ≤ 1000000; omega)];simp (disch := omega) only [ir70, List.getElem?_cons_zero, Aq2, List.length_map, go_sem];refine A1 Ag (Ah0 l0 S fl v L (q + 1)) (fun k => k ≤ L.length ∧ (F5 v (L.take k)).length < q + 1) (fun k => L.length - k) 0 ⟨by simp, by simp [F5, Tn]⟩ (Ak ?_ ?_) fun j hj => ?_
 · simp (disch := omega) only [go_sem]
 · simp (disch := omega) only [List.take_zero, show F5 v [] = [] from rfl, List.length_nil, go_sem]
 obtain ⟨hj1, hj2⟩ := hj;by_cases hlt : j < L.length
 · have hx : L[j]? = some L[j] := List.getElem?_eq_getElem hlt;have he : (L.map A9)[j]? = some (A9 L[j]) := by rw [List.getElem?_map, hx]; rfl
   have hmem := List.getElem_mem hlt;have hsn : F5 v (L.take (j + 1)) = F5 v (L.take j) ++ if Bh v L[j].rep L[j].seq = true then [] else [L[j]] := Wt hx
   have hat := A0n (v := v) hx;obtain ⟨hev, hce⟩ := hL _ hmem;have hkl : (F5 v (L.take j)).length ≤ j := Yy _ _ _;generalize L[j] = e at *;have hel := Ac e;by_cases hh' : Bh v e.rep e.seq = true
   · rw [if_pos hh', List.append_nil] at hsn;simp (disch := omega) only [Ah0, List.length_map, he, Bf, hel, List.getElem?_cons_zero, D9, Aq, go_sem];refine Aa (Gi _ _ _) ?_;rw [hh'];simp (disch := omega) only [go_sem];refine Ad (j + 1) _ _ rfl ⟨by omega, by rw [hsn]; exact hj2⟩ (by omega) ?_ ?_
     · simp (disch := omega) only [go_sem]
     · simp (disch := omega) only [hsn, go_sem]
   · rw [if_neg hh'] at hsn;have hh : Bh v e.rep e.seq = false := by simpa using hh'
     have hat' := hat hh';have hlw := (List.getElem?_eq_some_iff.1 hat').1;have hew : ((F5 v L).map A9)[(F5 v (L.take j)).length]? = some (A9 e) := by rw [List.getElem?_map, hat']; rfl
     have hln : (F5 v (L.take (j + 1))).length = (F5 v (L.take j)).length + 1 := by rw [hsn]; simp
     generalize hnn : (F5 v (L.take j)).length = n at *;simp (disch := omega) only [Ah0, hnn, List.length_map, he, Bf, hel, List.getElem?_cons_zero, D9, Aq, go_sem];refine Aa (Gi _ _ _) ?_;rw [hh];simp (disch := omega) only [Bf, hel, go_sem];refine Aa (Ky e hev) ?_;rw [hce];simp (disch := omega) only [go_sem];refine Ank Ag hc ?_ rfl fun XA XB => ?_
     · simp (disch := omega) only [go_sem]
     rw [Acx _ _ _ _ (A5n 32 (by decide))];have hge : ¬ ((F5 v L).length : Int) ≤ (n : Int) := by omega
     simp (disch := omega) only [List.length_map, Bf, hel, hew, hge, go_sem];refine Aa (Apf e e ⟨hev.1, hev.2.1, hev.2.2.1, hev.2.2.2.1⟩ ⟨hev.1, hev.2.1, hev.2.2.1, hev.2.2.2.1⟩) ?_;rw [Aos];by_cases hend : n + 1 = q + 1
     · have hz : (n : Int) + 1 = (q : Int) + 1 := by omega
       simp (disch := omega) only [hz, go_sem]
     · have hz : ¬ (n : Int) + 1 = (q : Int) + 1 := by omega
       simp (disch := omega) only [hz, go_sem];refine Ad (j + 1) _ _ rfl ⟨by omega, by omega⟩ (by omega) ?_ ?_
       · simp (disch := omega) only [go_sem]
       · simp (disch := omega) only [hln, go_sem]
 · obtain rfl : j = L.length := by omega
   have htk : L.take L.length = L := List.take_length;rw [htk] at hj2;have hm : min (((q + 1 : Nat) : Int)) ((F5 v L).length : Int) = ((F5 v L).length : Int) := by omega
   simp (disch := omega) only [Ah0, List.length_map, htk, hm, go_sem]
theorem Afp {fl kn : Vc} {R : List Evt × Int} (h0 : R.2 = 0) : ∀ (l p A : List Evt), (∀ e ∈ l, ev e) → Val A → R5 fl kn l p A = R → Val R.1 ∧ R.1.length ≤ A.length + l.length ∧ ∀ e ∈ l, Bh fl e.rep e.seq = false
 | [], p, A, _, hA, h => by
   unfold R5 at h;split at h
   · subst h; exact ⟨hA, by simp, fun e he => by cases he⟩
   · subst h; cases h0
 | e :: l, p, A, hl, hA, h => by
   have hle : ∀ x ∈ l, ev x := fun x hx => hl x (List.mem_cons_of_mem _ hx);unfold R5 at h;split at h
   · subst h; cases h0
   · rename_i h1;have hfe : Bh fl e.rep e.seq = false := by
      cases hq : Bh fl e.rep e.seq with
      | false => rfl
      | true => exact absurd (.inl hq) h1
     split at h
     · obtain ⟨a1, a2, a3⟩ := Afp h0 l _ A hle hA h;exact ⟨a1, by rw [List.length_cons]; omega, fun x hx => (List.mem_cons.1 hx).elim (fun q => q ▸ hfe) (a3 x)⟩
     · split at h
       · rename_i hw;obtain ⟨a1, a2, a3⟩ := Afp h0 l _ (A ++ [e]) hle (Val.snoc hA (hl e List.mem_cons_self) hw) h;exact ⟨a1, by rw [List.length_append, List.length_singleton] at a2; rw [List.length_cons]; omega, fun x hx => (List.mem_cons.1 hx).elim (fun q => q ▸ hfe) (a3 x)⟩
       · rename_i hw;subst h; exact absurd h0 hw
theorem A4n {cs : List PV} (h : GC (.arr 2 (.arr 8 (.int .u32))) cs) : ∃ a b : Vc, cs = vE a ++ vE b := by
 simp only [GC] at h;obtain ⟨cc, rfl, hl, hc⟩ := h
 match cc, hl with
 | [x, y], _ =>
   obtain ⟨a, rfl, _⟩ := At7 (by simp only [GC]; exact hc x (by simp));obtain ⟨b, rfl, _⟩ := At7 (by simp only [GC]; exact hc y (by simp));exact ⟨a, b, by simp⟩
theorem A2b (a b : Vc) (K : KK) : LoadK (some (vE a ++ vE b)) 0 8 true K = K (.vec 8 (vE a)) [] := by
 simp only [LoadK, Hr, eq_iff_iff];exact ⟨fun h => h.2.2, fun h => ⟨by simp [vE, Cu], .inl trivial, h⟩⟩
theorem Sk (a b : Vc) (K : KK) : LoadK (some (vE a ++ vE b)) 8 8 true K = K (.vec 8 (vE b)) [] := by
 simp only [LoadK, Hr, eq_iff_iff];exact ⟨fun h => h.2.2, fun h => ⟨by simp [vE, Cu], .inl trivial, h⟩⟩
noncomputable def Az7 (l T : List Evt) (a b : Vc) (q k : Nat) : FS := mk [(36, .pv (.i .i64 k)), (35, .pv (.i .i64 l.length)), (34, .pv (.sl false 21 (l.map A9))), (9, .os 40), (7, .pv (.sl false 21 (T.map A9))), (8, .pv (.i .i64 q)), (4, .p 4 0)] [(4, some (.var (.vec 16 (vE a ++ vE b)))), (40, some (.row 21 ((F5 a (l.take k)).map A9)))]
set_option maxHeartbeats 16000000 in
theorem Agd {l : List Evt} {a b : Vc} {turn : Int} (hl : ∀ e ∈ l, EvRaw e ∧ G1 e = e) {h d} :
 FunOk Tryz.prog 3 [.pv (.sl false 21 (l.map A9)), .vec 16 (vE a ++ vE b), .pv (.i .i64 turn)] h d (.pv (.b true)) [] := by
 refine Ap Ag fn3 (by simp) rfl rfl fun F => ?_;simp (disch := omega) only [ir3, go_sem];refine Aa Yn ?_;simp (disch := omega) only [go_sem];refine Aa (Apu (l := l) rfl rfl) ?_;by_cases hf' : Ajl l;rotate_left
 · have hf := Abk hf';simp (disch := omega) only [hf, go_sem];refine Aa Yn ?_;simp (disch := omega) only [go_sem]
 have hf := Ajc hf';have hin : ∀ e ∈ l, EvIn e := fun x hx => A05 (hl x hx).1 (hf'.2 x hx);have hl25 := hf'.1;obtain ⟨t1, t2, t3⟩ := Acg l fun x hx => (hin x hx).ev;simp (disch := omega) only [hf, go_sem];refine Aa (A1e (l := l) (by omega) hin) ?_;generalize Me l = T at *;obtain ⟨q, hk, hkn⟩ := Ab9 turn (T.length + 1);have hkn' : q ≤ T.length := by have := hkn (by omega); omega
 have hk' : (IntKind.u64.wrap turn).tmod ((T.length : Int) + 1) = (q : Int) := by simpa using hk
 have htk : (T.map A9).take q = (T.take q).map A9 := by rw [List.map_take]
 have hvk : Val (T.take q) := Val.pre (m := T.drop q) (by rw [List.take_append_drop]; exact t1);have hkl : (T.take q).length ≤ 25 := by rw [List.length_take]; omega
 simp (disch := omega) only [List.length_map, hk', go_sem];refine A1 Ag (Az7 l T a b q) (fun k => k ≤ l.length) (fun k => l.length - k) 0 (by simp) (Rr 9 40 21 rfl (by omega) (Ak ?_ ?_)) fun k hk0 => ?_
 · simp (disch := omega) only [go_sem]
 · simp (disch := omega) only [List.take_zero, show F5 a [] = [] from rfl, List.map_nil, go_sem]
 by_cases hlt : k < l.length
 · have hx : l[k]? = some l[k] := List.getElem?_eq_getElem hlt;have he : (l.map A9)[k]? = some (A9 l[k]) := by rw [List.getElem?_map, hx]; rfl
   have hsn : F5 a (l.take (k + 1)) = F5 a (l.take k) ++ if Bh a l[k].rep l[k].seq = true then [] else [l[k]] := Wt hx
   have hkl2 : (F5 a (l.take k)).length ≤ k := Yy _ _ _;generalize l[k] = e at *;have hel := Ac e;simp (disch := omega) only [Az7, List.length_map, he, Bf, hel, A2b, Aq, go_sem];refine Aa (Kl _ _ _) ?_;by_cases hh : Bh a e.rep e.seq = true
   · rw [if_pos hh, List.append_nil] at hsn;simp (disch := omega) only [hh, go_sem];refine Ad (k + 1) _ _ rfl (by omega) (by omega) ?_ ?_
     · simp (disch := omega) only [go_sem]
     · simp (disch := omega) only [hsn, go_sem]
   · rw [if_neg hh] at hsn;have hh' : Bh a e.rep e.seq = false := by simpa using hh
     simp (disch := omega) only [hh', Bf, hel, List.length_map, go_sem];refine ⟨k + 1, by omega, by omega, D2 49 40 (by decide) rfl (Ak ?_ ?_)⟩
     · simp (disch := omega) only [go_sem]
     · simp (disch := omega) only [hsn, List.map_append, List.map_cons, List.map_nil, go_sem]
 obtain rfl : k = l.length := by omega
 have htl : l.take l.length = l := List.take_length;have hle : (F5 a l).length ≤ l.length := List.length_filter_le _ _;have hlog : ∀ e ∈ F5 a l, EvIn e ∧ G1 e = e := fun e he => ⟨hin e (List.mem_filter.1 he).1, (hl e (List.mem_filter.1 he).1).2⟩
 generalize hgl : F5 a l = log at *;generalize hRR : R5 b (Bn (T.take q)) log [] (T.take q) = R;simp (disch := omega) only [Az7, List.length_map, htl, hgl, go_sem];refine Ayp (n := 40) rfl (Hp ?_);simp (disch := omega) only [List.length_map, htk, Sk, go_sem];refine Aa (Akg hvk hlog (by omega) hRR) ?_;simp (disch := omega) only [List.length_map, htk, Sk, go_sem];refine Hp ?_;simp (disch := omega) only [List.length_map, htk, Sk, go_sem];refine Aa (Wh (T8 hvk (show (T.take q).length ≤ 400 by omega)) (T7 hvk)) ?_;simp (disch := omega) only [List.length_map, htk, Sk, A5, A3, go_sem];by_cases hf0 : R.2 = 0;rotate_left
 · have hRp : ∀ h d, FunOk Tryz.prog 14 [.agg (A5 (An (T.take q))), .vec 8 (vE b), .pv (.sl false 21 (log.map A9))] h d (.tup [.pv (.v (.pointer none)), .pv (.i .i64 R.2)]) [] := fun h d => by
    have h1 := Ac8 (h := h) (d := d) hvk (fun e he => ⟨(hlog e he).1.ev, (hlog e he).2⟩) (by omega) hRR;unfold rsV at h1; rw [decide_eq_false hf0] at h1; exact h1
   refine Aa (hRp _ _) ?_;simp (disch := omega) only [hf0, go_sem]
 have hRp : ∀ h d, FunOk Tryz.prog 14 [.agg (A5 (An (T.take q))), .vec 8 (vE b), .pv (.sl false 21 (log.map A9))] h d (.tup [hiP (An R.1) b log, .pv (.i .i64 0)]) [] := fun h d => by
  have h1 := Ac8 (h := h) (d := d) hvk (fun e he => ⟨(hlog e he).1.ev, (hlog e he).2⟩) (by omega) hRR;unfold rsV at h1; rw [decide_eq_true hf0] at h1; exact h1
 refine Aa (hRp _ _) ?_;obtain ⟨r1, r2, r3⟩ := Afp hf0 log [] (T.take q) (fun e he => (hlog e he).1.ev) hvk hRR;have hR50 : R.1.length ≤ 50 := by omega
 generalize R.1 = A at *;have hAk : (An A).known = Bn A := Ef A;have hfi := (O4 r1 (show A.length ≤ 400 by omega)).fine;have hsl : F5 b log = log := by
  unfold F5 Tn; rw [List.filter_eq_self]; intro e he; simp [r3 e he]
 have c1 := Gm (vE b);have c2 := W2 b;have c3 := Gm (vE (Bn A));have c4 := W2 (Bn A);simp (disch := omega) only [hf0, hiP, go_sem];refine Aa (Aps (S := An A) (L := log)) ?_;simp (disch := omega) only [Sk, c1, c2, go_sem];refine Aa (A1j (S := An A) (L := log)) ?_;simp (disch := omega) only [List.length_map, go_sem];refine Aa (Apm (S := An A) (L := log)) ?_;rw [hAk];simp (disch := omega) only [go_sem];refine Aa (Sb (l := A) (by omega)) ?_;simp (disch := omega) only [c3, c4, go_sem];refine Aa (Apb (S := An A) (L := log) hfi) ?_;simp (disch := omega) only [A5, A3, go_sem];refine Aa (Wh (T8 r1 (show A.length ≤ 400 by omega)) (T7 r1)) ?_;simp (disch := omega) only [A5, A3, go_sem];refine Aa (Aph (s := An A) hfi) ?_;simp (disch := omega) only [Sk, go_sem];have hto := fun h d => Avs (S := An A) (fl := b) (L := log) b 29 (fun i _ => Nat.le_refl _) (fun e he => ⟨(hlog e he).1.ev, (hlog e he).2⟩) (by omega) (h := h) (d := d);rw [hsl] at hto;refine Aa (hto _ _) ?_;simp (disch := omega) only [go_sem]
theorem Oh {c0 c1 c2 : List PV} (g0 : GC (.sl Ah7) c0) (g1 : GC (.arr 2 (.arr 8 (.int .u32))) c1) (g2 : GC (.int .i64) c2) {h d} :
 FunOk Tryz.prog 3 [I6 (.sl Ah7) c0, I6 (.arr 2 (.arr 8 (.int .u32))) c1, I6 (.int .i64) c2] h d (.pv (.b true)) [] := by
 obtain ⟨es, rfl, _, g⟩ := At8 g0;have key : ∀ {cs}, GC Ah7 cs → ∃ e : Evt, cs = A9 e ∧ (EvRaw e ∧ G1 e = e) := fun {cs} hc => by
  obtain ⟨e, h1, h2, h3, h4⟩ := Ayz hc;refine ⟨e, h1, ⟨h2, by rw [h3]; exact .inr rfl, by rw [h4]; exact .inr rfl⟩, ?_⟩;unfold G1;rw [← h3, ← h4]
 obtain ⟨l, rfl, hl⟩ := Abp (f := A9) (p := fun e => EvRaw e ∧ G1 e = e) key g;obtain ⟨a, b, rfl⟩ := A4n g1;obtain ⟨t, rfl, _⟩ := A4o g2;exact Agd (a := a) (b := b) hl
end Go.Proofs.YthmjebkldgdeiaaGreat.Fw
