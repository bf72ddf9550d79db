/- What the functions compute that the laws of this seat reach. -/
import Derived.Test.YthmjebkldgdeiaaGreatWalk2
import Derived.OpenShut
import Derived.ShutString
import Derived.ChangeOld
import Derived.SizedLaws
import Derived.ChangeOld
import Derived.Lib.Bytealg
import Derived.Lib.Overlaps
import Derived.OpenShut
import Derived.ShutString
import Derived.SizedLaws
set_option linter.unusedVariables false
set_option linter.unusedSimpArgs false
set_option linter.unusedSectionVars false
set_option maxRecDepth 100000
namespace Go.Proofs.YthmjebkldgdeiaaGreat.Fw
open Go.RowKit Go.Proofs
theorem Ag9 (v : Vc) : D4 [K1.int .u32, .int .u32, .int .u32, .int .u32, .int .u32, .int .u32, .int .u32, .int .u32] (vE v) = True := eq_true rfl
theorem A38 (v : Nat → Int) : D4 [K1.int .i64, .int .i64, .int .i64, .int .i64, .int .i64, .int .i64, .int .i64, .int .i64] (iE v) = True := eq_true rfl
theorem A37 (v : Nat → Bool) : D4 [K1.bool, .bool, .bool, .bool, .bool, .bool, .bool, .bool] (wE v) = True := eq_true rfl
theorem Ayr (i : Bn) : D4 [K1.int .i64, .int .u32] [.i .i64 i.1, .i .u32 i.2] = True := eq_true rfl
def Afs (s : St) (k : Nat) : FS := mk [(5, .pv (.i .i64 k)), (2, .p 2 0), (3, .p 3 0)] [(2, some (.var (.agg (A7 s)))), (3, some (.var (.agg (A7 s))))]
set_option maxHeartbeats 2000000 in
theorem Aqg {s : St} (hs : Fine s) {h d} : FunOk Tryz.prog 20 [.agg (A7 s), .agg (A7 s)] h d (.pv (.b true)) [] := by
 refine Am Af fn20 (by simp) rfl rfl fun F => ?_;have p1 := Hd (vE s.known);have p2 := Hd (iE s.wards);have p3 := Hd (wE s.ret);have f1 := Ag9 s.known;have f2 := A38 s.wards;have f3 := A37 s.ret;simp (disch := omega) only [ir20, A7, A3, p1, p2, p3, f1, f2, f3, go_sem];refine Aa (Aqf (l := s.ents) rfl rfl rfl (Nat.le_trans hs.en (by omega))) ?_;simp (disch := omega) only [List.length_map, go_sem];refine Az Af (Afs s) (fun k => k ≤ s.objs.length) (fun k => s.objs.length - k) 0 (by simp) (Ah ?_ ?_) fun k hk => ?_
 · simp (disch := omega) only [go_sem]
 · simp (disch := omega) only [A7, A3, go_sem]
 by_cases hlt : k < s.objs.length
 · have h2 : (s.objs.map Ap)[k]? = some (Ap s.objs[k]) := by simp [hlt]
   have hvk := hs.ov _ (List.getElem_mem hlt);have hon := hs.on;generalize s.objs[k] = o at *;have hol := Ep o;have q1 := Hd [.i .i64 o.id.1, .i .u32 o.id.2];have q2 := Hd [.i .i64 o.last.1, .i .u32 o.last.2];have q3 := Hd (vE o.seen);have q4 := Ag9 o.seen;simp (disch := omega) only [Afs, A7, A3, List.length_map, go_sem];refine Jx ?_;simp (disch := omega) only [h2, List.length_map, Fv, hol, He, Es, Hy, Agr, Lx, E2, Ayr, q1, q2, q3, q4, go_sem];refine Aa (A2m (l := o.vers) (m := o.vers) rfl rfl rfl (by omega)) ?_;simp (disch := omega) only [go_sem];refine Ad (k + 1) _ _ rfl (by omega) (by omega) ?_ ?_
   · simp (disch := omega) only [go_sem]
   · simp (disch := omega) only [A7, A3, go_sem]
 · obtain rfl : k = s.objs.length := by omega
   simp (disch := omega) only [Afs, A7, A3, List.length_map, go_sem]
noncomputable def A1f (f : Bool) (l : List Evt) (k : Nat) : FS := mk [(4, .pv (.i .i64 k)), (3, .os 40), (0, .pv (.sl f 21 (l.map Bd)))] [(40, some (.row 21 ((Mi (l.take k)).map Bd)))]
structure EvIn (e : Evt) : Prop where
 ev : ev e
 dep : ∀ i, i < 8 → e.dep i < 4294967296
set_option maxHeartbeats 4000000 in
theorem A2l {f : Bool} {l : List Evt} {h d} (hn : l.length ≤ 400) (hev : ∀ e ∈ l, EvIn e) : FunOk Tryz.prog 11 [.pv (.sl f 21 (l.map Bd))] h d (.pv (.sl false 21 ((Mi l).map Bd))) [] := by
 refine Nf Af fn11 (by simp) rfl fun F => ?_;simp (disch := omega) only [ir11, go_sem];refine Az Af (A1f f l) (fun k => k ≤ l.length) (fun k => l.length - k) 0 (by simp) (O8 3 40 21 rfl (by omega) (Ah ?_ ?_)) fun k hk => ?_
 · simp (disch := omega) only [go_sem]
 · simp (disch := omega) only [Mi, List.take_zero, List.foldl_nil, List.map_nil, go_sem]
 by_cases hlt : k < l.length
 · have hx : l[k]? = some l[k] := List.getElem?_eq_getElem hlt;have he : (l.map Bd)[k]? = some (Bd l[k]) := by rw [List.getElem?_map, hx]; rfl
   have ht := Cz hx;have hsn := Vw (l.take k) l[k];rw [← ht] at hsn;obtain ⟨t1, t2, t3⟩ := Aco (l.take k) fun e he => (hev e (List.mem_of_mem_take he)).ev;have tl : (Mi (l.take k)).length ≤ 400 := by have := List.length_take_le k l; omega
   have hek := hev _ (List.getElem_mem hlt);generalize l[k] = e at *;have hel := Ac e;generalize hT : Mi (l.take k) = T at *;have hin := R5 t1 tl;simp (disch := omega) only [A1f, hT, go_sem];refine Aa (Wx (Ul t1 tl) (Uk t1) rfl) ?_;simp (disch := omega) only [List.length_map, he, Bg, hel, go_sem];refine ⟨rfl, Aa (A0e hin hek.ev hek.dep) ?_⟩;by_cases hw : Ew (Av T) e = 0
   · have e1 : R7 T e = T ++ [e] := if_pos hw;rw [e1] at hsn;simp (disch := omega) only [hw, List.length_map, he, Bg, hel, go_sem];refine ⟨k + 1, by omega, by omega, D5 25 40 (by decide) rfl (Ah ?_ ?_)⟩
     · simp (disch := omega) only [go_sem]
     · simp (disch := omega) only [hsn, List.map_append, List.map_cons, List.map_nil, go_sem]
   · have e1 : R7 T e = T := if_neg hw;rw [e1] at hsn;simp (disch := omega) only [hw, go_sem];refine Ad (k + 1) _ _ rfl (by omega) (by omega) ?_ ?_
     · simp (disch := omega) only [go_sem]
     · simp (disch := omega) only [hsn, go_sem]
 · obtain rfl : k = l.length := by omega
   have htk : l.take l.length = l := List.take_length;simp (disch := omega) only [A1f, List.length_map, htk, go_sem]
def Az8 (e : Evt) : Prop := e.name.length ≤ 30 ∧ e.data.length ≤ 250 ∧ e.gone.l.length ≤ 10 ∧ e.base.l.length ≤ 10
theorem Vt (s : St) : A5 (A7 s) = [] := by simp [A7, A3, A5, tn]
abbrev Yr : Sh := .st [Acy, .arr 8 (.int .u32), .int .i64, Acy, Acy, .str, .sl Acy, .sl Acy, .int .i64, .str, .int .i64]
theorem Az7 {cs : List PV} (h : GC Yr cs) : ∃ e : Evt, cs = Bd e ∧ (∀ i, i < 8 → e.dep i < 4294967296) ∧ e.gone = ⟨false, 2, e.gone.l⟩ ∧ e.base = ⟨false, 2, e.base.l⟩ := by
 simp only [GC] at h;simp only [GCL] at h;obtain ⟨c0, r0, rfl, g0, c1, r1, rfl, g1, c2, r2, rfl, ⟨n2, rfl, w2⟩, c3, r3, rfl, g3, c4, r4, rfl, g4, c5, r5, rfl, ⟨s5, rfl, w5⟩, c6, r6, rfl, g6, c7, r7, rfl, g7, c8, r8, rfl, ⟨n8, rfl, w8⟩, c9, r9, rfl, ⟨s9, rfl, w9⟩, c10, r10, rfl, ⟨n10, rfl, w10⟩, rfl⟩ := h;obtain ⟨b0, rfl, hb0⟩ := Aff (by simp only [GC]; exact g0);obtain ⟨a, rfl, ha⟩ := Ava (by simp only [GC]; exact g1);obtain ⟨b3, rfl, hb3⟩ := Aff (by simp only [GC]; exact g3);obtain ⟨b4, rfl, hb4⟩ := Aff (by simp only [GC]; exact g4);obtain ⟨e6, rfl, l6, g6⟩ := Avb (s := Acy) (by simp only [GC]; exact g6);obtain ⟨e7, rfl, l7, g7⟩ := Avb (s := Acy) (by simp only [GC]; exact g7);obtain ⟨m6, rfl, _⟩ := Abz (f := Eb) Aff g6;obtain ⟨m7, rfl, _⟩ := Abz (f := Eb) Aff g7;exact ⟨⟨b0.1, b0.2, a, n2, b3.1, b3.2, b4.1, b4.2, s5, ⟨false, 2, m6⟩, ⟨false, 2, m7⟩, n8, s9, n10⟩, by simp [Bd, Eb, SlI.pv]; rfl, ha, rfl, rfl⟩
structure EvRaw (e : Evt) : Prop where
 dep : ∀ i, i < 8 → e.dep i < 4294967296
 gone : e.gone.ok
 base : e.base.ok
theorem Ap1 {e : Evt} (h : EvRaw e) (k : Az8 e) : EvIn e := by
 obtain ⟨k1, k2, k3, k4⟩ := k;exact ⟨⟨h.gone, h.base, by omega, by omega, by omega⟩, h.dep⟩
structure GrewO (x y : Obj) : Prop where
 id : y.id = x.id
 dir : y.dir = x.dir
 seen : Um x.seen y.seen
 len : x.vers.length ≤ y.vers.length
theorem GrewO.trans {x y z : Obj} (h : GrewO x y) (k : GrewO y z) : GrewO x z := ⟨k.id.trans h.id, k.dir.trans h.dir, fun i hi => Nat.le_trans (h.seen i hi) (k.seen i hi), Nat.le_trans h.len k.len⟩
structure Wd where
 w : Nat → Int
 v : Vc
 r : Nat → Bool
end Go.Proofs.YthmjebkldgdeiaaGreat.Fw
namespace Go.Proofs.YthmjebkldgdeiaaGreat.Fw
open Go.RowKit Go.Proofs
variable {P : Program}
theorem As2 (hm : P.follows .mixedOrders = true) {f N' : Nat} {rs : List Rv} {c : C} (hf : A6 P f = some (N', rs, c)) {args : List SV} {h : Nat → Option Blk} {d : Nat} {x : SV} (hlen : args.length ≤ N')
 (hargs : SV.closedL args = true) (hx : x.closed = true) (hrun : ∀ F, sx (Rx P F N') c (An7 rs fun y g => ∃ n, y = .p n 0 ∧ g.h n = some (.var x)) (mk (C9 0 args) [])) :
 FunOk P f args h d (.p d 0) [.new d (.var x)] := by
 obtain ⟨h1, h2, h3⟩ := Cj hargs;refine ⟨Cp hf, fun F N ρ s a w hR hh vs hc => ?_⟩;refine Calls.mono (Dn hm hf (h := h) hlen h2 Aax (by rw [h3]; exact hrun) hR hh hc) fun e w' he => ?_;obtain ⟨v, rfl, hg, N'', ρ', s', a', y, hR', hy, n, rfl, hn⟩ := he;rw [h1, Dv] at hR' hy;simp only [Conc] at hy;obtain ⟨b0, hy1, hy2⟩ := hy;obtain ⟨b, vs', ty, fr, u, g1, g2, g3, g4, g5, g6, g7⟩ := hR'.own n _ hn;have hown : ∀ b, Cs (ρ' n) = some b → w.heap.size ≤ b ∧ b < w'.heap.size := fun b hb => by
  have ho : Cn ρ' s'.h b := ⟨n, _, hn, hb⟩
  exact ⟨(hR'.may b ho).resolve_right id, hR'.lt ho⟩
 have hle : (vw ⟨w, fun _ => False, F.out ρ s.h, fun _ => undef, []⟩ w' ρ' s').le (A0 w' (F.out (upd ρ d (ρ' n)) ((s.kill d).seth d (some (.var x))).h)) := Bj fun b' c' hno hc' => ⟨fun hb' => hno (by
  rcases hb' with ⟨m, z, hm1, hm2⟩ | hb'
  · simp only [FS.seth, FS.kill] at hm1;by_cases hmd : m = d
    · subst hmd;rw [A1] at hm2;exact .inl ⟨n, _, hn, hm2⟩
    · rw [Br hmd] at hm2;simp only [hmd, if_false] at hm1;obtain ⟨z', hz', _⟩ := Option.map_eq_some_iff.1 hm1;exact .inr (.inl ⟨m, z', hz', hm2⟩)
  · exact .inr (.inr hb')), hc'⟩
 have hnew := hR.adopt hg d (.var x) (ρ' n) hown fun hV => ⟨b, vs', ty, fr, u, by rw [A1]; exact g1, g2, g3, Bx hle hx g4, g5, g6, g7⟩
 refine ⟨v, _, rfl, hnew.1, ?_⟩;simp only [Conc];exact ⟨b0, by rw [A1]; exact hy1, hy2⟩
end Go.Proofs.YthmjebkldgdeiaaGreat.Fw
namespace Go.Proofs.YthmjebkldgdeiaaGreat.Fw
open Go.RowKit Go.Proofs
theorem Y0 {f : Bool} {z : Nat} {es : List (List PV)} {h d} (hz : es = [] ∨ z = 2) (hb : es.length ≤ 1000) : FunOk Tryz.prog 98 [.pv (.sl f z es)] h d (.pv (.sl false 2 es)) [] := by
 refine Nf Af fn98 (by simp) rfl fun F => ?_;simp (disch := omega) only [ir98, go_sem];intro b hb';cases b
 · simp (disch := omega) only [go_sem]
 · have he : es = [] := by
    cases es with
    | nil => rfl
    | cons c l => exact absurd (hb' (by simp)) (by simp)
   subst he
   (try simp only [Cg, Cf, Ce, Cd, Cc, Cb, Ca, B9]); simp (disch := omega) only [go_sem]
   decide
theorem Ado {f : Bool} {z : Nat} {es : List (List PV)} (hz : es = [] ∨ z = 21) {h d} : FunOk Tryz.prog 69 [.pv (.sl f z es)] h d (.pv (.sl true z es)) [] := by
 refine Am Af fn69 (by simp) rfl rfl fun F => ?_;have e := List.take_length (l := es);simp (disch := omega) only [ir69, hz, e, List.drop_zero, go_sem]
def H1 (e : Evt) : Evt := { e with gone := ⟨false, 2, e.gone.l⟩, base := ⟨false, 2, e.base.l⟩ }
theorem Aj5 {e : Evt} (h : ev e) : ev (H1 e) := ⟨.inr rfl, .inr rfl, h.2.2.1, h.2.2.2.1, h.2.2.2.2⟩
theorem Ao4 (e : Evt) (g : SlI) : splice (Bd e) 16 [g.pv] = Bd { e with gone := g } := by
 simp only [splice, Bd, vE, Ch]; rfl
theorem Ao6 (e : Evt) (g : SlI) : splice (Bd e) 17 [g.pv] = Bd { e with base := g } := by
 simp only [splice, Bd, vE, Ch]; rfl
theorem Sp (e : Evt) (he : ev e) {h d} : FunOk Tryz.prog 57 [.vec 21 (Bd e)] h d (.vec 21 (Bd (H1 e))) [] := by
 refine Am Af fn57 (by simp) rfl rfl fun F => ?_;obtain ⟨h1, h2, h3, h4, h5⟩ := he;have hg : e.gone.pv = .sl e.gone.f e.gone.z (e.gone.l.map Eb) := rfl;have hb : e.base.pv = .sl e.base.f e.base.z (e.base.l.map Eb) := rfl;have hel := Ac e;have s1 := Ao4 e ⟨false, 2, e.gone.l⟩;have s2 := Ao6 { e with gone := ⟨false, 2, e.gone.l⟩ } ⟨false, 2, e.base.l⟩;simp only [SlI.pv] at s1 s2;simp (disch := omega) only [ir57, F9, Fi, hg, hb, go_sem];refine Aa (Y0 (es := e.gone.l.map Eb) (h1.imp (fun q => by rw [q]; rfl) id) (by rw [List.length_map]; omega)) ?_;simp (disch := omega) only [Fi, hb, go_sem];refine Aa (Y0 (es := e.base.l.map Eb) (h2.imp (fun q => by rw [q]; rfl) id) (by rw [List.length_map]; omega)) ?_;simp (disch := omega) only [hel, s1, s2, Bg, go_sem];rfl
def Apq (S : St) (fl : Vc) (f : Bool) (z : Nat) (L : List Evt) : List SV := A7 S ++ [.vec 8 (vE fl), .pv (.sl f z (L.map Bd))]
def Rw (S : St) (fl : Vc) (L : List Evt) : SV := .agg (Apq S fl false 21 L)
theorem Adg {S : St} (hS : Fine S) {h d} : FunOk Tryz.prog 23 [.agg (A7 S)] h d (.p d 0) [.new d (.var (Rw S S.known []))] := by
 refine As2 Af fn23 (by simp) rfl rfl fun F => ?_;simp (disch := omega) only [ir23, A7, A3, go_sem];refine Aa (Yz (s := S) hS) ?_;simp (disch := omega) only [A7, A3, go_sem];have hi : Imp (.agg (A7 S ++ [.vec 8 (vE S.known), .pv (.sl true 0 [])])) (Rw S S.known []) :=
  Xb (l := [.vec 8 (vE S.known), .pv (.sl false 15 (S.objs.map Ap)), .pv (.sl false 15 (S.ents.map Bm)), .vec 8 (iE S.wards), .vec 8 (wE S.ret), .vec 8 (vE S.known), .pv (.sl true 0 [])]) (m := [.vec 8 (vE S.known), .pv (.sl false 15 (S.objs.map Ap)), .pv (.sl false 15 (S.ents.map Bm)), .vec 8 (iE S.wards), .vec 8 (wE S.ret), .vec 8 (vE S.known), .pv (.sl false 21 [])]) ⟨⟨Imp.refl _, rfl⟩, ⟨Imp.refl _, rfl⟩, ⟨Imp.refl _, rfl⟩, ⟨Imp.refl _, rfl⟩, ⟨Imp.refl _, rfl⟩, ⟨Imp.refl _, rfl⟩, ⟨S4 (Hc (fun q => by cases q) (.inl rfl) (.refl _)), rfl⟩, trivial⟩
 refine ⟨mk [(2, .p 8 0)] [(8, some (.var (Rw S S.known [])))], Ah ?_ ?_, ?_⟩
 · simp (disch := omega) only [go_sem]
 · simp (disch := omega) only [go_sem];exact ⟨hi, rfl⟩
 (try simp only [Cg, Cf, Ce, Cd, Cc, Cb, Ca, B9]); simp (disch := omega) only [go_sem]
 exact ⟨8, rfl, if_pos rfl⟩
end Go.Proofs.YthmjebkldgdeiaaGreat.Fw
namespace Go.Proofs.YthmjebkldgdeiaaGreat.Fw
open Go.RowKit Go.Proofs
theorem Aqm {S : St} {fl : Vc} {L : List Evt}  {g : Nat} {h d} (hg : h g = some (.var (Rw S fl L))) : FunOk Tryz.prog 18 [.p g 0] h d (.vec 8 (vE S.known)) [] := by
 refine FunOk.quiet (g := g) (blk := .var (Rw S fl L)) ?_ hg (by simp [A5, tn]);refine FunOk.io (fun h d hg => ?_) rfl rfl rfl rfl hg;refine Ia (g := 900) Af fn18 (by simp) (by simp [A5, tn]) (by simp [A5, tn]) hg rfl (by simp [Blk.ptr, SV.kill]) rfl (fun _ => rfl) fun F => ?_;simp (disch := omega) only [ir18, Rw, Apq, A7, A3, Blk.ptr, List.length_map, List.cons_append, List.nil_append, go_sem]
 skip
 refine ⟨_, .same _, ?_⟩
 (try simp only [Cg, Cf, Ce, Cd, Cc, Cb, Ca, B9]); simp (disch := omega) only [go_sem]
 exact ⟨900, rfl, rfl⟩
theorem Aqc {S : St} {fl : Vc} {L : List Evt} (hS : Fine S) {g : Nat} {h d} (hg : h g = some (.var (Rw S fl L))) : FunOk Tryz.prog 21 [.p g 0] h d (.agg (A7 S)) [] := by
 refine FunOk.quiet (g := g) (blk := .var (Rw S fl L)) ?_ hg (by simp [A5, tn]);refine FunOk.io (fun h d hg => ?_) rfl rfl rfl rfl hg;refine Ia (g := 900) Af fn21 (by simp) (by simp [A5, tn]) (by simp [A5, tn]) hg rfl (by simp [Blk.ptr, SV.kill]) rfl (fun _ => rfl) fun F => ?_;simp (disch := omega) only [ir21, Rw, Apq, A7, A3, Blk.ptr, List.cons_append, List.nil_append, go_sem];refine Aa (Yz (s := S) hS) ?_;simp (disch := omega) only [A7, A3, go_sem];refine ⟨_, .same _, ?_⟩
 (try simp only [Cg, Cf, Ce, Cd, Cc, Cb, Ca, B9]); simp (disch := omega) only [go_sem]
 exact ⟨900, rfl, rfl⟩
def A5n (m : Nat) (v : Vc) (L : List Evt) : SV := .fn (.func m) [.pi 1 [[.sl true 21 (L.map Bd)]] 0 0, .pi 8 [vE v] 0 0]
theorem Aqd {S : St} {fl : Vc} {L : List Evt} (v : Vc) (hv : Um fl v) {g : Nat} {h d} (hg : h g = some (.var (Rw S fl L))) : FunOk Tryz.prog 28 [.p g 0, .vec 8 (vE v)] h d (.tup [A5n 70 v L, .pv (.i .i64 0)]) [] := by
 refine FunOk.quiet (g := g) (blk := .var (Rw S fl L)) ?_ hg (by simp [A5, tn]);refine FunOk.io (fun h d hg => ?_) rfl rfl rfl rfl hg;refine Ia (g := 900) Af fn28 (by simp) (by simp [A5, tn]) (by simp [A5, tn]) hg rfl (by simp [Blk.ptr, SV.kill]) rfl (fun _ => rfl) fun F => ?_;have hv' := decide_eq_true hv;simp (disch := omega) only [ir28, Rw, Apq, A7, A3, Blk.ptr, List.cons_append, List.nil_append, go_sem];refine Aa (A0f _ _) ?_;simp (disch := omega) only [hv', go_sem];refine Aa (Ado (.inr rfl)) ?_;simp (disch := omega) only [A5n, go_sem];refine ⟨_, Aia 6 (x := .pv (.sl true 21 (L.map Bd))) (cs := [.sl true 21 (L.map Bd)]) rfl rfl (Aia 3 (x := .vec 8 (vE v)) (cs := vE v) rfl rfl (.same _)), ?_⟩
 (try simp only [Cg, Cf, Ce, Cd, Cc, Cb, Ca, B9]); simp (disch := omega) only [go_sem]
 exact ⟨900, rfl, rfl⟩
noncomputable def Z1 (S : St) (e : Evt) : St := if Ew S e = 0 then Hn S e else S
open Classical in
noncomputable def Afa (S : St) (L : List Evt) (e : Evt) : List Evt := if Ew S e = 0 then L ++ [H1 e] else L
set_option maxHeartbeats 2000000 in
theorem A2z {S : St} {fl : Vc} {L : List Evt} {e : Evt} (hs : StIn S) (he : ev e) (hn : L.length ≤ 1000) {g : Nat} {h d} (hg : h g = some (.var (Rw S fl L))) : FunOk Tryz.prog 29 [.p g 0, .vec 21 (Bd e)] h d (.pv (.i .i64 (Ew S e))) [.upd g (.var (Rw (Z1 S e) fl (Afa S L e)))] := by
 refine FunOk.io (fun h d hg => ?_) rfl rfl rfl rfl hg;refine Ia (g := 900) Af fn29 (by simp) (by simp [A5, tn]) (by simp [A5, tn]) hg rfl (by simp [Blk.ptr, SV.kill]) rfl (fun _ => rfl) fun F => ?_;have hel := Ac e;have hel2 := Ac (H1 e);simp (disch := omega) only [ir29, Rw, Apq, A7, A3, Blk.ptr, List.cons_append, List.nil_append, Bg, hel, go_sem];refine Aa (Aja (s := S) hs he) ?_;by_cases hw : Ew S e = 0
 · have e1 : Aay S e = Z1 S e := by unfold Aay Z1; rw [if_pos hw, if_pos hw]
   have e2 : Afa S L e = L ++ [H1 e] := if_pos hw;rw [e1, hw];simp (disch := omega) only [A7, A3, go_sem];refine Aa (Ado (.inr rfl)) ?_;simp (disch := omega) only [Bg, hel, go_sem];refine Aa (Sp e he) ?_;simp (disch := omega) only [hel2, go_sem];refine ⟨fun q => (by cases q), _, Ec 34 rfl (.same _), ?_⟩
   (try simp only [Cg, Cf, Ce, Cd, Cc, Cb, Ca, B9]); simp (maxSteps := 10000000) (disch := omega) only [e2, List.map_append, List.map_cons, List.map_nil, go_sem]
   exact ⟨900, rfl, rfl⟩
 · have e1 : Z1 S e = S := if_neg hw;have e2 : Afa S L e = L := if_neg hw;rw [e1, e2];simp (disch := omega) only [A7, A3, hw, go_sem];refine ⟨_, .same _, ?_⟩
   (try simp only [Cg, Cf, Ce, Cd, Cc, Cb, Ca, B9]); simp (disch := omega) only [go_sem]
   exact ⟨900, rfl, rfl⟩
def Oe : Evt := ⟨1, 1, fun _ => 0, 1, 0, 0, 0, 0, [97], .nil, .nil, 0, [], 0⟩
theorem Bb1 : Bk Oe = true := by
 have h1 : Iv Oe := ⟨by decide, by decide, by decide, by decide, rfl, by decide, by decide⟩
 have h2 : Ov Oe := fun i _ => by simp [Oe]
 rw [Gn h1 h2, Avi rfl, Abi rfl];decide
theorem A4k : ev Oe := ⟨.inl rfl, .inl rfl, by decide, by decide, by decide⟩
theorem A0q : Acc (Av []) Oe := ⟨Bb1, rfl, fun i _ => Nat.le_refl _, rfl, rfl⟩
theorem Aib : Ew (Av []) Oe = 0 := Rr.2 A0q
theorem A9k : Av [Oe] = Hn (Av []) Oe := Xt (l := []) Val.nil A0q
theorem Bai : Z1 (Av []) Oe = Av [Oe] := by unfold Z1; rw [if_pos Aib, A9k]
theorem A5o : Afa (Av []) [] Oe = [H1 Oe] := by unfold Afa; rw [if_pos Aib]; rfl
theorem Aha : Fine (Av []) := (R5 Val.nil (by simp)).fine
theorem Bbi (n : Nat) (S : St) (fl : Vc) (L : List Evt) : SV.kill n (Rw S fl L) = Rw S fl L := rfl
theorem Bav (S : St) (fl : Vc) (L : List Evt) : SV.width (Rw S fl L) = 35 := rfl
theorem Bbu (n : Nat) (p : PV) (S : St) (fl : Vc) (L : List Evt) : SV.frz n p (Rw S fl L) = Rw S fl L := rfl
attribute [go_sem] Bbi Bav Bbu
theorem Ar3 : (Av []).known = fun _ => 0 := rfl
theorem A3d (es : List (List PV)) (f : Bool) (z : Nat) (K : KK) : LoadK (some [.sl f z es]) 0 1 false K = K (.pv (.sl f z es)) [] := by
 simp only [LoadK, Hp, eq_iff_iff];exact ⟨fun h => h.2.2, fun h => ⟨by simp, .inr trivial, h⟩⟩
theorem A6q (p : Nat) (hp : p < 1000) : ∀ q ∈ [p], q < It := by
 intro q hq;have : It = 1000000 := rfl;simp at hq; omega
end Go.Proofs.YthmjebkldgdeiaaGreat.Fw
namespace Go.Proofs.YthmjebkldgdeiaaGreat.Fw
open Go.RowKit Go.Proofs
def Afg (l : List Evt) : Prop := l.length ≤ 25 ∧ ∀ e ∈ l, Az8 e
open Classical in
noncomputable def Zj (l : List Evt) : Bool := decide (Afg l)
theorem Abu {l : List Evt} (h : Afg l) : Zj l = true := by simp [Zj, h]
theorem Ve {l : List Evt} (h : ¬ Afg l) : Zj l = false := by simp [Zj, h]
def Pd (f : Bool) (l : List Evt) (k : Nat) : FS := mk [(10, .pv (.i .i64 k)), (9, .pv (.i .i64 l.length)), (8, .pv (.sl f 21 (l.map Bd)))] []
theorem Avu {T : List Evt} {e : Evt} (h : Val T) (he : ev e) : Val (R7 T e) ∧ (R7 T e).length ≤ T.length + 1 := by
 unfold R7;split
 · rename_i hw; exact ⟨Val.snoc h he hw, by simp⟩
 · exact ⟨h, by omega⟩
end Go.Proofs.YthmjebkldgdeiaaGreat.Fw
namespace Go.Proofs.YthmjebkldgdeiaaGreat.Fw
open Go.RowKit
variable {P : Program} {F : Fr} {N : Nat} {ρ ρ' : Nat → Value} {s : FS} {a : Act} {w w' : World} {V V' : View}
end Go.Proofs.YthmjebkldgdeiaaGreat.Fw
namespace Go.Proofs.YthmjebkldgdeiaaGreat.Fw
open Go.RowKit Go.Proofs
def Y9 (P : Evt → Bool) (l : List Evt) : List Evt := l.filter fun v => !P v
theorem Agx {P : Evt → Bool} {l : List Evt} {k : Nat} {v : Evt} (hv : l[k]? = some v) : Y9 P (l.take (k + 1)) = Y9 P (l.take k) ++ if P v = true then [] else [v] := by
 unfold Y9;rw [List.take_add_one, hv, List.filter_append];congr 1;cases hp : P v <;> simp [hp]
def Ig (v : Vc) (T : List Evt) : List Evt := Y9 (fun e => Bl v e.rep e.seq) T
theorem Aml {a b : List Bn} (hl : a.length = b.length) (h : ∀ j, j < a.length → a.getD j (0, 0) = b.getD j (0, 0)) : a = b := by
 apply List.ext_getElem hl;intro j h1 h2;have := h j h1
 rwa [List.getD_eq_getElem?_getD, List.getD_eq_getElem?_getD, List.getElem?_eq_getElem h1, List.getElem?_eq_getElem h2] at this
theorem Asm {a : List Bn} {k : Nat} (h : k < a.length) : (a.map Eb)[k]? = some (Eb (a.getD k (0, 0))) := by
 simp [List.getD_eq_getElem?_getD, List.getElem?_eq_getElem h]
def Aik (f g : Bool) (y z : Nat) (a b : List Bn) (k : Nat) : FS := mk [(5, .pv (.i .i64 k)), (0, .pv (.sl f y (a.map Eb))), (1, .pv (.sl g z (b.map Eb)))] []
set_option maxHeartbeats 1000000 in
theorem M2 {f g : Bool} {y z : Nat} {a b : List Bn} {h d} (hy : a = [] ∨ y = 2) (hz : b = [] ∨ z = 2) (hn : a.length ≤ 1000) (hn' : b.length ≤ 1000) :
 FunOk Tryz.prog 104 [.pv (.sl f y (a.map Eb)), .pv (.sl g z (b.map Eb))] h d (.pv (.b (decide (a = b)))) [] := by
 refine Co Af fn104 (by simp) rfl rfl fun F => ?_;simp (disch := omega) only [go_sem];by_cases hlen : a.length = b.length
 · have hle : (a.length : Int) = (b.length : Int) := by omega
   simp (disch := omega) only [ir104, List.length_map, hle, go_sem];refine Az Af (Aik f g y z a b) (fun k => k ≤ a.length ∧ ∀ j, j < k → a.getD j (0, 0) = b.getD j (0, 0)) (fun k => a.length - k) 0 (by simp) (Ah ?_ ?_) fun k hk => ?_
   · simp (disch := omega) only [List.length_map, hle, go_sem]
   · simp (disch := omega) only [go_sem]
   obtain ⟨hk1, hk2⟩ := hk;by_cases hlt : k < a.length
   · have hy1 : y = 2 := hy.resolve_left fun e => by subst e; simp at hlt
     have hz1 : z = 2 := hz.resolve_left fun e => by subst e; rw [List.length_nil] at hlen; omega
     subst hy1; subst hz1;have h1 := Asm hlt;have h2 := Asm (a := b) (k := k) (by omega);have hb : k < b.length := by omega
     by_cases hd : a.getD k (0, 0) = b.getD k (0, 0)
     · rw [← hd] at h2;have hd0 := hd;generalize a.getD k (0, 0) = u at h1 h2;have hp := Gs (r := u.1) (r' := u.1) (q := u.2) (q' := u.2) ⟨rfl, rfl⟩;simp (disch := omega) only [Aik, List.length_map, hlen, h1, h2, Ej, Ae, hp, go_sem];refine Ad (k + 1) _ _ rfl ⟨by omega, fun j hj => ?_⟩ (by omega) ?_ ?_
       · by_cases e : j = k
         · subst e; exact hd
         · exact hk2 j (by omega)
       · simp (disch := omega) only [go_sem]
       · simp (disch := omega) only [go_sem]
     · have hne : ¬ a = b := fun e => hd (by rw [e]);generalize a.getD k (0, 0) = u at *;generalize b.getD k (0, 0) = v at *;have hp := Fh (r := u.1) (r' := v.1) (q := u.2) (q' := v.2) fun e => hd (Prod.ext e.1 e.2);simp (disch := omega) only [Aik, List.length_map, hlen, h1, h2, Ej, Ae, hp, hne, go_sem]
   · obtain rfl : k = a.length := by omega
     have he := Aml hlen hk2;subst he
     (try simp only [Cg, Cf, Ce, Cd, Cc, Cb, Ca, B9]); simp (disch := omega) only [Aik, List.length_map, go_sem]
 · have hle : ¬ (a.length : Int) = (b.length : Int) := by omega
   have hne : ¬ a = b := fun e => hlen (by rw [e]);simp (disch := omega) only [ir104, List.length_map, hle, hne, go_sem]
def Eo (a b : Evt) : Bool := decide (a.rep = b.rep ∧ a.seq = b.seq) && (decide (vEq a.dep b.dep) && (decide (a.kind = b.kind) && (decide (a.orep = b.orep ∧ a.oseq = b.oseq) && (decide (a.drep = b.drep ∧ a.dseq = b.dseq) && (decide (a.name = b.name) && (decide (a.gone.l = b.gone.l) && (decide (a.base.l = b.base.l) && (decide (a.off = b.off) && (decide (a.data = b.data) && decide (a.ward = b.ward))))))))))
set_option maxHeartbeats 4000000 in
theorem Aqe (a b : Evt) (ha : a.gone.ok ∧ a.base.ok ∧ a.gone.l.length ≤ 1000 ∧ a.base.l.length ≤ 1000) (hb : b.gone.ok ∧ b.base.ok ∧ b.gone.l.length ≤ 1000 ∧ b.base.l.length ≤ 1000) {h d} : FunOk Tryz.prog 65 [.vec 21 (Bd a), .vec 21 (Bd b)] h d (.pv (.b (Eo a b))) [] := by
 refine Am Af fn65 (by simp) rfl rfl fun F => ?_;obtain ⟨a1, a2, a3, a4⟩ := ha;obtain ⟨b1, b2, b3, b4⟩ := hb;by_cases c0 : a.rep = b.rep ∧ a.seq = b.seq;rotate_left
 · have c0f := eq_false c0;have c0p : Qk [PV.i .i64 a.rep, PV.i .u32 a.seq] [PV.i .i64 b.rep, PV.i .u32 b.seq] = false := Fh c0;have eb : Eo a b = false := by simp only [Eo, c0f, decide_true, decide_false, Bool.true_and, Bool.false_and, Bool.and_true, Bool.and_false, Bool.and_self]
   simp (disch := omega) only [ir65, Aw, Ae, C3, Dt, c0p, eb, go_sem]
 have c0t := eq_true c0;have c0p : Qk [PV.i .i64 a.rep, PV.i .u32 a.seq] [PV.i .i64 b.rep, PV.i .u32 b.seq] = true := Gs c0;by_cases c1 : vEq a.dep b.dep;rotate_left
 · have c1f := eq_false c1;have eb : Eo a b = false := by simp only [Eo, c0t, c1f, decide_true, decide_false, Bool.true_and, Bool.false_and, Bool.and_true, Bool.and_false, Bool.and_self]
   simp (disch := omega) only [ir65, Aw, Ae, C3, Dt, c0p, c1f, eb, go_sem]
 have c1t := eq_true c1;by_cases c2 : a.kind = b.kind;rotate_left
 · have c2f := eq_false c2;have eb : Eo a b = false := by simp only [Eo, c0t, c1t, c2f, decide_true, decide_false, Bool.true_and, Bool.false_and, Bool.and_true, Bool.and_false, Bool.and_self]
   simp (disch := omega) only [ir65, Aw, Ae, C3, Dt, c0p, c1t, c2f, eb, go_sem]
 have c2t := eq_true c2;by_cases c3 : a.orep = b.orep ∧ a.oseq = b.oseq;rotate_left
 · have c3f := eq_false c3;have c3p : Qk [PV.i .i64 a.orep, PV.i .u32 a.oseq] [PV.i .i64 b.orep, PV.i .u32 b.oseq] = false := Fh c3;have eb : Eo a b = false := by simp only [Eo, c0t, c1t, c2t, c3f, decide_true, decide_false, Bool.true_and, Bool.false_and, Bool.and_true, Bool.and_false, Bool.and_self]
   simp (disch := omega) only [ir65, Aw, Ae, C3, Dt, c0p, c1t, c2t, c3p, eb, go_sem]
 have c3t := eq_true c3;have c3p : Qk [PV.i .i64 a.orep, PV.i .u32 a.oseq] [PV.i .i64 b.orep, PV.i .u32 b.oseq] = true := Gs c3;by_cases c4 : a.drep = b.drep ∧ a.dseq = b.dseq;rotate_left
 · have c4f := eq_false c4;have c4p : Qk [PV.i .i64 a.drep, PV.i .u32 a.dseq] [PV.i .i64 b.drep, PV.i .u32 b.dseq] = false := Fh c4;have eb : Eo a b = false := by simp only [Eo, c0t, c1t, c2t, c3t, c4f, decide_true, decide_false, Bool.true_and, Bool.false_and, Bool.and_true, Bool.and_false, Bool.and_self]
   simp (disch := omega) only [ir65, Aw, Ae, C3, Dt, c0p, c1t, c2t, c3p, c4p, eb, go_sem]
 have c4t := eq_true c4;have c4p : Qk [PV.i .i64 a.drep, PV.i .u32 a.dseq] [PV.i .i64 b.drep, PV.i .u32 b.dseq] = true := Gs c4;by_cases c5 : a.name = b.name;rotate_left
 · have c5f := eq_false c5;have eb : Eo a b = false := by simp only [Eo, c0t, c1t, c2t, c3t, c4t, c5f, decide_true, decide_false, Bool.true_and, Bool.false_and, Bool.and_true, Bool.and_false, Bool.and_self]
   simp (disch := omega) only [ir65, Aw, Ae, C3, Dt, c0p, c1t, c2t, c3p, c4p, c5f, eb, go_sem]
 have c5t := eq_true c5;by_cases c6 : a.gone.l = b.gone.l;rotate_left
 · have c6f := eq_false c6;have eb : Eo a b = false := by simp only [Eo, c0t, c1t, c2t, c3t, c4t, c5t, c6f, decide_true, decide_false, Bool.true_and, Bool.false_and, Bool.and_true, Bool.and_false, Bool.and_self]
   simp (disch := omega) only [ir65, Aw, Ae, C3, Dt, c0p, c1t, c2t, c3p, c4p, c5t, c6f, go_sem];refine Aa (M2 (a := a.gone.l) (b := b.gone.l) a1 b1 a3 b3) ?_;simp (disch := omega) only [Aw, Ae, C3, Dt, c0p, c1t, c2t, c3p, c4p, c5t, c6f, eb, go_sem]
 have c6t := eq_true c6;by_cases c7 : a.base.l = b.base.l;rotate_left
 · have c7f := eq_false c7;have eb : Eo a b = false := by simp only [Eo, c0t, c1t, c2t, c3t, c4t, c5t, c6t, c7f, decide_true, decide_false, Bool.true_and, Bool.false_and, Bool.and_true, Bool.and_false, Bool.and_self]
   simp (disch := omega) only [ir65, Aw, Ae, C3, Dt, c0p, c1t, c2t, c3p, c4p, c5t, c6t, c7f, go_sem];refine Aa (M2 (a := a.gone.l) (b := b.gone.l) a1 b1 a3 b3) ?_;simp (disch := omega) only [Aw, Ae, C3, Dt, c0p, c1t, c2t, c3p, c4p, c5t, c6t, c7f, go_sem];refine Aa (M2 (a := a.base.l) (b := b.base.l) a2 b2 a4 b4) ?_;simp (disch := omega) only [Aw, Ae, C3, Dt, c0p, c1t, c2t, c3p, c4p, c5t, c6t, c7f, eb, go_sem]
 have c7t := eq_true c7;by_cases c8 : a.off = b.off;rotate_left
 · have c8f := eq_false c8;have eb : Eo a b = false := by simp only [Eo, c0t, c1t, c2t, c3t, c4t, c5t, c6t, c7t, c8f, decide_true, decide_false, Bool.true_and, Bool.false_and, Bool.and_true, Bool.and_false, Bool.and_self]
   simp (disch := omega) only [ir65, Aw, Ae, C3, Dt, c0p, c1t, c2t, c3p, c4p, c5t, c6t, c7t, c8f, go_sem];refine Aa (M2 (a := a.gone.l) (b := b.gone.l) a1 b1 a3 b3) ?_;simp (disch := omega) only [Aw, Ae, C3, Dt, c0p, c1t, c2t, c3p, c4p, c5t, c6t, c7t, c8f, go_sem];refine Aa (M2 (a := a.base.l) (b := b.base.l) a2 b2 a4 b4) ?_;simp (disch := omega) only [Aw, Ae, C3, Dt, c0p, c1t, c2t, c3p, c4p, c5t, c6t, c7t, c8f, eb, go_sem]
 have c8t := eq_true c8;by_cases c9 : a.data = b.data;rotate_left
 · have c9f := eq_false c9;have eb : Eo a b = false := by simp only [Eo, c0t, c1t, c2t, c3t, c4t, c5t, c6t, c7t, c8t, c9f, decide_true, decide_false, Bool.true_and, Bool.false_and, Bool.and_true, Bool.and_false, Bool.and_self]
   simp (disch := omega) only [ir65, Aw, Ae, C3, Dt, c0p, c1t, c2t, c3p, c4p, c5t, c6t, c7t, c8t, c9f, go_sem];refine Aa (M2 (a := a.gone.l) (b := b.gone.l) a1 b1 a3 b3) ?_;simp (disch := omega) only [Aw, Ae, C3, Dt, c0p, c1t, c2t, c3p, c4p, c5t, c6t, c7t, c8t, c9f, go_sem];refine Aa (M2 (a := a.base.l) (b := b.base.l) a2 b2 a4 b4) ?_;simp (disch := omega) only [Aw, Ae, C3, Dt, c0p, c1t, c2t, c3p, c4p, c5t, c6t, c7t, c8t, c9f, eb, go_sem]
 have c9t := eq_true c9;by_cases c10 : a.ward = b.ward;rotate_left
 · have c10f := eq_false c10;have eb : Eo a b = false := by simp only [Eo, c0t, c1t, c2t, c3t, c4t, c5t, c6t, c7t, c8t, c9t, c10f, decide_true, decide_false, Bool.true_and, Bool.false_and, Bool.and_true, Bool.and_false, Bool.and_self]
   simp (disch := omega) only [ir65, Aw, Ae, C3, Dt, c0p, c1t, c2t, c3p, c4p, c5t, c6t, c7t, c8t, c9t, c10f, go_sem];refine Aa (M2 (a := a.gone.l) (b := b.gone.l) a1 b1 a3 b3) ?_;simp (disch := omega) only [Aw, Ae, C3, Dt, c0p, c1t, c2t, c3p, c4p, c5t, c6t, c7t, c8t, c9t, c10f, go_sem];refine Aa (M2 (a := a.base.l) (b := b.base.l) a2 b2 a4 b4) ?_;simp (disch := omega) only [Aw, Ae, C3, Dt, c0p, c1t, c2t, c3p, c4p, c5t, c6t, c7t, c8t, c9t, c10f, eb, go_sem]
 have c10t := eq_true c10;have eb : Eo a b = true := by simp only [Eo, c0t, c1t, c2t, c3t, c4t, c5t, c6t, c7t, c8t, c9t, c10t, decide_true, decide_false, Bool.true_and, Bool.false_and, Bool.and_true, Bool.and_false, Bool.and_self]
 simp (disch := omega) only [ir65, Aw, Ae, C3, Dt, c0p, c1t, c2t, c3p, c4p, c5t, c6t, c7t, c8t, c9t, c10t, go_sem];refine Aa (M2 (a := a.gone.l) (b := b.gone.l) a1 b1 a3 b3) ?_;simp (disch := omega) only [Aw, Ae, C3, Dt, c0p, c1t, c2t, c3p, c4p, c5t, c6t, c7t, c8t, c9t, c10t, go_sem];refine Aa (M2 (a := a.base.l) (b := b.base.l) a2 b2 a4 b4) ?_;simp (disch := omega) only [Aw, Ae, C3, Dt, c0p, c1t, c2t, c3p, c4p, c5t, c6t, c7t, c8t, c9t, c10t, eb, go_sem]
theorem Apr (e : Evt) : Eo e e = true := by simp [Eo, vEq]
structure HAct where
 kind : Int
 v : Vc
 stop : Int
abbrev Tb := Nat → Vc
def Gh (t : Tb) (rep : Int) (v : Vc) : Tb := fun i => if (i : Int) + 1 = rep then Cm (t i) v else t i
def Ms (a b : Tb) : Tb := fun i => Cm (a i) (b i)
theorem Vx (t : Tb) (rep : Int) (v : Vc) (i j : Nat) : Gh t rep v i j = if (i : Int) + 1 = rep then max (t i j) (v j) else t i j := by
 unfold Gh Cm; split <;> rfl
theorem Aor (t : Tb) (rep : Int) (v : Vc) (k : Nat) (h : rep = k + 1) : tE (Dp t k (Cm (t k) v)) = tE (Gh t rep v) :=
 Ix fun i hi j hj => by
  unfold Dp Gh;by_cases e : i = k
  · subst e; rw [if_pos rfl, if_pos (by omega)]
  · rw [if_neg e, if_neg (by omega)]
theorem Tr (t : Tb) (rep : Int) (v : Vc) (h : rep < 1 ∨ 8 < rep) : tE (Gh t rep v) = tE t :=
 Ix fun i hi j hj => by unfold Gh; rw [if_neg (by omega)]
theorem Ai3 (t : Tb) (rep : Int) (v : Vc) (hr : -9223372036854775808 ≤ rep ∧ rep < 9223372036854775808) {h d} : FunOk Tryz.prog 72 [.vec 64 (tE t), .pv (.i .i64 rep), .vec 8 (vE v)] h d (.vec 64 (tE (Gh t rep v))) [] := by
 refine Am Af fn72 (by simp) rfl rfl fun F => ?_;by_cases h1 : 1 ≤ rep ∧ rep ≤ 8
 · obtain ⟨k, rfl⟩ : ∃ k : Nat, rep = k + 1 := ⟨rep.toNat - 1, by omega⟩
   have e1 : ((k : Int) + 1 - 1) = k := by omega
   simp (disch := omega) only [ir72, e1, go_sem];refine Aa (Agh _ _) ?_;simp (disch := omega) only [e1, go_sem];rw [Aor _ _ _ _ rfl]
 · by_cases h2 : rep < 1
   · simp (disch := omega) only [ir72, Tr, go_sem]
   · simp (disch := omega) only [ir72, Tr, go_sem]
def E7 (t : Tb) (rep : Int) (v : Vc) (i k : Nat) : Tb := fun i' j => if (i' < i ∨ i' = i ∧ j < k) ∧ (i' : Int) + 1 = rep then max (t i' j) (v j) else t i' j
def V4 (t : Tb) (rep : Int) (v : Vc) (i : Nat) : FS := mk [(7, .pv (.i .i64 i)), (6, .p 6 0), (5, .p 5 0), (3, .p 3 0), (1, .pv (.i .i64 rep))] [(3, some (.var (.vec 64 (tE (E7 t rep v i 0))))), (5, some (.var (.vec 8 (vE v)))), (6, some (.var (.vec 64 (tE fun _ _ => 0))))]
def Ky (t : Tb) (rep : Int) (v : Vc) (i : Nat) (k : Nat) : FS := mk [(8, .pv (.i .i64 k)), (7, .pv (.i .i64 i)), (6, .p 6 0), (5, .p 5 0), (3, .p 3 0), (1, .pv (.i .i64 rep))] [(3, some (.var (.vec 64 (tE (E7 t rep v i k))))), (5, some (.var (.vec 8 (vE v)))), (6, some (.var (.vec 64 (tE fun _ _ => 0))))]
set_option maxHeartbeats 1000000 in
theorem Adj (t : Tb) (rep : Int) (v : Vc) (hr : -9223372036854775808 ≤ rep ∧ rep < 9223372036854775808) {h d} : FunOk Tryz.prog 73 [.vec 64 (tE t), .pv (.i .i64 rep), .vec 8 (vE v)] h d (.vec 64 (tE (Gh t rep v))) [] := by
 refine Am Af fn73 (by simp) rfl rfl fun F => ?_;simp (disch := omega) only [ir73, go_sem];have e0 : tE (E7 t rep v 0 0) = tE t := Ix fun i hi j hj => by unfold E7; rw [if_neg (by omega)]
 refine Az Af (V4 t rep v) (fun k => k ≤ 8) (fun k => 8 - k) 0 (by simp) (Ah ?_ ?_) fun i hi => ?_
 · simp (disch := omega) only [go_sem]
 · simp (disch := omega) only [e0, go_sem]
 by_cases hlt : i < 8
 · simp (disch := omega) only [V4, go_sem];refine Az Af (Ky t rep v i) (fun k => k ≤ 8) (fun k => 8 - k) 0 (by simp) (Ah ?_ ?_) fun k hk => ?_
   · simp (disch := omega) only [go_sem]
   · simp (disch := omega) only [go_sem]
   by_cases hlk : k < 8
   · have e2 : E7 t rep v i k i k = t i k := by unfold E7; rw [if_neg (by omega)]
     by_cases hrep : (i : Int) + 1 = rep
     · by_cases hm : ((t i k : Nat) : Int) < (v k : Int)
       · simp (disch := omega) only [Ky, e2, go_sem];refine Ad (k + 1) _ _ rfl (by omega) (by omega) ?_ ?_
         · simp (disch := omega) only [go_sem]
         · simp (disch := omega) only [go_sem];refine Hh (Ix fun i' hi' j hj => ?_)
           (try simp only [Ak4]); simp only [Dp, E7]
           grind
       · simp (disch := omega) only [Ky, e2, go_sem];refine Ad (k + 1) _ _ rfl (by omega) (by omega) ?_ ?_
         · simp (disch := omega) only [go_sem]
         · simp (disch := omega) only [go_sem];refine Hh (Ix fun i' hi' j hj => ?_);unfold E7;grind
     · simp (disch := omega) only [Ky, e2, go_sem];refine Ad (k + 1) _ _ rfl (by omega) (by omega) ?_ ?_
       · simp (disch := omega) only [go_sem]
       · simp (disch := omega) only [go_sem];refine Hh (Ix fun i' hi' j hj => ?_);unfold E7;grind
   · simp (disch := omega) only [Ky, go_sem];refine Ad (i + 1) _ _ rfl (by omega) (by omega) ?_ ?_
     · simp (disch := omega) only [go_sem]
     · simp (disch := omega) only [go_sem];refine Hh (Ix fun i' hi' j hj => ?_);unfold E7;grind
 · have e3 : tE (E7 t rep v i 0) = tE (Gh t rep v) := Ix fun i' hi' j hj => by simp only [Vx, E7]; grind
   simp (disch := omega) only [V4, e3, go_sem]
def Aae (a b : Tb) (k : Nat) : FS := mk [(8, .pv (.i .i64 k)), (7, .vec 64 (tE b)), (4, .p 4 0), (2, .p 2 0)] [(2, some (.var (.vec 64 (tE fun i => if i < k then Ms a b i else a i)))), (4, some (.var (.vec 64 (tE fun _ _ => 0))))]
theorem Awy (a b : Tb) {h d} : FunOk Tryz.prog 74 [.vec 64 (tE a), .vec 64 (tE b)] h d (.vec 64 (tE (Ms a b))) [] := by
 refine Am Af fn74 (by simp) rfl rfl fun F => ?_;simp (disch := omega) only [ir74, go_sem];refine Az Af (Aae a b) (fun k => k ≤ 8) (fun k => 8 - k) 0 (by simp) (Ah ?_ ?_) fun k hk => ?_
 · simp (disch := omega) only [go_sem]
 · simp (disch := omega) only [Aig, go_sem]
 by_cases hlt : k < 8
 · simp (disch := omega) only [Aae, go_sem];refine Aa (Agh _ _) ?_;simp (disch := omega) only [go_sem];refine Ad (k + 1) _ _ rfl (by omega) (by omega) ?_ ?_
   · simp (disch := omega) only [go_sem]
   · simp (disch := omega) only [go_sem];exact Hh (Afq _ _ _ fun i hi => by simp [Ms])
 · simp (disch := omega) only [Aae, Aos, go_sem]
def Vz (a b : Tb) (k : Nat) : FS := mk [(5, .pv (.i .i64 k)), (4, .p 4 0), (3, .p 3 0), (2, .p 2 0)] [(2, some (.var (.vec 64 (tE fun i => if i < k then Ms a b i else a i)))), (3, some (.var (.vec 64 (tE b)))), (4, some (.var (.vec 64 (tE fun _ _ => 0))))]
theorem Aqb (a b : Tb) {h d} : FunOk Tryz.prog 75 [.vec 64 (tE a), .vec 64 (tE b)] h d (.vec 64 (tE (Ms a b))) [] := by
 refine Am Af fn75 (by simp) rfl rfl fun F => ?_;simp (disch := omega) only [ir75, go_sem];refine Az Af (Vz a b) (fun k => k ≤ 8) (fun k => 8 - k) 0 (by simp) (Ah ?_ ?_) fun k hk => ?_
 · simp (disch := omega) only [go_sem]
 · simp (disch := omega) only [Aig, go_sem]
 by_cases hlt : k < 8
 · simp (disch := omega) only [Vz, go_sem];refine Aa (Adj _ _ _ (by omega)) ?_;simp (disch := omega) only [go_sem];refine Ad (k + 1) _ _ rfl (by omega) (by omega) ?_ ?_
   · simp (disch := omega) only [go_sem]
   · simp (disch := omega) only [go_sem];refine Hh (Ix fun i' hi' j hj => ?_);have e : (if i' < k + 1 then Ms a b i' else a i') j = if i' < k + 1 then max (a i' j) (b i' j) else a i' j := by split <;> rfl
     have e' : (if i' < k then Ms a b i' else a i') j = if i' < k then max (a i' j) (b i' j) else a i' j := by split <;> rfl
     simp only [Vx, e, e'];grind
 · simp (disch := omega) only [Vz, Aos, go_sem]
end Go.Proofs.YthmjebkldgdeiaaGreat.Fw
namespace Go.Proofs.YthmjebkldgdeiaaGreat.Fw
open Go.RowKit Go.Proofs
structure Msg where
 k : Int
 fr : Int
 to : Int
 kn : Vc
 tb : Nat → Vc
 f : Bool
 z : Nat
 evs : List Evt
def Il (m : Msg) : List PV := [.i .i64 m.k, .i .i64 m.fr, .i .i64 m.to] ++ vE m.kn ++ tE m.tb ++ [.sl m.f m.z (m.evs.map Bd)]
def Aau (m : Msg) (x : SV) : List SV := [.pv (.i .i64 m.k), .pv (.i .i64 m.fr), .pv (.i .i64 m.to), .vec 8 (vE m.kn), .vec 64 (tE m.tb), x]
def Qa (m : Msg) : List SV := Aau m (.pv (.sl m.f m.z (m.evs.map Bd)))
theorem Adu (m : Msg) : (Il m).length = 76 := by simp [Il, vE, tE, Ch]
theorem Af5 (m : Msg) : SV.cellsL? (Qa m) = some (Il m) := rfl
theorem A3i (m : Msg) (K : KK) : LoadK (some (Il m)) 0 1 false K = K (.pv (.i .i64 m.k)) [] := by
 simp only [LoadK, Hp, eq_iff_iff];exact ⟨fun h => h.2.2, fun h => ⟨by simp [Il, vE, tE, Ch], .inr trivial, h⟩⟩
theorem A3h (m : Msg) (K : KK) : LoadK (some (Il m)) 1 1 false K = K (.pv (.i .i64 m.fr)) [] := by
 simp only [LoadK, Hp, eq_iff_iff];exact ⟨fun h => h.2.2, fun h => ⟨by simp [Il, vE, tE, Ch], .inr trivial, h⟩⟩
theorem A3g (m : Msg) (K : KK) : LoadK (some (Il m)) 2 1 false K = K (.pv (.i .i64 m.to)) [] := by
 simp only [LoadK, Hp, eq_iff_iff];exact ⟨fun h => h.2.2, fun h => ⟨by simp [Il, vE, tE, Ch], .inr trivial, h⟩⟩
theorem Axt (m : Msg) (K : KK) : LoadK (some (Il m)) 75 1 false K = K (.pv (.sl m.f m.z (m.evs.map Bd))) [] := by
 simp only [LoadK, Hp, eq_iff_iff];exact ⟨fun h => h.2.2, fun h => ⟨by simp [Il, vE, tE, Ch], .inr trivial, h⟩⟩
theorem A3f (m : Msg) (K : KK) : LoadK (some (Il m)) 3 8 true K = K (.vec 8 (vE m.kn)) [] := by
 simp only [LoadK, Hp, eq_iff_iff];exact ⟨fun h => h.2.2, fun h => ⟨by simp [Il, vE, tE, Ch], .inl trivial, h⟩⟩
theorem A3e (m : Msg) (K : KK) : LoadK (some (Il m)) 11 64 true K = K (.vec 64 (tE m.tb)) [] := by
 simp only [LoadK, Hp, eq_iff_iff];exact ⟨fun h => h.2.2, fun h => ⟨by simp [Il, vE, tE, Ch], .inl trivial, h⟩⟩
attribute [go_sem] A3i A3h A3g Axt A3f A3e Adu
theorem Ag0 (m : Msg) : Imp (.agg (Qa m)) (.vec 76 (Il m)) := Gu (Af5 m) (Adu m)
theorem Z9 (m : Msg) : A5 (Qa m) = [] := by simp [Qa, Aau, A5, tn]
def Aka (m : Msg) : Prop := (m.k = 1 ∨ m.k = 2) ∧ (1 ≤ m.fr ∧ m.fr ≤ 8) ∧ (1 ≤ m.to ∧ m.to ≤ 8) ∧ m.fr ≠ m.to ∧ m.evs.length ≤ 8 ∧ (m.k = 1 → m.evs.length = 0)
open Classical in
noncomputable def Aeg (m : Msg) : Bool := decide (Aka m)
theorem Ajv {m : Msg} (h : Aka m) : Aeg m = true := by simp [Aeg, h]
theorem Q5 {m : Msg} (h : ¬ Aka m) : Aeg m = false := by simp [Aeg, h]
def Sf (n : Int) : Bool := decide (1 ≤ n ∧ n ≤ 8)
theorem Aqi (n : Int) {h d} : FunOk Tryz.prog 80 [.pv (.i .i64 n)] h d (.pv (.b (Sf n))) [] := by
 refine Am Af fn80 (by simp) rfl rfl fun F => ?_;by_cases h1 : 1 ≤ n
 · have e : Sf n = decide (n ≤ 8) := by simp [Sf, h1]
   simp (disch := omega) only [ir80, h1, e, go_sem]
 · have e : Sf n = false := by simp [Sf, h1]
   simp (disch := omega) only [ir80, h1, e, go_sem]
theorem Ali {f : Bool} {z : Nat} {h d} : FunOk Tryz.prog 97 [.pv (.sl f z []), .fn (.func 81) []] h d (.pv (.i .i64 (-1))) [] := by
 refine Am Af fn97 (by simp) rfl rfl fun F => ?_;simp (disch := omega) only [ir97, List.length_nil, go_sem];refine Az Af (fun _ : Nat => mk [(8, .pv (.i .i64 0)), (7, .pv (.i .i64 0)), (0, .pv (.sl f z [])), (1, .fn (.func 81) [])] []) (fun _ => True) (fun _ => 0) 0 trivial (Ah ?_ ?_) fun k hk => ?_
 · simp (disch := omega) only [go_sem]
 · simp (disch := omega) only [go_sem]
 simp (disch := omega) only [go_sem]
theorem Aqz {f : Bool} {z : Nat} {h d} :
 FunOk Tryz.prog 55 [.pv (.sl f z []), .fn (.func 81) []] h d (.pv (.b false)) [] := by
 refine Am Af fn55 (by simp) rfl rfl fun F => ?_;simp (disch := omega) only [ir55, go_sem];refine Aa Ali ?_;simp (disch := omega) only [go_sem]
set_option maxHeartbeats 8000000 in
theorem Aq2 (m : Msg) (hk : m.k = 1) {h d} : FunOk Tryz.prog 46 [.vec 76 (Il m)] h d (.pv (.b (Aeg m))) [] := by
 refine Am Af fn46 (by simp) rfl rfl fun F => ?_;simp (disch := omega) only [ir46, List.length_map, hk, go_sem];refine Aa (Aqi m.fr) ?_;by_cases r1 : 1 ≤ m.fr ∧ m.fr ≤ 8;rotate_left
 · have e := Q5 (m := m) fun h => r1 h.2.1;have er : Sf m.fr = false := by simp only [Sf, r1, decide_false]
   simp (disch := omega) only [er, e, go_sem]
 have er : Sf m.fr = true := by simp only [Sf, r1, and_self, decide_true]
 simp (disch := omega) only [er, go_sem];refine Aa (Aqi m.to) ?_;by_cases r2 : 1 ≤ m.to ∧ m.to ≤ 8;rotate_left
 · have e := Q5 (m := m) fun h => r2 h.2.2.1;have er : Sf m.to = false := by simp only [Sf, r2, decide_false]
   simp (disch := omega) only [er, e, go_sem]
 have er : Sf m.to = true := by simp only [Sf, r2, and_self, decide_true]
 by_cases r3 : m.fr = m.to
 · have e := Q5 (m := m) fun h => h.2.2.2.1 r3;simp (disch := omega) only [er, r3, e, go_sem]
 by_cases r4 : (8 : Int) < (m.evs.length : Int)
 · have e := Q5 (m := m) fun h => by have := h.2.2.2.2.1; omega
   simp (disch := omega) only [er, r3, r4, e, go_sem]
 by_cases r5 : (0 : Int) < (m.evs.length : Int)
 · have e := Q5 (m := m) fun h => by have := h.2.2.2.2.2 hk; omega
   simp (disch := omega) only [er, r3, r4, hk, r5, e, List.length_map, go_sem]
 have e := Ajv (m := m) ⟨.inl hk, r1, r2, r3, by omega, fun _ => by omega⟩;have e0 : m.evs = [] := List.eq_nil_of_length_eq_zero (by omega);simp (disch := omega) only [er, r3, r4, hk, r5, List.length_map, e0, List.map_nil, go_sem];refine Aa Aqz ?_;simp (disch := omega) only [e, go_sem]
theorem Baw (v : Vc) : vE v ++ (vE v ++ (vE v ++ (vE v ++ (vE v ++ (vE v ++ (vE v ++ vE v)))))) = tE fun _ => v := Akg fun _ => v
def Ahq (t : Nat → Vc) (self to : Int) (v : Vc) : Msg := ⟨1, self, to, v, Gh t self v, true, 0, []⟩
theorem Aq6 {S : St} {fl : Vc} {L : List Evt} (t : Nat → Vc) (self to : Int) (hr : -9223372036854775808 ≤ self ∧ self < 9223372036854775808) {g : Nat} {h d} (hg : h g = some (.var (Rw S fl L))) : FunOk Tryz.prog 34 [.p g 0, .vec 64 (tE t), .pv (.i .i64 self), .pv (.i .i64 to)] h d (.agg (Qa (Ahq t self to S.known))) [] := by
 refine FunOk.quiet (g := g) (blk := .var (Rw S fl L)) ?_ hg (by simp [A5, tn]);refine FunOk.io (fun h d hg => ?_) rfl rfl rfl rfl hg;refine Ia (g := 900) Af fn34 (by simp) (by simp [A5, tn]) (by simp [A5, tn]) hg rfl (by simp [Blk.ptr, SV.kill]) rfl (fun _ => rfl) fun F => ?_;simp (disch := omega) only [ir34, Blk.ptr, go_sem];refine Aa (Aqm (S := S) (L := L) rfl) ?_;simp (disch := omega) only [go_sem];refine Aa (Ai3 t self S.known hr) ?_;simp (disch := omega) only [go_sem];refine ⟨_, .same _, ?_⟩
 (try simp only [Cg, Cf, Ce, Cd, Cc, Cb, Ca, B9]); simp (disch := omega) only [Qa, Aau, Ahq, List.map_nil, go_sem]
 exact ⟨900, rfl, rfl⟩
noncomputable def Ng (T l : List Evt) : List Evt := l.foldl R7 T
noncomputable def O1 (T l : List Evt) : List Evt := (Ng T l).drop T.length
theorem Q9 (T l : List Evt) (e : Evt) : Ng T (l ++ [e]) = R7 (Ng T l) e := by simp [Ng]
theorem Vb (T : List Evt) : ∀ l : List Evt, Ng T l = T ++ O1 T l ∧ (O1 T l).length ≤ l.length ∧ ∀ e ∈ O1 T l, e ∈ l :=
 P8 ⟨by simp [Ng, O1], by simp [Ng, O1], fun e he => by simp [Ng, O1] at he⟩ fun l e ih => by
  obtain ⟨h1, h2, h3⟩ := ih;have hs := Q9 T l e;unfold R7 at hs;split at hs
  · have e1 : O1 T (l ++ [e]) = O1 T l ++ [e] := by
     unfold O1 at h1 ⊢;rw [hs, h1, List.append_assoc, List.drop_left];simp
    refine ⟨by rw [e1, hs, ← List.append_assoc, ← h1], by rw [e1]; simp only [List.length_append, List.length_singleton]; omega, fun f hf => ?_⟩;rw [e1] at hf;rcases List.mem_append.1 hf with hf | hf
    · exact List.mem_append_left _ (h3 f hf)
    · exact List.mem_append_right _ hf
  · have e1 : O1 T (l ++ [e]) = O1 T l := by unfold O1; rw [hs]
    rw [e1, hs];exact ⟨h1, by simp only [List.length_append, List.length_singleton]; omega, fun f hf => List.mem_append_left _ (h3 f hf)⟩
theorem Va {T : List Evt} (hT : Val T) : ∀ l : List Evt, (∀ e ∈ l, ev e) → Val (Ng T l) :=
 P8 (fun _ => hT) fun l e ih hl => by
  have h1 := ih fun f hf => hl f (List.mem_append_left _ hf);rw [Q9];exact (Avu h1 (hl e (by simp))).1
theorem Aem {T l : List Evt} {e : Evt} (hT : Val T) (hl : ∀ f ∈ l, ev f) : (Ew (Av (Ng T l)) e = 0 → Aay (Av (Ng T l)) e = Av (Ng T (l ++ [e])) ∧ O1 T (l ++ [e]) = O1 T l ++ [e] ∧ Ng T (l ++ [e]) = Ng T l ++ [e]) ∧ (Ew (Av (Ng T l)) e ≠ 0 → O1 T (l ++ [e]) = O1 T l ∧ Ng T (l ++ [e]) = Ng T l) := by
 have hv := Va hT l hl;have h1 := (Vb T l).1;refine ⟨fun hw => ?_, fun hw => ?_⟩
 · have hs : Ng T (l ++ [e]) = Ng T l ++ [e] := by rw [Q9]; exact if_pos hw
   refine ⟨by rw [Awo hv hw, hs], ?_, hs⟩;unfold O1 at h1 ⊢;rw [hs, h1, List.append_assoc, List.drop_left];simp
 · have hs : Ng T (l ++ [e]) = Ng T l := by rw [Q9]; exact if_neg hw
   exact ⟨by unfold O1; rw [hs], hs⟩
theorem Aql (t : Nat → Vc) (m : Msg) (hr : -9223372036854775808 ≤ m.fr ∧ m.fr < 9223372036854775808) {h d} : FunOk Tryz.prog 42 [.vec 64 (tE t), .vec 76 (Il m)] h d (.vec 64 (tE (Gh (Ms t m.tb) m.fr m.kn))) [] := by
 refine Am Af fn42 (by simp) rfl rfl fun F => ?_;simp (disch := omega) only [ir42, go_sem];refine Aa (Awy _ _) ?_;simp (disch := omega) only [go_sem];refine Aa (Ai3 _ _ _ hr) ?_;simp (disch := omega) only [go_sem]
noncomputable def A1g (T : List Evt) (m : Msg) (k : Nat) : FS := mk [(14, .pv (.i .i64 k)), (13, .pv (.i .i64 m.evs.length)), (12, .pv (.sl m.f m.z (m.evs.map Bd))), (6, .os 40), (2, .p 2 0), (5, .p 5 0)] [(2, some (.var (.agg (A7 (Av (Ng T (m.evs.take k))))))), (5, some (.var (.agg [.vec 8 (vE fun _ => 0), .pv (.sl true 0 []), .pv (.sl true 0 []), .vec 8 (iE fun _ => 0), .vec 8 (wE fun _ => false)]))), (40, some (.row 21 ((O1 T (m.evs.take k)).map Bd)))]
set_option maxHeartbeats 4000000 in
theorem Ai6 {T : List Evt} {m : Msg} (hT : Val T) (hn : T.length + m.evs.length ≤ 400) (hz : m.z = 21) (hev : ∀ e ∈ m.evs, ev e) {h d} : FunOk Tryz.prog 39 [.agg (A7 (Av T)), .vec 76 (Il m)] h d (.tup [.pv (.sl false 21 ((O1 T m.evs).map Bd)), .agg (A7 (Av (Ng T m.evs)))]) [] := by
 refine Zi Af fn39 (by simp) rfl rfl fun F => ?_;simp (disch := omega) only [ir39, List.length_map, A7, A3, go_sem];refine Az Af (A1g T m) (fun k => k ≤ m.evs.length) (fun k => m.evs.length - k) 0 (by simp) (O8 6 40 21 rfl (by omega) (Ah ?_ ?_)) fun k hk => ?_
 · simp (disch := omega) only [go_sem]
 · simp (disch := omega) only [List.take_zero, O1, Ng, List.foldl_nil, List.drop_length, List.map_nil, A7, A3, go_sem]
 by_cases hlt : k < m.evs.length
 · have hx : m.evs[k]? = some m.evs[k] := List.getElem?_eq_getElem hlt;have he : (m.evs.map Bd)[k]? = some (Bd m.evs[k]) := by rw [List.getElem?_map, hx]; rfl
   have ht := Cz hx;have hee := hev _ (List.getElem_mem hlt);have hpre : ∀ f ∈ m.evs.take k, ev f := fun f hf => hev f (List.mem_of_mem_take hf);obtain ⟨s1, s2⟩ := Aem (e := m.evs[k]) hT hpre;rw [← ht] at s1 s2;have hv := Va hT _ hpre;obtain ⟨a1, a2, _⟩ := Vb T (m.evs.take k);have hkl : (m.evs.take k).length ≤ k := List.length_take_le _ _;have hWl : (Ng T (m.evs.take k)).length ≤ 400 := by rw [a1, List.length_append]; omega
   have hi := R5 hv hWl;have hfl : (O1 T (m.evs.take k)).length ≤ 400 := by omega
   generalize hee' : m.evs[k] = e at *;have hel := Ac e;simp (disch := omega) only [A1g, hz, List.length_map, he, Bg, hel, A7, A3, go_sem];refine Aa (Aja (s := Av (Ng T (m.evs.take k))) hi hee) ?_;by_cases hw : Ew (Av (Ng T (m.evs.take k))) e = 0
   · obtain ⟨r1, r2, r3⟩ := s1 hw;rw [r1, hw];simp (disch := omega) only [A7, A3, go_sem];refine Jx ?_;simp (disch := omega) only [Bg, hel, A7, A3, List.length_map, go_sem];refine ⟨k + 1, by omega, by omega, D5 29 40 (by decide) rfl (Ah ?_ ?_)⟩
     · simp (disch := omega) only [hz, go_sem]
     · simp (disch := omega) only [r2, List.map_append, List.map_cons, List.map_nil, A7, A3, go_sem]
   · obtain ⟨r2, r3⟩ := s2 hw;simp (disch := omega) only [hw, A7, A3, go_sem];refine Ad (k + 1) _ _ rfl (by omega) (by omega) ?_ ?_
     · simp (disch := omega) only [hz, go_sem]
     · simp (disch := omega) only [r2, r3, A7, A3, go_sem]
 · obtain rfl : k = m.evs.length := by omega
   have htk : m.evs.take m.evs.length = m.evs := List.take_length;simp (disch := omega) only [A1g, List.length_map, htk, A7, A3, go_sem]
def Asw (t : Nat → Vc) (self to : Int) (v : Vc) (l : List Evt) : Msg := ⟨2, self, to, v, Gh t self v, false, 21, l⟩
def gvS (k : Nat) : SV := if k = 0 then .pv (.sl true 0 []) else .os 60
def gvK (l : List Evt) : Option Blk := if l.length = 0 then none else some (.row 21 (l.map Bd))
theorem A8r : gvS 0 = .pv (.sl true 0 []) := rfl
theorem Ajw {k : Nat} (h : k ≠ 0) : gvS k = .os 60 := if_neg h
theorem A0m {l : List Evt} (h : l.length = 0) : gvK l = none := if_pos h
theorem Ajx {l : List Evt} (h : l.length ≠ 0) : gvK l = some (.row 21 (l.map Bd)) := if_neg h
def Mk : SV := .agg [.pv (.i .i64 0), .pv (.i .i64 0), .pv (.i .i64 0), .vec 8 (List.replicate 8 (.i .u32 0)), .vec 64 (List.replicate 64 (.i .u32 0)), .pv (.sl true 0 [])]
def Jz (t : Nat → Vc) (self to : Int) (v : Vc) (x : SV) : List SV := [.pv (.i .i64 2), .pv (.i .i64 self), .pv (.i .i64 to), .vec 8 (vE v), .vec 64 (tE (Gh t self v)), x]
theorem A3u {t : Nat → Vc} {self to : Int} {v : Vc} : Imp (.agg (Jz t self to v (.pv (.sl true 0 [])))) (.agg (Jz t self to v (.pv (.sl false 21 [])))) :=
 Xb (l := Jz t self to v (.pv (.sl true 0 []))) (m := Jz t self to v (.pv (.sl false 21 []))) ⟨⟨Imp.refl _, rfl⟩, ⟨Imp.refl _, rfl⟩, ⟨Imp.refl _, rfl⟩, ⟨Imp.refl _, rfl⟩, ⟨Imp.refl _, rfl⟩, ⟨S4 (Hc (fun q => by cases q) (.inl rfl) (.refl _)), rfl⟩, trivial⟩
theorem Ba3 (a b : Nat) (S : St) (fl : Vc) (L : List Evt) : SV.ren a b (Rw S fl L) = Rw S fl L := rfl
attribute [go_sem] Ba3
noncomputable def Afv (l0 : Nat) (S : St) (fl v : Vc) (L : List Evt) (t : Nat → Vc) (self to : Int) (j : Nat) : FS := mk [(8, .pv (.i .i64 j)), (7, .pv (.i .i64 L.length)), (6, .pv (.sl true 21 (L.map Bd))), (0, .fn (.yield l0) []), (2, .pi 8 [vE v] 0 0), (1000000, .pv (.i .i64 0)), (1000009, .p 8 0), (1000013, .p 12 0), (2000001, .p 900 0)] [(8, some (.var Mk)), (12, some (.var (.agg (Jz t self to S.known (gvS (Ig v (L.take j)).length))))), (60, gvK (Ig v (L.take j))), (900, some (.var (Rw S fl L)))]
set_option maxHeartbeats 8000000 in
theorem A2t {S : St} {fl : Vc} {L : List Evt} (t : Nat → Vc) (m : Msg) (hk : m.k = 1) (hh : Aka m) (hv : Um fl m.kn) (hL : ∀ e ∈ L, ev e ∧ H1 e = e) (hn : L.length ≤ 100) {g : Nat} {h d} (hg : h g = some (.var (Rw S fl L))) : FunOk Tryz.prog 36 [.p g 0, .vec 64 (tE t), .pv (.i .i64 m.to), .vec 76 (Il m)] h d (.tup [.agg (Qa (Asw t m.to m.fr S.known ((Ig m.kn L).take 8))), .pv (.i .i64 0)]) [] := by
 refine FunOk.quiet (g := g) (blk := .var (Rw S fl L)) ?_ hg (by simp [A5, tn]);refine FunOk.io (fun h d hg => ?_) rfl rfl rfl rfl hg;refine Ia (g := 900) Af fn36 (by simp) (by simp [A5, tn]) (by simp [A5, tn]) hg rfl (by simp [Blk.ptr, SV.kill]) rfl (fun _ => rfl) fun F => ?_;have hb := Ajv hh;obtain ⟨_, hfr, hto, _⟩ := id hh;simp (disch := omega) only [ir36, Blk.ptr, hk, go_sem];refine Aa (Aq2 m hk) ?_;simp (disch := omega) only [hb, go_sem];refine Aa (Aqd (S := S) (L := L) m.kn hv rfl) ?_;simp (disch := omega) only [A5n, go_sem];refine Aa (Aq6 (S := S) (L := L) (fl := fl) t m.to m.fr (by omega) rfl) ?_;simp (disch := omega) only [Qa, Aau, Ahq, List.map_nil, go_sem];refine A1z Af fn70 (by simp) fun l0 XI hc => ?_;rw [Atj _ _ _ (by show 3 ≤ 1000000; omega)];simp (disch := omega) only [ir70, List.getElem?_cons_zero, A3d, List.length_map, go_sem];refine Az Af (Afv l0 S fl m.kn L t m.to m.fr) (fun k => k ≤ L.length ∧ (Ig m.kn (L.take k)).length ≤ 8) (fun k => L.length - k) 0 ⟨by simp, by simp [Ig, Y9]⟩ (Ah ?_ ?_) fun j hj => ?_
 · simp (disch := omega) only [go_sem]
 · simp (disch := omega) only [List.take_zero, show Ig m.kn [] = [] from rfl, show gvK [] = none from rfl, List.length_nil, A8r, Jz, Mk, go_sem]
 obtain ⟨hj1, hj2⟩ := hj;by_cases hlt : j < L.length
 · have hx : L[j]? = some L[j] := List.getElem?_eq_getElem hlt;have he : (L.map Bd)[j]? = some (Bd L[j]) := by rw [List.getElem?_map, hx]; rfl
   have hmem := List.getElem_mem hlt;have hsn : Ig m.kn (L.take (j + 1)) = Ig m.kn (L.take j) ++ if Bl m.kn L[j].rep L[j].seq = true then [] else [L[j]] := Agx hx
   have hdr : Ig m.kn L = Ig m.kn (L.take j) ++ Ig m.kn (L.drop j) := by
    conv => lhs; rw [← List.take_append_drop j L]
    unfold Ig Y9; rw [List.filter_append]
   obtain ⟨hev, hce⟩ := hL _ hmem;generalize L[j] = e at *;have hel := Ac e;generalize hSS : Ig m.kn (L.take j) = SS at *;by_cases h0 : SS.length = 0
   · have gS : gvS SS.length = .pv (.sl true 0 []) := by rw [h0]; rfl
     have gK : gvK SS = none := A0m h0;have e0 : SS = [] := List.eq_nil_of_length_eq_zero h0;by_cases hh' : Bl m.kn e.rep e.seq = true
     · rw [if_pos hh', List.append_nil] at hsn;simp (disch := omega) only [Afv, hSS, gS, gK, Jz, Mk, List.length_map, he, Bg, hel, List.getElem?_cons_zero, Dq, Aw, go_sem];refine Aa (Gy _ _ _) ?_;rw [hh'];simp (disch := omega) only [go_sem];refine Ad (j + 1) _ _ rfl ⟨by omega, by rw [hsn]; exact hj2⟩ (by omega) ?_ ?_
       · simp (disch := omega) only [go_sem]
       · simp (disch := omega) only [hsn, gS, gK, Jz, Mk, go_sem]
     rw [if_neg hh'] at hsn;have hhf : Bl m.kn e.rep e.seq = false := by simpa using hh'
     have hln : (Ig m.kn (L.take (j + 1))).length = SS.length + 1 := by rw [hsn]; simp
     have gS' : gvS (SS.length + 1) = .os 60 := Ajw (by omega);have gK' : gvK (SS ++ [e]) = some (.row 21 ((SS ++ [e]).map Bd)) := Ajx (by simp);simp (disch := omega) only [Afv, hSS, gS, gK, Jz, Mk, List.length_map, he, Bg, hel, List.getElem?_cons_zero, Dq, Aw, go_sem];refine Aa (Gy _ _ _) ?_;rw [hhf];simp (disch := omega) only [Bg, hel, go_sem];refine Aa (Sp e hev) ?_;rw [hce];simp (disch := omega) only [go_sem];refine Aoi Af hc ?_ rfl fun XA XB => ?_
     · simp (disch := omega) only [go_sem]
     rw [Ac4 _ _ _ _ (A6q 48 (by decide))];simp (disch := omega) only [Bg, hel, List.length_nil, go_sem];refine ⟨fun q => (by cases q), j + 1, ⟨by omega, by rw [hln]; omega⟩, by omega, D5 57 60 (by decide) rfl (Ah ?_ ?_)⟩
     · simp (disch := omega) only [go_sem]
     · simp (disch := omega) only [hsn, show gvS 1 = .os 60 from rfl, show gvK [e] = some (.row 21 [Bd e]) from rfl, Jz, Mk, e0, List.nil_append, List.length_singleton, List.map_cons, List.map_nil, go_sem]
   · have gS : gvS SS.length = .os 60 := Ajw h0;have gK : gvK SS = some (.row 21 (SS.map Bd)) := Ajx h0;by_cases hh' : Bl m.kn e.rep e.seq = true
     · rw [if_pos hh', List.append_nil] at hsn;simp (disch := omega) only [Afv, hSS, gS, gK, Jz, Mk, List.length_map, he, Bg, hel, List.getElem?_cons_zero, Dq, Aw, go_sem];refine Aa (Gy _ _ _) ?_;rw [hh'];simp (disch := omega) only [go_sem];refine Ad (j + 1) _ _ rfl ⟨by omega, by rw [hsn]; exact hj2⟩ (by omega) ?_ ?_
       · simp (disch := omega) only [go_sem]
       · simp (disch := omega) only [hsn, gS, gK, Jz, Mk, go_sem]
     rw [if_neg hh'] at hsn;have hhf : Bl m.kn e.rep e.seq = false := by simpa using hh'
     have hln : (Ig m.kn (L.take (j + 1))).length = SS.length + 1 := by rw [hsn]; simp
     have gS' : gvS (SS.length + 1) = .os 60 := Ajw (by omega);have gK' : gvK (SS ++ [e]) = some (.row 21 ((SS ++ [e]).map Bd)) := Ajx (by simp);simp (disch := omega) only [Afv, hSS, gS, gK, Jz, Mk, List.length_map, he, Bg, hel, List.getElem?_cons_zero, Dq, Aw, go_sem];refine Aa (Gy _ _ _) ?_;rw [hhf];simp (disch := omega) only [Bg, hel, go_sem];refine Aa (Sp e hev) ?_;rw [hce];simp (disch := omega) only [go_sem];refine Aoi Af hc ?_ rfl fun XA XB => ?_
     · simp (disch := omega) only [go_sem]
     rw [Ac4 _ _ _ _ (A6q 48 (by decide))];by_cases h8 : SS.length = 8
     · have h8' : (SS.length : Int) = 8 := by omega
       have ht8 : (Ig m.kn L).take 8 = SS := by rw [hdr, ← h8, List.take_left]
       simp (disch := omega) only [Bg, hel, List.length_map, h8', ht8, go_sem];refine ⟨_, Ec 60 rfl (.same _), ?_⟩
       (try simp only [Cg, Cf, Ce, Cd, Cc, Cb, Ca, B9]); simp (maxSteps := 10000000) (disch := omega) only [Qa, Aau, Asw, Jz, go_sem]
       exact ⟨900, rfl, rfl⟩
     · have h8' : ¬ (SS.length : Int) = 8 := by omega
       simp (disch := omega) only [Bg, hel, List.length_map, h8', go_sem];refine ⟨j + 1, ⟨by omega, by rw [hln]; omega⟩, by omega, D5 57 60 (by decide) rfl (Ah ?_ ?_)⟩
       · simp (disch := omega) only [go_sem]
       · simp (disch := omega) only [hsn, List.length_append, List.length_singleton, gS', gK', Jz, Mk, List.map_append, List.map_cons, List.map_nil, go_sem]
 · obtain rfl : j = L.length := by omega
   have htk : L.take L.length = L := List.take_length;rw [htk] at hj2;have ht8 : (Ig m.kn L).take 8 = Ig m.kn L := List.take_of_length_le hj2;by_cases h0 : (Ig m.kn L).length = 0
   · have gS : gvS (Ig m.kn L).length = .pv (.sl true 0 []) := by rw [h0]; rfl
     have gK : gvK (Ig m.kn L) = none := A0m h0;have e0 : Ig m.kn L = [] := List.eq_nil_of_length_eq_zero h0;simp (disch := omega) only [Afv, List.length_map, htk, gS, gK, Jz, Mk, go_sem];have hi : Imp (.agg (Jz t m.to m.fr S.known (.pv (.sl true 0 [])))) (.agg (Jz t m.to m.fr S.known (.pv (.sl false 21 [])))) := A3u;refine ⟨mk [(9, .pv (.i .i64 0)), (8, .p 8 0), (1000000, .p 900 0)] [(8, some (.var (.agg (Jz t m.to m.fr S.known (.pv (.sl false 21 [])))))), (900, some (.var (Rw S fl L)))], Ah ?_ ?_, ?_⟩
     · simp (disch := omega) only [go_sem]
     · simp (disch := omega) only [go_sem];exact ⟨hi, rfl⟩
     (try simp only [Cg, Cf, Ce, Cd, Cc, Cb, Ca, B9]); simp (disch := omega) only [Qa, Aau, Asw, Jz, e0, List.take_nil, List.map_nil, go_sem]
     exact ⟨900, rfl, rfl⟩
   · have gS : gvS (Ig m.kn L).length = .os 60 := Ajw h0;have gK : gvK (Ig m.kn L) = some (.row 21 ((Ig m.kn L).map Bd)) := Ajx h0;simp (disch := omega) only [Afv, List.length_map, htk, gS, gK, Jz, Mk, ht8, go_sem];refine ⟨_, Ec 60 rfl (.same _), ?_⟩
     (try simp only [Cg, Cf, Ce, Cd, Cc, Cb, Ca, B9]); simp (disch := omega) only [Qa, Aau, Asw, Jz, go_sem]
     exact ⟨900, rfl, rfl⟩
set_option maxHeartbeats 2000000 in
theorem Adn {x : SV} {f : Bool} {l : List Evt} {h d} (hx : Cq h [x] = [.pv (.sl f 21 (l.map Bd))]) (hl : Bf [x] = true) :
 FunOk Tryz.prog 33 [x] h d (.pv (.b (Zj l))) [] := by
 refine Co Af fn33 (by simp) hl rfl fun F => ?_;rw [hx];by_cases h30 : 25 < (l.length : Int)
 · have hf := Ve (l := l) fun h => by have := h.1; omega
   simp (disch := omega) only [ir33, List.length_map, hf, go_sem]
 simp (disch := omega) only [ir33, List.length_map, go_sem];refine Az Af (Pd f l) (fun k => k ≤ l.length ∧ ∀ j e, j < k → l[j]? = some e → Az8 e) (fun k => l.length - k) 0 ⟨by simp, fun j e hj => absurd hj (Nat.not_lt_zero j)⟩ (Ah ?_ ?_) fun k hk => ?_
 · simp (disch := omega) only [List.length_map, go_sem]
 · simp (disch := omega) only [go_sem]
 obtain ⟨hk1, hk2⟩ := hk;by_cases hlt : k < l.length
 · have hx' : l[k]? = some l[k] := List.getElem?_eq_getElem hlt;have he : (l.map Bd)[k]? = some (Bd l[k]) := by rw [List.getElem?_map, hx']; rfl
   have hm := List.getElem_mem hlt;generalize l[k] = e at *;have hel := Ac e;have hg : e.gone.pv = .sl e.gone.f e.gone.z (e.gone.l.map Eb) := rfl;have hb : e.base.pv = .sl e.base.f e.base.z (e.base.l.map Eb) := rfl;have hno : ¬ Az8 e → Zj l = false := fun q => Ve fun h => q (h.2 e hm);by_cases c1 : 30 < (e.name.length : Int)
   · have hf := hno fun q => by have := q.1; omega
     simp (disch := omega) only [Pd, List.length_map, he, Bg, hel, Du, c1, hf, go_sem]
   by_cases c2 : 250 < (e.data.length : Int)
   · have hf := hno fun q => by have := q.2.1; omega
     simp (disch := omega) only [Pd, List.length_map, he, Bg, hel, Du, c1, Hf, c2, hf, go_sem]
   by_cases c3 : 10 < (e.gone.l.length : Int)
   · have hf := hno fun q => by have := q.2.2.1; omega
     simp (disch := omega) only [Pd, List.length_map, he, Bg, hel, Du, c1, Hf, c2, F9, hg, c3, hf, go_sem]
   by_cases c4 : 10 < (e.base.l.length : Int)
   · have hf := hno fun q => by have := q.2.2.2; omega
     simp (disch := omega) only [Pd, List.length_map, he, Bg, hel, Du, c1, Hf, c2, F9, hg, c3, Fi, hb, c4, hf, go_sem]
   simp (disch := omega) only [Pd, List.length_map, he, Bg, hel, Du, c1, Hf, c2, F9, hg, c3, Fi, hb, c4, go_sem];refine Ad (k + 1) _ _ rfl ⟨by omega, fun j x hj hjx => ?_⟩ (by omega) ?_ ?_
   · by_cases ej : j = k
     · subst ej; rw [hx'] at hjx; cases hjx; exact ⟨by omega, by omega, by omega, by omega⟩
     · exact hk2 j x (by omega) hjx
   · simp (disch := omega) only [go_sem]
   · simp (disch := omega) only [go_sem]
 · obtain rfl : k = l.length := by omega
   have hf := Abu (l := l) ⟨by omega, fun e he => by
    obtain ⟨j, hj⟩ := List.mem_iff_getElem?.1 he;exact hk2 j e (List.getElem?_eq_some_iff.1 hj).1 hj⟩
   simp (disch := omega) only [Pd, hf, go_sem]
theorem A0o : Ng [] [H1 Oe] = [H1 Oe] := by
 have hw : Ew (Av []) (H1 Oe) = 0 := Aib;show R7 [] (H1 Oe) = _;unfold R7;rw [if_pos hw]; rfl
theorem A8x : O1 [] [H1 Oe] = [H1 Oe] := by unfold O1; rw [A0o]; rfl
set_option maxHeartbeats 4000000 in
theorem Sn {h d} : FunOk Tryz.prog 32 [] h d (.pv (.b true)) [] := by
 refine Am Af fn32 (by simp) rfl rfl fun F => ?_;simp (disch := omega) only [ir32, go_sem];refine Aa (FunOk.imp (Adg (S := Av []) Aha) ⟨Wh, trivial⟩ (by simp [A5, tn, Vt])) ?_;simp (disch := omega) only [Ar3, go_sem];refine Aa (FunOk.imp (Adg (S := Av []) Aha) ⟨Wh, trivial⟩ (by simp [A5, tn, Vt])) ?_;simp (disch := omega) only [Ar3, go_sem];refine Aa (FunOk.imp (A2z (S := Av []) (L := []) (e := Oe) (R5 Val.nil (by simp)) A4k (by simp) rfl) ⟨Imp.refl _, Gu (cs := Bd Oe) rfl (Ac _), trivial⟩ (by simp [A5, tn])) ?_;rw [Aib, Bai, A5o];simp (disch := omega) only [Baw, go_sem];refine Aa (FunOk.imp (Aq6 (S := Av []) (L := []) (fl := fun _ => 0) (fun _ _ => 0) 2 1 (by omega) rfl) ⟨Imp.refl _, Imp.refl _, Imp.refl _, Imp.refl _, trivial⟩ (by simp [A5, tn])) ?_;simp (disch := omega) only [go_sem];have hkn : (Av [Oe]).known = Dj [Oe] := Fd _;have hA : ∀ e ∈ [H1 Oe], ev e := fun e he => by simp at he; subst he; exact Aj5 A4k
 refine Aa (FunOk.imp (A2t (S := Av [Oe]) (L := [H1 Oe]) (fl := fun _ => 0) (fun _ _ => 0) (Ahq (fun _ _ => 0) 2 1 (Av []).known) rfl ⟨.inl rfl, by decide, by decide, by decide, by decide, fun _ => rfl⟩ (fun i _ => Nat.zero_le _) (fun e he => by simp at he; subst he; exact ⟨Aj5 A4k, rfl⟩) (by simp) rfl) ⟨Imp.refl _, Imp.refl _, Imp.refl _, Ag0 _, trivial⟩ (by simp [A5, tn, Z9])) ?_;have hg : (List.take 8 (Ig (Ahq (fun _ _ => 0) 2 1 (Av []).known).kn [H1 Oe])) = [H1 Oe] := rfl;rw [hg];generalize hmm : Asw (fun _ _ => 0) (Ahq (fun _ _ => 0) 2 1 (Av []).known).to (Ahq (fun _ _ => 0) 2 1 (Av []).known).fr (Av [Oe]).known [H1 Oe] = mm;have me : mm.evs = [H1 Oe] := by rw [← hmm]; rfl
 have mz : mm.z = 21 := by rw [← hmm]; rfl
 have mt : mm.to = 2 := by rw [← hmm]; rfl
 simp (disch := omega) only [Qa, Aau, go_sem];refine Aa (Aqc (S := Av []) (L := []) Aha rfl) ?_;simp (disch := omega) only [A7, A3, Qa, Aau, go_sem];refine Aa (FunOk.imp (Ai6 (T := []) (m := mm) Val.nil (by rw [me]; simp) mz (by rw [me]; exact hA)) ⟨Imp.refl _, Ag0 _, trivial⟩ (by simp [A5, tn, Z9, Vt])) ?_;rw [me, A8x, A0o];have hv1 : vE (Av [H1 Oe]).known = [.i .u32 1, .i .u32 0, .i .u32 0, .i .u32 0, .i .u32 0, .i .u32 0, .i .u32 0, .i .u32 0] := by rw [Fd]; rfl
 have hpq : Qk (vE (Av [H1 Oe]).known) [.i .u32 1, .i .u32 0, .i .u32 0, .i .u32 0, .i .u32 0, .i .u32 0, .i .u32 0, .i .u32 0] = true := by rw [hv1]; exact Hd _
 have hfi := Ag9 (Av [H1 Oe]).known;have hf2 : D4 [K1.int .u32, .int .u32, .int .u32, .int .u32, .int .u32, .int .u32, .int .u32, .int .u32] [.i .u32 1, .i .u32 0, .i .u32 0, .i .u32 0, .i .u32 0, .i .u32 0, .i .u32 0, .i .u32 0] = True := eq_true rfl;simp (disch := omega) only [A7, A3, List.map_cons, List.map_nil, List.length_cons, List.length_nil, me, mz, mt, hpq, hfi, hf2, go_sem]
def Aoz (f g : Bool) (z y : Nat) (l : List Evt) (k : Nat) : FS := mk [(5, .pv (.i .i64 k)), (0, .pv (.sl f z (l.map Bd))), (1, .pv (.sl g y (l.map Bd)))] []
theorem Ald {f g : Bool} {z y : Nat} {l : List Evt} (hz : l = [] ∨ z = 21 ∧ y = 21) (hl : ∀ e ∈ l, ev e) (hn : l.length ≤ 1000) {h d} : FunOk Tryz.prog 41 [.pv (.sl f z (l.map Bd)), .pv (.sl g y (l.map Bd))] h d (.pv (.b true)) [] := by
 refine Am Af fn41 (by simp) rfl rfl fun F => ?_;simp (disch := omega) only [ir41, List.length_map, go_sem];refine Az Af (Aoz f g z y l) (fun k => k ≤ l.length) (fun k => l.length - k) 0 (by simp) (Ah ?_ ?_) fun k hk => ?_
 · simp (disch := omega) only [go_sem]
 · simp (disch := omega) only [go_sem]
 by_cases hlt : k < l.length
 · obtain ⟨rfl, rfl⟩ := hz.resolve_left fun e => by subst e; simp at hlt
   have hx : l[k]? = some l[k] := List.getElem?_eq_getElem hlt;have he : (l.map Bd)[k]? = some (Bd l[k]) := by rw [List.getElem?_map, hx]; rfl
   have hv := hl _ (List.getElem_mem hlt);generalize l[k] = e at *;have hel := Ac e;simp (disch := omega) only [Aoz, List.length_map, he, Bg, hel, go_sem];refine Aa (Aqe e e ⟨hv.1, hv.2.1, hv.2.2.1, hv.2.2.2.1⟩ ⟨hv.1, hv.2.1, hv.2.2.1, hv.2.2.2.1⟩) ?_;rw [Apr];simp (disch := omega) only [go_sem];refine Ad (k + 1) _ _ rfl (by omega) (by omega) ?_ ?_
   · simp (disch := omega) only [go_sem]
   · simp (disch := omega) only [go_sem]
 · obtain rfl : k = l.length := by omega
   simp (disch := omega) only [Aoz, List.length_map, go_sem]
theorem Alh (t : Nat → Vc) (m : Msg) (hr : -9223372036854775808 ≤ m.fr ∧ m.fr < 9223372036854775808) {h d} : FunOk Tryz.prog 43 [.vec 64 (tE t), .vec 76 (Il m)] h d (.vec 64 (tE (Gh (Ms t m.tb) m.fr m.kn))) [] := by
 refine Am Af fn43 (by simp) rfl rfl fun F => ?_;simp (disch := omega) only [ir43, go_sem];refine Aa (Aqb _ _) ?_;simp (disch := omega) only [go_sem];refine Aa (Adj _ _ _ hr) ?_;simp (disch := omega) only [go_sem]
noncomputable def Ao1 (T : List Evt) (m : Msg) (k : Nat) : FS := mk [(6, .pv (.i .i64 k)), (5, .os 40), (0, .pv (.sl false 21 (T.map Bd))), (3, .p 3 0)] [(3, some (.var (.vec 76 (Il m)))), (40, some (.row 21 ((O1 T (m.evs.take k)).map Bd)))]
set_option maxHeartbeats 4000000 in
theorem Aqq {T : List Evt} {m : Msg} (hT : Val T) (hn : T.length + m.evs.length ≤ 400) (hz : m.z = 21) (hev : ∀ e ∈ m.evs, EvIn e) {h d} : FunOk Tryz.prog 40 [.pv (.sl false 21 (T.map Bd)), .vec 76 (Il m)] h d (.pv (.sl false 21 ((O1 T m.evs).map Bd))) [] := by
 refine Nf Af fn40 (by simp) rfl fun F => ?_;simp (disch := omega) only [ir40, go_sem];refine Az Af (Ao1 T m) (fun k => k ≤ m.evs.length) (fun k => m.evs.length - k) 0 (by simp) (O8 5 40 21 rfl (by omega) (Ah ?_ ?_)) fun k hk => ?_
 · simp (disch := omega) only [go_sem]
 · simp (disch := omega) only [List.take_zero, O1, Ng, List.foldl_nil, List.drop_length, List.map_nil, go_sem]
 by_cases hlt : k < m.evs.length
 · have hx : m.evs[k]? = some m.evs[k] := List.getElem?_eq_getElem hlt;have he : (m.evs.map Bd)[k]? = some (Bd m.evs[k]) := by rw [List.getElem?_map, hx]; rfl
   have ht := Cz hx;have hee := hev _ (List.getElem_mem hlt);have hpre : ∀ f ∈ m.evs.take k, ev f := fun f hf => (hev f (List.mem_of_mem_take hf)).ev;obtain ⟨s1, s2⟩ := Aem (e := m.evs[k]) hT hpre;rw [← ht] at s1 s2;have hv := Va hT _ hpre;obtain ⟨a1, a2, _⟩ := Vb T (m.evs.take k);have hkl : (m.evs.take k).length ≤ k := List.length_take_le _ _;have hWl : (Ng T (m.evs.take k)).length ≤ 400 := by rw [a1, List.length_append]; omega
   have hi := R5 hv hWl;have hfl : (O1 T (m.evs.take k)).length ≤ 400 := by omega
   have hma : T.map Bd ++ (O1 T (m.evs.take k)).map Bd = (Ng T (m.evs.take k)).map Bd := by rw [a1, List.map_append]
   generalize hee' : m.evs[k] = e at *;have hel := Ac e;simp (disch := omega) only [Ao1, hz, List.length_map, he, Bg, hel, go_sem];refine Jx ?_;simp (disch := omega) only [List.length_map, hma, go_sem];refine Aa (Wx (Ul hv hWl) (Uk hv) rfl) ?_;simp (disch := omega) only [hz, List.length_map, he, Bg, hel, go_sem];refine ⟨rfl, Aa (A0e hi hee.ev hee.dep) ?_⟩;by_cases hw : Ew (Av (Ng T (m.evs.take k))) e = 0
   · obtain ⟨r1, r2, r3⟩ := s1 hw;simp (disch := omega) only [hw, hz, List.length_map, he, Bg, hel, go_sem];refine ⟨k + 1, by omega, by omega, D5 36 40 (by decide) rfl (Ah ?_ ?_)⟩
     · simp (disch := omega) only [go_sem]
     · simp (disch := omega) only [r2, List.map_append, List.map_cons, List.map_nil, go_sem]
   · obtain ⟨r2, r3⟩ := s2 hw;simp (disch := omega) only [hw, go_sem];refine Ad (k + 1) _ _ rfl (by omega) (by omega) ?_ ?_
     · simp (disch := omega) only [go_sem]
     · simp (disch := omega) only [r2, r3, go_sem]
 · obtain rfl : k = m.evs.length := by omega
   have htk : m.evs.take m.evs.length = m.evs := List.take_length;simp (disch := omega) only [Ao1, List.length_map, htk, go_sem]
theorem Az6 {cs : List PV} (hc : GC Yr cs) : ∃ e : Evt, cs = Bd e ∧ (EvRaw e ∧ H1 e = e) := by
 obtain ⟨e, h1, h2, h3, h4⟩ := Az7 hc;refine ⟨e, h1, ⟨h2, by rw [h3]; exact .inr rfl, by rw [h4]; exact .inr rfl⟩, ?_⟩;unfold H1;rw [← h3, ← h4]
theorem Akb {cs : List PV} (h : GC (.sl Yr) cs) : ∃ l : List Evt, cs = [.sl false 21 (l.map Bd)] ∧ ∀ e ∈ l, EvRaw e ∧ H1 e = e := by
 obtain ⟨es, rfl, _, g⟩ := Avb h;obtain ⟨l, rfl, hl⟩ := Abz (f := Bd) (p := fun e => EvRaw e ∧ H1 e = e) Az6 g;exact ⟨l, rfl, hl⟩
abbrev Api : Sh := .st [.int .i64, .int .i64, .int .i64, .arr 8 (.int .u32), .arr 8 (.arr 8 (.int .u32)), .sl Yr]
theorem Az5 {cs : List PV} (h : GC Api cs) : ∃ m : Msg, cs = Il m ∧ (∀ e ∈ m.evs, EvRaw e ∧ H1 e = e) ∧ m.f = false ∧ m.z = 21 ∧ -9223372036854775808 ≤ m.fr ∧ m.fr < 9223372036854775808 := by
 simp only [GC] at h;simp only [GCL] at h;obtain ⟨c0, r0, rfl, ⟨n0, rfl, w0⟩, c1, r1, rfl, ⟨n1, rfl, w1⟩, c2, r2, rfl, ⟨n2, rfl, w2⟩, c3, r3, rfl, g3, c4, r4, rfl, g4, c5, r5, rfl, g5, rfl⟩ := h;obtain ⟨a, rfl, ha⟩ := Ava (by simp only [GC]; exact g3);obtain ⟨t, rfl, ht⟩ := A0s (by simp only [GC]; exact g4);obtain ⟨l, rfl, hl⟩ := Akb (by simp only [GC]; exact g5);exact ⟨⟨n0, n1, n2, a, t, false, 21, l⟩, by simp [Il], hl, rfl, rfl, Aso w1⟩
theorem Ayq (t : Nat → Vc) : D4 (List.replicate 64 (K1.int .u32)) (tE t) = True := eq_true rfl
set_option maxHeartbeats 16000000 in
theorem Ar2 {l : List Evt} {t : Nat → Vc} {m : Msg} (hl : ∀ e ∈ l, EvRaw e) (hm : ∀ e ∈ m.evs, EvRaw e) (hz : m.z = 21) (hr : -9223372036854775808 ≤ m.fr ∧ m.fr < 9223372036854775808) {h d} :
 FunOk Tryz.prog 6 [.pv (.sl false 21 (l.map Bd)), .vec 64 (tE t), .vec 76 (Il m)] h d (.pv (.b true)) [] := by
 refine Am Af fn6 (by simp) rfl rfl fun F => ?_;simp (disch := omega) only [ir6, go_sem];refine Aa Sn ?_;simp (disch := omega) only [go_sem];refine Aa (Adn (l := l) rfl rfl) ?_;by_cases hf' : Afg l;rotate_left
 · have hf := Ve hf';simp (disch := omega) only [hf, go_sem];refine Aa Sn ?_;simp (disch := omega) only [go_sem]
 have hf := Abu hf';simp (disch := omega) only [hf, hz, go_sem];refine Aa (Adn (l := m.evs) rfl rfl) ?_;by_cases hg' : Afg m.evs;rotate_left
 · have hg := Ve hg';simp (disch := omega) only [hg, go_sem];refine Aa Sn ?_;simp (disch := omega) only [go_sem]
 have hg := Abu hg';have hin : ∀ e ∈ l, EvIn e := fun x hx => Ap1 (hl x hx) (hf'.2 x hx);have hmn : ∀ e ∈ m.evs, EvIn e := fun x hx => Ap1 (hm x hx) (hg'.2 x hx);have hl25 := hf'.1;have hm25 := hg'.1;obtain ⟨t1, t2, t3⟩ := Aco l fun x hx => (hin x hx).ev;have hme : ∀ e ∈ m.evs, ev e := fun x hx => (hmn x hx).ev;simp (disch := omega) only [hg, go_sem];refine Aa (A2l (l := l) (by omega) hin) ?_;generalize Mi l = T at *;simp (disch := omega) only [go_sem];refine Aa (E := (Rx Tryz.prog F 59).reg) (Aq3 (Ul t1 (by omega)) (Uk t1)) ?_;simp (disch := omega) only [A7, A3, go_sem];refine Aa (E := (Rx Tryz.prog F 59).reg) (Ai6 (T := T) (m := m) t1 (by omega) hz hme) ?_;have v1 := Va t1 m.evs hme;obtain ⟨a1, a2, a3⟩ := Vb T m.evs;have hW : (Ng T m.evs).length ≤ 400 := by rw [a1, List.length_append]; omega
 have hAe : ∀ e ∈ O1 T m.evs, ev e := fun e he => hme e (a3 e he);have hma : T.map Bd ++ (O1 T m.evs).map Bd = (Ng T m.evs).map Bd := by rw [a1, List.map_append]
 have hfi := (R5 v1 hW).fine;simp (disch := omega) only [A7, A3, go_sem];refine Aa (Aqq (T := T) (m := m) t1 (by omega) hz hmn) ?_;generalize O1 T m.evs = A at *;generalize Ng T m.evs = W at *;simp (disch := omega) only [A7, A3, List.length_map, go_sem];refine Jx ?_;simp (disch := omega) only [A7, A3, List.length_map, go_sem];refine Aa (Ald (l := A) (.inr ⟨rfl, rfl⟩) hAe (by omega)) ?_;simp (disch := omega) only [A7, A3, List.length_map, List.nil_append, hma, go_sem];refine Aa (Wx (Ul v1 hW) (Uk v1) rfl) ?_;simp (disch := omega) only [A7, A3, go_sem];refine Aa (E := (Rx Tryz.prog F 59).reg) (Aqg (s := Av W) hfi) ?_;simp (disch := omega) only [go_sem];refine Aa (E := (Rx Tryz.prog F 59).reg) (Aql t m hr) ?_;simp (disch := omega) only [go_sem];refine Aa (E := (Rx Tryz.prog F 59).reg) (Alh t m hr) ?_;have p1 := Hd (tE (Gh (Ms t m.tb) m.fr m.kn));have p2 := Ayq (Gh (Ms t m.tb) m.fr m.kn);simp (disch := omega) only [p1, p2, go_sem]
theorem Xc {c0 c1 c2 : List PV} (g0 : GC (.sl Yr) c0) (g1 : GC (.arr 8 (.arr 8 (.int .u32))) c1) (g2 : GC Api c2) {h d} :
 FunOk Tryz.prog 6 [I9 (.sl Yr) c0, I9 (.arr 8 (.arr 8 (.int .u32))) c1, I9 Api c2] h d (.pv (.b true)) [] := by
 obtain ⟨l, rfl, hl⟩ := Akb g0;obtain ⟨t, rfl, _⟩ := A0s g1;obtain ⟨m, rfl, hm, _, hz, hr⟩ := Az5 g2;show FunOk Tryz.prog 6 [.pv (.sl false 21 (l.map Bd)), .vec 64 (tE t), .agg (Qa m)] h d (.pv (.b true)) [];exact (Ar2 (t := t) (fun e he => (hl e he).1) (fun e he => (hm e he).1) hz hr).imp ⟨Imp.refl _, Imp.refl _, Ag0 m, trivial⟩ (by simp [A5, tn, Z9])
end Go.Proofs.YthmjebkldgdeiaaGreat.Fw
