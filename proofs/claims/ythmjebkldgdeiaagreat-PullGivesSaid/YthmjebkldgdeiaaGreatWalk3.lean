/- What the functions compute that the laws of this seat reach. -/
import Derived.Test.YthmjebkldgdeiaaGreatWalk2
import Derived.OpenShut
import Derived.ShutString
import Derived.ChangeOld
import Derived.SizedLaws
import Derived.ChangeOld
import Derived.Lib.Bytealg
import Derived.Lib.Overlaps
import Derived.OpenShut
import Derived.ShutString
import Derived.SizedLaws
set_option linter.unusedVariables false
set_option linter.unusedSimpArgs false
set_option linter.unusedSectionVars false
set_option maxRecDepth 100000
namespace Go.Proofs.YthmjebkldgdeiaaGreat.Fw
open Go.RowKit Go.Proofs
noncomputable def A1i (f : Bool) (l : List Evt) (k : Nat) : FS := mk [(4, .pv (.i .i64 k)), (3, .os 40), (0, .pv (.sl f 21 (l.map Bc)))] [(40, some (.row 21 ((K3 (l.take k)).map Bc)))]
structure EvIn (e : Evt) : Prop where
 ev : ev e
 dep : ∀ i, i < 8 → e.dep i < 4294967296
set_option maxHeartbeats 4000000 in
theorem A2p {f : Bool} {l : List Evt} {h d} (hn : l.length ≤ 400) (hev : ∀ e ∈ l, EvIn e) : FunOk Tryz.prog 11 [.pv (.sl f 21 (l.map Bc))] h d (.pv (.sl false 21 ((K3 l).map Bc))) [] := by
 refine Ri Af fn11 (by simp) rfl fun F => ?_;simp (disch := omega) only [ir11, go_sem];refine A0 Af (A1i f l) (fun k => k ≤ l.length) (fun k => l.length - k) 0 (by simp) (Pl 3 40 21 rfl (by omega) (Ah ?_ ?_)) fun k hk => ?_
 · simp (disch := omega) only [go_sem]
 · simp (disch := omega) only [K3, List.take_zero, List.foldl_nil, List.map_nil, go_sem]
 by_cases hlt : k < l.length
 · have hx : l[k]? = some l[k] := List.getElem?_eq_getElem hlt;have he : (l.map Bc)[k]? = some (Bc l[k]) := by rw [List.getElem?_map, hx]; rfl
   have ht := Cz hx;have hsn := V7 (l.take k) l[k];rw [← ht] at hsn;obtain ⟨t1, t2, t3⟩ := Ac2 (l.take k) fun e he => (hev e (List.mem_of_mem_take he)).ev;have tl : (K3 (l.take k)).length ≤ 400 := by have := List.length_take_le k l; omega
   have hek := hev _ (List.getElem_mem hlt);generalize l[k] = e at *;have hel := Ac e;generalize hT : K3 (l.take k) = T at *;have hin := Se t1 tl;simp (disch := omega) only [A1i, hT, go_sem];refine Aa (Aq7 (Ail t1 tl) (Aik t1) rfl) ?_;simp (disch := omega) only [List.length_map, he, Bh, hel, go_sem];refine ⟨rfl, Aa (A6r hin hek.ev hek.dep) ?_⟩;by_cases hw : Ew (Ap T) e = 0
   · have e1 : M3 T e = T ++ [e] := if_pos hw;rw [e1] at hsn;simp (disch := omega) only [hw, List.length_map, he, Bh, hel, go_sem];refine ⟨k + 1, by omega, by omega, D6 25 40 (by decide) rfl (Ah ?_ ?_)⟩
     · simp (disch := omega) only [go_sem]
     · simp (disch := omega) only [hsn, List.map_append, List.map_cons, List.map_nil, go_sem]
   · have e1 : M3 T e = T := if_neg hw;rw [e1] at hsn;simp (disch := omega) only [hw, go_sem];refine Ad (k + 1) _ _ rfl (by omega) (by omega) ?_ ?_
     · simp (disch := omega) only [go_sem]
     · simp (disch := omega) only [hsn, go_sem]
 · obtain rfl : k = l.length := by omega
   have htk : l.take l.length = l := List.take_length;simp (disch := omega) only [A1i, List.length_map, htk, go_sem]
def A0d (e : Evt) : Prop := e.name.length ≤ 30 ∧ e.data.length ≤ 250 ∧ e.gone.l.length ≤ 10 ∧ e.base.l.length ≤ 10
theorem V4 (s : St) : A3 (Ba s) = [] := by simp [Ba, A6, A3, tn]
abbrev Y6 : Sh := .st [Adc, .arr 8 (.int .u32), .int .i64, Adc, Adc, .str, .sl Adc, .sl Adc, .int .i64, .str, .int .i64]
theorem A0c {cs : List PV} (h : GC Y6 cs) : ∃ e : Evt, cs = Bc e ∧ (∀ i, i < 8 → e.dep i < 4294967296) ∧ e.gone = ⟨false, 2, e.gone.l⟩ ∧ e.base = ⟨false, 2, e.base.l⟩ := by
 simp only [GC] at h;simp only [GCL] at h;obtain ⟨c0, r0, rfl, g0, c1, r1, rfl, g1, c2, r2, rfl, ⟨n2, rfl, w2⟩, c3, r3, rfl, g3, c4, r4, rfl, g4, c5, r5, rfl, ⟨s5, rfl, w5⟩, c6, r6, rfl, g6, c7, r7, rfl, g7, c8, r8, rfl, ⟨n8, rfl, w8⟩, c9, r9, rfl, ⟨s9, rfl, w9⟩, c10, r10, rfl, ⟨n10, rfl, w10⟩, rfl⟩ := h;obtain ⟨b0, rfl, hb0⟩ := Afp (by simp only [GC]; exact g0);obtain ⟨a, rfl, ha⟩ := Avd (by simp only [GC]; exact g1);obtain ⟨b3, rfl, hb3⟩ := Afp (by simp only [GC]; exact g3);obtain ⟨b4, rfl, hb4⟩ := Afp (by simp only [GC]; exact g4);obtain ⟨e6, rfl, l6, g6⟩ := Ave (s := Adc) (by simp only [GC]; exact g6);obtain ⟨e7, rfl, l7, g7⟩ := Ave (s := Adc) (by simp only [GC]; exact g7);obtain ⟨m6, rfl, _⟩ := Acd (f := Ed) Afp g6;obtain ⟨m7, rfl, _⟩ := Acd (f := Ed) Afp g7;exact ⟨⟨b0.1, b0.2, a, n2, b3.1, b3.2, b4.1, b4.2, s5, ⟨false, 2, m6⟩, ⟨false, 2, m7⟩, n8, s9, n10⟩, by simp [Bc, Ed, SlI.pv]; rfl, ha, rfl, rfl⟩
structure EvRaw (e : Evt) : Prop where
 dep : ∀ i, i < 8 → e.dep i < 4294967296
 gone : e.gone.ok
 base : e.base.ok
theorem Ap6 {e : Evt} (h : EvRaw e) (k : A0d e) : EvIn e := by
 obtain ⟨k1, k2, k3, k4⟩ := k;exact ⟨⟨h.gone, h.base, by omega, by omega, by omega⟩, h.dep⟩
structure GrewO (x y : Obj) : Prop where
 id : y.id = x.id
 dir : y.dir = x.dir
 seen : Mz x.seen y.seen
 len : x.vers.length ≤ y.vers.length
theorem GrewO.trans {x y z : Obj} (h : GrewO x y) (k : GrewO y z) : GrewO x z := ⟨k.id.trans h.id, k.dir.trans h.dir, fun i hi => Nat.le_trans (h.seen i hi) (k.seen i hi), Nat.le_trans h.len k.len⟩
structure Wd where
 w : Nat → Int
 v : Vc
 r : Nat → Bool
end Go.Proofs.YthmjebkldgdeiaaGreat.Fw
namespace Go.Proofs.YthmjebkldgdeiaaGreat.Fw
open Go.RowKit Go.Proofs
variable {P : Program}
theorem As5 (hm : P.follows .mixedOrders = true) {f N' : Nat} {rs : List Rv} {c : C} (hf : A5 P f = some (N', rs, c)) {args : List SV} {h : Nat → Option Blk} {d : Nat} {x : SV} (hlen : args.length ≤ N')
 (hargs : SV.closedL args = true) (hx : x.closed = true) (hrun : ∀ F, sx (Uf P F N') c (Aod rs fun y g => ∃ n, y = .p n 0 ∧ g.h n = some (.var x)) (mk (Db 0 args) [])) :
 FunOk P f args h d (.p d 0) [.new d (.var x)] := by
 obtain ⟨h1, h2, h3⟩ := Ck hargs;refine ⟨Co hf, fun F N ρ s a w hR hh vs hc => ?_⟩;refine Calls.mono (Dp hm hf (h := h) hlen h2 Aa7 (by rw [h3]; exact hrun) hR hh hc) fun e w' he => ?_;obtain ⟨v, rfl, hg, N'', ρ', s', a', y, hR', hy, n, rfl, hn⟩ := he;rw [h1, Dv] at hR' hy;simp only [Conc] at hy;obtain ⟨b0, hy1, hy2⟩ := hy;obtain ⟨b, vs', ty, fr, u, g1, g2, g3, g4, g5, g6, g7⟩ := hR'.own n _ hn;have hown : ∀ b, Cr (ρ' n) = some b → w.heap.size ≤ b ∧ b < w'.heap.size := fun b hb => by
  have ho : Cn ρ' s'.h b := ⟨n, _, hn, hb⟩
  exact ⟨(hR'.may b ho).resolve_right id, hR'.lt ho⟩
 have hle : (vw ⟨w, fun _ => False, F.out ρ s.h, fun _ => undef, []⟩ w' ρ' s').le (Az w' (F.out (upd ρ d (ρ' n)) ((s.kill d).seth d (some (.var x))).h)) := Bm fun b' c' hno hc' => ⟨fun hb' => hno (by
  rcases hb' with ⟨m, z, hm1, hm2⟩ | hb'
  · simp only [FS.seth, FS.kill] at hm1;by_cases hmd : m = d
    · subst hmd;rw [A1] at hm2;exact .inl ⟨n, _, hn, hm2⟩
    · rw [Bs hmd] at hm2;simp only [hmd, if_false] at hm1;obtain ⟨z', hz', _⟩ := Option.map_eq_some_iff.1 hm1;exact .inr (.inl ⟨m, z', hz', hm2⟩)
  · exact .inr (.inr hb')), hc'⟩
 have hnew := hR.adopt hg d (.var x) (ρ' n) hown fun hV => ⟨b, vs', ty, fr, u, by rw [A1]; exact g1, g2, g3, Bz hle hx g4, g5, g6, g7⟩
 refine ⟨v, _, rfl, hnew.1, ?_⟩;simp only [Conc];exact ⟨b0, by rw [A1]; exact hy1, hy2⟩
end Go.Proofs.YthmjebkldgdeiaaGreat.Fw
namespace Go.Proofs.YthmjebkldgdeiaaGreat.Fw
open Go.RowKit Go.Proofs
theorem Zg {f : Bool} {z : Nat} {es : List (List PV)} {h d} (hz : es = [] ∨ z = 2) (hb : es.length ≤ 1000) : FunOk Tryz.prog 98 [.pv (.sl f z es)] h d (.pv (.sl false 2 es)) [] := by
 refine Ri Af fn98 (by simp) rfl fun F => ?_;simp (disch := omega) only [ir98, go_sem];intro b hb';cases b
 · simp (disch := omega) only [go_sem]
 · have he : es = [] := by
    cases es with
    | nil => rfl
    | cons c l => exact absurd (hb' (by simp)) (by simp)
   subst he
   (try simp only [Cf, Ce, Cd, Cc, Cb, Ca, B9, B0]); simp (disch := omega) only [go_sem]
   decide
theorem Ad0 {f : Bool} {z : Nat} {es : List (List PV)} (hz : es = [] ∨ z = 21) {h d} : FunOk Tryz.prog 69 [.pv (.sl f z es)] h d (.pv (.sl true z es)) [] := by
 refine Al Af fn69 (by simp) rfl rfl fun F => ?_;have e := List.take_length (l := es);simp (disch := omega) only [ir69, hz, e, List.drop_zero, go_sem]
def G9 (e : Evt) : Evt := { e with gone := ⟨false, 2, e.gone.l⟩, base := ⟨false, 2, e.base.l⟩ }
theorem Akc {e : Evt} (h : ev e) : ev (G9 e) := ⟨.inr rfl, .inr rfl, h.2.2.1, h.2.2.2.1, h.2.2.2.2⟩
theorem Apa (e : Evt) (g : SlI) : splice (Bc e) 16 [g.pv] = Bc { e with gone := g } := by
 simp only [splice, Bc, vE, Cj]; rfl
theorem Apc (e : Evt) (g : SlI) : splice (Bc e) 17 [g.pv] = Bc { e with base := g } := by
 simp only [splice, Bc, vE, Cj]; rfl
theorem Sz (e : Evt) (he : ev e) {h d} : FunOk Tryz.prog 57 [.vec 21 (Bc e)] h d (.vec 21 (Bc (G9 e))) [] := by
 refine Al Af fn57 (by simp) rfl rfl fun F => ?_;obtain ⟨h1, h2, h3, h4, h5⟩ := he;have hg : e.gone.pv = .sl e.gone.f e.gone.z (e.gone.l.map Ed) := rfl;have hb : e.base.pv = .sl e.base.f e.base.z (e.base.l.map Ed) := rfl;have hel := Ac e;have s1 := Apa e ⟨false, 2, e.gone.l⟩;have s2 := Apc { e with gone := ⟨false, 2, e.gone.l⟩ } ⟨false, 2, e.base.l⟩;simp only [SlI.pv] at s1 s2;simp (disch := omega) only [ir57, Ga, Fh, hg, hb, go_sem];refine Aa (Zg (es := e.gone.l.map Ed) (h1.imp (fun q => by rw [q]; rfl) id) (by rw [List.length_map]; omega)) ?_;simp (disch := omega) only [Fh, hb, go_sem];refine Aa (Zg (es := e.base.l.map Ed) (h2.imp (fun q => by rw [q]; rfl) id) (by rw [List.length_map]; omega)) ?_;simp (disch := omega) only [hel, s1, s2, Bh, go_sem];rfl
def Alc (S : St) (fl : Vc) (f : Bool) (z : Nat) (L : List Evt) : List SV := Ba S ++ [.vec 8 (vE fl), .pv (.sl f z (L.map Bc))]
def M1 (S : St) (fl : Vc) (L : List Evt) : SV := .agg (Alc S fl false 21 L)
theorem W3 {S : St} (hS : Fine S) {h d} : FunOk Tryz.prog 23 [.agg (Ba S)] h d (.p d 0) [.new d (.var (M1 S S.known []))] := by
 refine As5 Af fn23 (by simp) rfl rfl fun F => ?_;simp (disch := omega) only [ir23, Ba, A6, go_sem];refine Aa (Zf (s := S) hS) ?_;simp (disch := omega) only [Ba, A6, go_sem];have hi : Imp (.agg (Ba S ++ [.vec 8 (vE S.known), .pv (.sl true 0 [])])) (M1 S S.known []) :=
  Xm (l := [.vec 8 (vE S.known), .pv (.sl false 15 (S.objs.map Aq)), .pv (.sl false 15 (S.ents.map Bq)), .vec 8 (iE S.wards), .vec 8 (wE S.ret), .vec 8 (vE S.known), .pv (.sl true 0 [])]) (m := [.vec 8 (vE S.known), .pv (.sl false 15 (S.objs.map Aq)), .pv (.sl false 15 (S.ents.map Bq)), .vec 8 (iE S.wards), .vec 8 (wE S.ret), .vec 8 (vE S.known), .pv (.sl false 21 [])]) ⟨⟨Imp.refl _, rfl⟩, ⟨Imp.refl _, rfl⟩, ⟨Imp.refl _, rfl⟩, ⟨Imp.refl _, rfl⟩, ⟨Imp.refl _, rfl⟩, ⟨Imp.refl _, rfl⟩, ⟨Tf (Hj (fun q => by cases q) (.inl rfl) (.refl _)), rfl⟩, trivial⟩
 refine ⟨mk [(2, .p 8 0)] [(8, some (.var (M1 S S.known [])))], Ah ?_ ?_, ?_⟩
 · simp (disch := omega) only [go_sem]
 · simp (disch := omega) only [go_sem];exact ⟨hi, rfl⟩
 (try simp only [Cf, Ce, Cd, Cc, Cb, Ca, B9, B0]); simp (disch := omega) only [go_sem]
 exact ⟨8, rfl, if_pos rfl⟩
end Go.Proofs.YthmjebkldgdeiaaGreat.Fw
namespace Go.Proofs.YthmjebkldgdeiaaGreat.Fw
open Go.RowKit Go.Proofs
theorem Aqr {S : St} {fl : Vc} {L : List Evt}  {g : Nat} {h d} (hg : h g = some (.var (M1 S fl L))) : FunOk Tryz.prog 18 [.p g 0] h d (.vec 8 (vE S.known)) [] := by
 refine FunOk.quiet (g := g) (blk := .var (M1 S fl L)) ?_ hg (by simp [A3, tn]);refine FunOk.io (fun h d hg => ?_) rfl rfl rfl rfl hg;refine Gc (g := 900) Af fn18 (by simp) (by simp [A3, tn]) (by simp [A3, tn]) hg rfl (by simp [Blk.ptr, SV.kill]) rfl (fun _ => rfl) fun F => ?_;simp (disch := omega) only [ir18, M1, Alc, Ba, A6, Blk.ptr, List.length_map, List.cons_append, List.nil_append, go_sem]
 skip
 refine ⟨_, .same _, ?_⟩
 (try simp only [Cf, Ce, Cd, Cc, Cb, Ca, B9, B0]); simp (disch := omega) only [go_sem]
 exact ⟨900, rfl, rfl⟩
theorem Aqg {S : St} {fl : Vc} {L : List Evt} (hS : Fine S) {g : Nat} {h d} (hg : h g = some (.var (M1 S fl L))) : FunOk Tryz.prog 21 [.p g 0] h d (.agg (Ba S)) [] := by
 refine FunOk.quiet (g := g) (blk := .var (M1 S fl L)) ?_ hg (by simp [A3, tn]);refine FunOk.io (fun h d hg => ?_) rfl rfl rfl rfl hg;refine Gc (g := 900) Af fn21 (by simp) (by simp [A3, tn]) (by simp [A3, tn]) hg rfl (by simp [Blk.ptr, SV.kill]) rfl (fun _ => rfl) fun F => ?_;simp (disch := omega) only [ir21, M1, Alc, Ba, A6, Blk.ptr, List.cons_append, List.nil_append, go_sem];refine Aa (Zf (s := S) hS) ?_;simp (disch := omega) only [Ba, A6, go_sem];refine ⟨_, .same _, ?_⟩
 (try simp only [Cf, Ce, Cd, Cc, Cb, Ca, B9, B0]); simp (disch := omega) only [go_sem]
 exact ⟨900, rfl, rfl⟩
def A5j (m : Nat) (v : Vc) (L : List Evt) : SV := .fn (.func m) [.pi 1 [[.sl true 21 (L.map Bc)]] 0 0, .pi 8 [vE v] 0 0]
theorem Aqj {S : St} {fl : Vc} {L : List Evt} (v : Vc) (hv : Mz fl v) {g : Nat} {h d} (hg : h g = some (.var (M1 S fl L))) : FunOk Tryz.prog 28 [.p g 0, .vec 8 (vE v)] h d (.tup [A5j 70 v L, .pv (.i .i64 0)]) [] := by
 refine FunOk.quiet (g := g) (blk := .var (M1 S fl L)) ?_ hg (by simp [A3, tn]);refine FunOk.io (fun h d hg => ?_) rfl rfl rfl rfl hg;refine Gc (g := 900) Af fn28 (by simp) (by simp [A3, tn]) (by simp [A3, tn]) hg rfl (by simp [Blk.ptr, SV.kill]) rfl (fun _ => rfl) fun F => ?_;have hv' := decide_eq_true hv;simp (disch := omega) only [ir28, M1, Alc, Ba, A6, Blk.ptr, List.cons_append, List.nil_append, go_sem];refine Aa (Aqp _ _) ?_;simp (disch := omega) only [hv', go_sem];refine Aa (Ad0 (.inr rfl)) ?_;simp (disch := omega) only [A5j, go_sem];refine ⟨_, Aih 6 (x := .pv (.sl true 21 (L.map Bc))) (cs := [.sl true 21 (L.map Bc)]) rfl rfl (Aih 3 (x := .vec 8 (vE v)) (cs := vE v) rfl rfl (.same _)), ?_⟩
 (try simp only [Cf, Ce, Cd, Cc, Cb, Ca, B9, B0]); simp (disch := omega) only [go_sem]
 exact ⟨900, rfl, rfl⟩
theorem Abf {S : St} {fl : Vc} {L : List Evt} (v : Vc) (hv : ¬ Mz fl v) {g : Nat} {h d} (hg : h g = some (.var (M1 S fl L))) : FunOk Tryz.prog 28 [.p g 0, .vec 8 (vE v)] h d (.tup [.pv (.v .nilFunc), .pv (.i .i64 11)]) [] := by
 refine FunOk.quiet (g := g) (blk := .var (M1 S fl L)) ?_ hg (by simp [A3, tn]);refine FunOk.io (fun h d hg => ?_) rfl rfl rfl rfl hg;refine Gc (g := 900) Af fn28 (by simp) (by simp [A3, tn]) (by simp [A3, tn]) hg rfl (by simp [Blk.ptr, SV.kill]) rfl (fun _ => rfl) fun F => ?_;have hv' := decide_eq_false hv;simp (disch := omega) only [ir28, M1, Alc, Ba, A6, Blk.ptr, List.cons_append, List.nil_append, go_sem];refine Aa (Aqp _ _) ?_;simp (disch := omega) only [hv', go_sem];refine ⟨_, .same _, ?_⟩
 (try simp only [Cf, Ce, Cd, Cc, Cb, Ca, B9, B0]); simp (disch := omega) only [go_sem]
 exact ⟨900, rfl, rfl⟩
noncomputable def Uq (S : St) (e : Evt) : St := if Ew S e = 0 then Hs S e else S
open Classical in
noncomputable def Yh (S : St) (L : List Evt) (e : Evt) : List Evt := if Ew S e = 0 then L ++ [G9 e] else L
set_option maxHeartbeats 2000000 in
theorem Arc {S : St} {fl : Vc} {L : List Evt} {e : Evt} (hs : StIn S) (he : ev e) (hn : L.length ≤ 1000) {g : Nat} {h d} (hg : h g = some (.var (M1 S fl L))) : FunOk Tryz.prog 29 [.p g 0, .vec 21 (Bc e)] h d (.pv (.i .i64 (Ew S e))) [.upd g (.var (M1 (Uq S e) fl (Yh S L e)))] := by
 refine FunOk.io (fun h d hg => ?_) rfl rfl rfl rfl hg;refine Gc (g := 900) Af fn29 (by simp) (by simp [A3, tn]) (by simp [A3, tn]) hg rfl (by simp [Blk.ptr, SV.kill]) rfl (fun _ => rfl) fun F => ?_;have hel := Ac e;have hel2 := Ac (G9 e);simp (disch := omega) only [ir29, M1, Alc, Ba, A6, Blk.ptr, List.cons_append, List.nil_append, Bh, hel, go_sem];refine Aa (Ajg (s := S) hs he) ?_;by_cases hw : Ew S e = 0
 · have e1 : Aa8 S e = Uq S e := by unfold Aa8 Uq; rw [if_pos hw, if_pos hw]
   have e2 : Yh S L e = L ++ [G9 e] := if_pos hw;rw [e1, hw];simp (disch := omega) only [Ba, A6, go_sem];refine Aa (Ad0 (.inr rfl)) ?_;simp (disch := omega) only [Bh, hel, go_sem];refine Aa (Sz e he) ?_;simp (disch := omega) only [hel2, go_sem];refine ⟨fun q => (by cases q), _, D7 34 rfl (.same _), ?_⟩
   (try simp only [Cf, Ce, Cd, Cc, Cb, Ca, B9, B0]); simp (maxSteps := 10000000) (disch := omega) only [e2, List.map_append, List.map_cons, List.map_nil, go_sem]
   exact ⟨900, rfl, rfl⟩
 · have e1 : Uq S e = S := if_neg hw;have e2 : Yh S L e = L := if_neg hw;rw [e1, e2];simp (disch := omega) only [Ba, A6, hw, go_sem];refine ⟨_, .same _, ?_⟩
   (try simp only [Cf, Ce, Cd, Cc, Cb, Ca, B9, B0]); simp (disch := omega) only [go_sem]
   exact ⟨900, rfl, rfl⟩
def Ou : Evt := ⟨1, 1, fun _ => 0, 1, 0, 0, 0, 0, [97], .nil, .nil, 0, [], 0⟩
theorem Bb2 : Bd Ou = true := by
 have h1 : Ix Ou := ⟨by decide, by decide, by decide, by decide, rfl, by decide, by decide⟩
 have h2 : O8 Ou := fun i _ => by simp [Ou]
 rw [Gs h1 h2, Avl rfl, Abv rfl];decide
theorem A4h : ev Ou := ⟨.inl rfl, .inl rfl, by decide, by decide, by decide⟩
theorem A0t : Acc (Ap []) Ou := ⟨Bb2, rfl, fun i _ => Nat.le_refl _, rfl, rfl⟩
theorem Aii : Ew (Ap []) Ou = 0 := Mo.2 A0t
theorem A9j : Ap [Ou] = Hs (Ap []) Ou := Qb (l := []) Val.nil A0t
theorem Bah : Uq (Ap []) Ou = Ap [Ou] := by unfold Uq; rw [if_pos Aii, A9j]
theorem A5k : Yh (Ap []) [] Ou = [G9 Ou] := by unfold Yh; rw [if_pos Aii]; rfl
theorem Ahi : Fine (Ap []) := (Se Val.nil (by simp)).fine
theorem Bbj (n : Nat) (S : St) (fl : Vc) (L : List Evt) : SV.kill n (M1 S fl L) = M1 S fl L := rfl
theorem Bau (S : St) (fl : Vc) (L : List Evt) : SV.width (M1 S fl L) = 35 := rfl
theorem Bbv (n : Nat) (p : PV) (S : St) (fl : Vc) (L : List Evt) : SV.frz n p (M1 S fl L) = M1 S fl L := rfl
attribute [go_sem] Bbj Bau Bbv
theorem Ar9 : (Ap []).known = fun _ => 0 := rfl
theorem A3c (es : List (List PV)) (f : Bool) (z : Nat) (K : KK) : LoadK (some [.sl f z es]) 0 1 false K = K (.pv (.sl f z es)) [] := by
 simp only [LoadK, Hv, eq_iff_iff];exact ⟨fun h => h.2.2, fun h => ⟨by simp, .inr trivial, h⟩⟩
theorem A6n (p : Nat) (hp : p < 1000) : ∀ q ∈ [p], q < Iv := by
 intro q hq;have : Iv = 1000000 := rfl;simp at hq; omega
end Go.Proofs.YthmjebkldgdeiaaGreat.Fw
namespace Go.Proofs.YthmjebkldgdeiaaGreat.Fw
open Go.RowKit Go.Proofs
def Afq (l : List Evt) : Prop := l.length ≤ 25 ∧ ∀ e ∈ l, A0d e
open Classical in
noncomputable def Zx (l : List Evt) : Bool := decide (Afq l)
theorem Ab7 {l : List Evt} (h : Afq l) : Zx l = true := by simp [Zx, h]
theorem Vp {l : List Evt} (h : ¬ Afq l) : Zx l = false := by simp [Zx, h]
def Pq (f : Bool) (l : List Evt) (k : Nat) : FS := mk [(10, .pv (.i .i64 k)), (9, .pv (.i .i64 l.length)), (8, .pv (.sl f 21 (l.map Bc)))] []
theorem Avx {T : List Evt} {e : Evt} (h : Val T) (he : ev e) : Val (M3 T e) ∧ (M3 T e).length ≤ T.length + 1 := by
 unfold M3;split
 · rename_i hw; exact ⟨Val.snoc h he hw, by simp⟩
 · exact ⟨h, by omega⟩
end Go.Proofs.YthmjebkldgdeiaaGreat.Fw
namespace Go.Proofs.YthmjebkldgdeiaaGreat.Fw
open Go.RowKit
variable {P : Program} {F : Fr} {N : Nat} {ρ ρ' : Nat → Value} {s : FS} {a : Act} {w w' : World} {V V' : View}
end Go.Proofs.YthmjebkldgdeiaaGreat.Fw
namespace Go.Proofs.YthmjebkldgdeiaaGreat.Fw
open Go.RowKit Go.Proofs
def Pe (P : Evt → Bool) (l : List Evt) : List Evt := l.filter fun v => !P v
theorem Xj {P : Evt → Bool} {l : List Evt} {k : Nat} {v : Evt} (hv : l[k]? = some v) : Pe P (l.take (k + 1)) = Pe P (l.take k) ++ if P v = true then [] else [v] := by
 unfold Pe;rw [List.take_add_one, hv, List.filter_append];congr 1;cases hp : P v <;> simp [hp]
theorem Amh (P : Evt → Bool) (l : List Evt) (k : Nat) : (Pe P (l.take k)).length ≤ k := Nat.le_trans (List.length_filter_le _ _) (by simp; omega)
def J3 (f : Bool) (z : Nat) (T : List Evt) (fl : Vc) : List SV := [.pv (.sl f z (T.map Bc)), .vec 8 (vE fl)]
def Gn (T : List Evt) (fl : Vc) : SV := .agg (J3 false 21 T fl)
theorem Zd {f : Bool} {l : List Evt} {h d} (hn : l.length ≤ 1000) : FunOk Tryz.prog 19 [.pv (.sl f 21 (l.map Bc))] h d (.vec 8 (vE (Bi l))) [] := Abj rfl rfl hn
theorem Aqh {T : List Evt} {h d} (hn : T.length ≤ 1000) : FunOk Tryz.prog 24 [.pv (.sl false 21 (T.map Bc))] h d (Gn T (Bi T)) [] := by
 refine Al Af fn24 (by simp) rfl rfl fun F => ?_;simp (disch := omega) only [ir24, go_sem];refine Aa (Zd (l := T) hn) ?_;simp (disch := omega) only [Gn, J3, go_sem]
def C7 (v : Vc) (T : List Evt) : List Evt := Pe (fun e => Bg v e.rep e.seq) T
noncomputable def Ao5 (T : List Evt) (fl v : Vc) (k : Nat) : FS := mk [(7, .pv (.i .i64 k)), (6, .os 40), (2, .p 2 0), (3, .p 3 0)] [(2, some (.var (Gn T fl))), (3, some (.var (.vec 8 (vE v)))), (40, some (.row 21 ((C7 v (T.take k)).map Bc)))]
set_option maxHeartbeats 2000000 in
theorem Aqi {T : List Evt} {fl v : Vc} {h d} (hn : T.length ≤ 1000) (hv : Mz fl v) : FunOk Tryz.prog 27 [Gn T fl, .vec 8 (vE v)] h d (.tup [.pv (.sl false 21 ((C7 v T).map Bc)), .pv (.i .i64 0)]) [] := by
 refine Tl Af fn27 (by simp) rfl rfl fun F => ?_;have hv' := decide_eq_true hv;simp (disch := omega) only [ir27, Gn, J3, go_sem];refine Aa (Agp _ _) ?_;simp (disch := omega) only [hv', go_sem];refine A0 Af (Ao5 T fl v) (fun k => k ≤ T.length) (fun k => T.length - k) 0 (by simp) (Pl 6 40 21 rfl (by omega) (Ah ?_ ?_)) fun k hk => ?_
 · simp (disch := omega) only [go_sem]
 · simp (disch := omega) only [Gn, J3, List.take_zero, show C7 v [] = [] from rfl, List.map_nil, go_sem]
 by_cases hlt : k < T.length
 · have hx : T[k]? = some T[k] := List.getElem?_eq_getElem hlt;have he : (T.map Bc)[k]? = some (Bc T[k]) := by rw [List.getElem?_map, hx]; rfl
   have hsn := Xj (P := fun e => Bg v e.rep e.seq) hx;have hl := Amh (fun e => Bg v e.rep e.seq) T k;generalize T[k] = e at *;have hel := Ac e;simp (disch := omega) only [Ao5, Gn, J3, List.length_map, he, Bh, hel, Aw, go_sem];refine Aa (Nh _ _ _) ?_;by_cases hh : Bg v e.rep e.seq = true
   · rw [if_pos hh, List.append_nil] at hsn;simp (disch := omega) only [hh, go_sem];refine Ad (k + 1) _ _ rfl (by omega) (by omega) ?_ ?_
     · simp (disch := omega) only [go_sem]
     · simp (disch := omega) only [C7, hsn, Gn, J3, go_sem]
   · rw [if_neg hh] at hsn;have hh' : Bg v e.rep e.seq = false := by simpa using hh
     simp (disch := omega) only [hh', List.length_map, he, Bh, hel, C7, go_sem];refine ⟨k + 1, by omega, by omega, D6 36 40 (by decide) rfl (Ah ?_ ?_)⟩
     · simp (disch := omega) only [go_sem]
     · simp (disch := omega) only [C7, hsn, Gn, J3, List.map_append, List.map_cons, List.map_nil, go_sem]
 · obtain rfl : k = T.length := by omega
   have htk : T.take T.length = T := List.take_length;simp (disch := omega) only [Ao5, Gn, J3, List.length_map, htk, go_sem]
theorem Abe {T : List Evt} {fl v : Vc} {h d} (hv : ¬ Mz fl v) : FunOk Tryz.prog 27 [Gn T fl, .vec 8 (vE v)] h d (.tup [.pv (.sl true 0 []), .pv (.i .i64 11)]) [] := by
 refine Al Af fn27 (by simp) rfl rfl fun F => ?_;have hv' := decide_eq_false hv;simp (disch := omega) only [ir27, Gn, J3, go_sem];refine Aa (Agp _ _) ?_;simp (disch := omega) only [hv', go_sem]
theorem Ams {a b : List Bn} (hl : a.length = b.length) (h : ∀ j, j < a.length → a.getD j (0, 0) = b.getD j (0, 0)) : a = b := by
 apply List.ext_getElem hl;intro j h1 h2;have := h j h1
 rwa [List.getD_eq_getElem?_getD, List.getD_eq_getElem?_getD, List.getElem?_eq_getElem h1, List.getElem?_eq_getElem h2] at this
theorem Ass {a : List Bn} {k : Nat} (h : k < a.length) : (a.map Ed)[k]? = some (Ed (a.getD k (0, 0))) := by
 simp [List.getD_eq_getElem?_getD, List.getElem?_eq_getElem h]
def Ais (f g : Bool) (y z : Nat) (a b : List Bn) (k : Nat) : FS := mk [(5, .pv (.i .i64 k)), (0, .pv (.sl f y (a.map Ed))), (1, .pv (.sl g z (b.map Ed)))] []
set_option maxHeartbeats 1000000 in
theorem Nd {f g : Bool} {y z : Nat} {a b : List Bn} {h d} (hy : a = [] ∨ y = 2) (hz : b = [] ∨ z = 2) (hn : a.length ≤ 1000) (hn' : b.length ≤ 1000) :
 FunOk Tryz.prog 104 [.pv (.sl f y (a.map Ed)), .pv (.sl g z (b.map Ed))] h d (.pv (.b (decide (a = b)))) [] := by
 refine C5 Af fn104 (by simp) rfl rfl fun F => ?_;simp (disch := omega) only [go_sem];by_cases hlen : a.length = b.length
 · have hle : (a.length : Int) = (b.length : Int) := by omega
   simp (disch := omega) only [ir104, List.length_map, hle, go_sem];refine A0 Af (Ais f g y z a b) (fun k => k ≤ a.length ∧ ∀ j, j < k → a.getD j (0, 0) = b.getD j (0, 0)) (fun k => a.length - k) 0 (by simp) (Ah ?_ ?_) fun k hk => ?_
   · simp (disch := omega) only [List.length_map, hle, go_sem]
   · simp (disch := omega) only [go_sem]
   obtain ⟨hk1, hk2⟩ := hk;by_cases hlt : k < a.length
   · have hy1 : y = 2 := hy.resolve_left fun e => by subst e; simp at hlt
     have hz1 : z = 2 := hz.resolve_left fun e => by subst e; rw [List.length_nil] at hlen; omega
     subst hy1; subst hz1;have h1 := Ass hlt;have h2 := Ass (a := b) (k := k) (by omega);have hb : k < b.length := by omega
     by_cases hd : a.getD k (0, 0) = b.getD k (0, 0)
     · rw [← hd] at h2;have hd0 := hd;generalize a.getD k (0, 0) = u at h1 h2;have hp := Gw (r := u.1) (r' := u.1) (q := u.2) (q' := u.2) ⟨rfl, rfl⟩;simp (disch := omega) only [Ais, List.length_map, hlen, h1, h2, Ek, Ae, hp, go_sem];refine Ad (k + 1) _ _ rfl ⟨by omega, fun j hj => ?_⟩ (by omega) ?_ ?_
       · by_cases e : j = k
         · subst e; exact hd
         · exact hk2 j (by omega)
       · simp (disch := omega) only [go_sem]
       · simp (disch := omega) only [go_sem]
     · have hne : ¬ a = b := fun e => hd (by rw [e]);generalize a.getD k (0, 0) = u at *;generalize b.getD k (0, 0) = v at *;have hp := Fg (r := u.1) (r' := v.1) (q := u.2) (q' := v.2) fun e => hd (Prod.ext e.1 e.2);simp (disch := omega) only [Ais, List.length_map, hlen, h1, h2, Ek, Ae, hp, hne, go_sem]
   · obtain rfl : k = a.length := by omega
     have he := Ams hlen hk2;subst he
     (try simp only [Cf, Ce, Cd, Cc, Cb, Ca, B9, B0]); simp (disch := omega) only [Ais, List.length_map, go_sem]
 · have hle : ¬ (a.length : Int) = (b.length : Int) := by omega
   have hne : ¬ a = b := fun e => hlen (by rw [e]);simp (disch := omega) only [ir104, List.length_map, hle, hne, go_sem]
def Er (a b : Evt) : Bool := decide (a.rep = b.rep ∧ a.seq = b.seq) && (decide (vEq a.dep b.dep) && (decide (a.kind = b.kind) && (decide (a.orep = b.orep ∧ a.oseq = b.oseq) && (decide (a.drep = b.drep ∧ a.dseq = b.dseq) && (decide (a.name = b.name) && (decide (a.gone.l = b.gone.l) && (decide (a.base.l = b.base.l) && (decide (a.off = b.off) && (decide (a.data = b.data) && decide (a.ward = b.ward))))))))))
set_option maxHeartbeats 4000000 in
theorem Aqk (a b : Evt) (ha : a.gone.ok ∧ a.base.ok ∧ a.gone.l.length ≤ 1000 ∧ a.base.l.length ≤ 1000) (hb : b.gone.ok ∧ b.base.ok ∧ b.gone.l.length ≤ 1000 ∧ b.base.l.length ≤ 1000) {h d} : FunOk Tryz.prog 65 [.vec 21 (Bc a), .vec 21 (Bc b)] h d (.pv (.b (Er a b))) [] := by
 refine Al Af fn65 (by simp) rfl rfl fun F => ?_;obtain ⟨a1, a2, a3, a4⟩ := ha;obtain ⟨b1, b2, b3, b4⟩ := hb;by_cases c0 : a.rep = b.rep ∧ a.seq = b.seq;rotate_left
 · have c0f := eq_false c0;have c0p : Sv [PV.i .i64 a.rep, PV.i .u32 a.seq] [PV.i .i64 b.rep, PV.i .u32 b.seq] = false := Fg c0;have eb : Er a b = false := by simp only [Er, c0f, decide_true, decide_false, Bool.true_and, Bool.false_and, Bool.and_true, Bool.and_false, Bool.and_self]
   simp (disch := omega) only [ir65, Aw, Ae, C3, Dt, c0p, eb, go_sem]
 have c0t := eq_true c0;have c0p : Sv [PV.i .i64 a.rep, PV.i .u32 a.seq] [PV.i .i64 b.rep, PV.i .u32 b.seq] = true := Gw c0;by_cases c1 : vEq a.dep b.dep;rotate_left
 · have c1f := eq_false c1;have eb : Er a b = false := by simp only [Er, c0t, c1f, decide_true, decide_false, Bool.true_and, Bool.false_and, Bool.and_true, Bool.and_false, Bool.and_self]
   simp (disch := omega) only [ir65, Aw, Ae, C3, Dt, c0p, c1f, eb, go_sem]
 have c1t := eq_true c1;by_cases c2 : a.kind = b.kind;rotate_left
 · have c2f := eq_false c2;have eb : Er a b = false := by simp only [Er, c0t, c1t, c2f, decide_true, decide_false, Bool.true_and, Bool.false_and, Bool.and_true, Bool.and_false, Bool.and_self]
   simp (disch := omega) only [ir65, Aw, Ae, C3, Dt, c0p, c1t, c2f, eb, go_sem]
 have c2t := eq_true c2;by_cases c3 : a.orep = b.orep ∧ a.oseq = b.oseq;rotate_left
 · have c3f := eq_false c3;have c3p : Sv [PV.i .i64 a.orep, PV.i .u32 a.oseq] [PV.i .i64 b.orep, PV.i .u32 b.oseq] = false := Fg c3;have eb : Er a b = false := by simp only [Er, c0t, c1t, c2t, c3f, decide_true, decide_false, Bool.true_and, Bool.false_and, Bool.and_true, Bool.and_false, Bool.and_self]
   simp (disch := omega) only [ir65, Aw, Ae, C3, Dt, c0p, c1t, c2t, c3p, eb, go_sem]
 have c3t := eq_true c3;have c3p : Sv [PV.i .i64 a.orep, PV.i .u32 a.oseq] [PV.i .i64 b.orep, PV.i .u32 b.oseq] = true := Gw c3;by_cases c4 : a.drep = b.drep ∧ a.dseq = b.dseq;rotate_left
 · have c4f := eq_false c4;have c4p : Sv [PV.i .i64 a.drep, PV.i .u32 a.dseq] [PV.i .i64 b.drep, PV.i .u32 b.dseq] = false := Fg c4;have eb : Er a b = false := by simp only [Er, c0t, c1t, c2t, c3t, c4f, decide_true, decide_false, Bool.true_and, Bool.false_and, Bool.and_true, Bool.and_false, Bool.and_self]
   simp (disch := omega) only [ir65, Aw, Ae, C3, Dt, c0p, c1t, c2t, c3p, c4p, eb, go_sem]
 have c4t := eq_true c4;have c4p : Sv [PV.i .i64 a.drep, PV.i .u32 a.dseq] [PV.i .i64 b.drep, PV.i .u32 b.dseq] = true := Gw c4;by_cases c5 : a.name = b.name;rotate_left
 · have c5f := eq_false c5;have eb : Er a b = false := by simp only [Er, c0t, c1t, c2t, c3t, c4t, c5f, decide_true, decide_false, Bool.true_and, Bool.false_and, Bool.and_true, Bool.and_false, Bool.and_self]
   simp (disch := omega) only [ir65, Aw, Ae, C3, Dt, c0p, c1t, c2t, c3p, c4p, c5f, eb, go_sem]
 have c5t := eq_true c5;by_cases c6 : a.gone.l = b.gone.l;rotate_left
 · have c6f := eq_false c6;have eb : Er a b = false := by simp only [Er, c0t, c1t, c2t, c3t, c4t, c5t, c6f, decide_true, decide_false, Bool.true_and, Bool.false_and, Bool.and_true, Bool.and_false, Bool.and_self]
   simp (disch := omega) only [ir65, Aw, Ae, C3, Dt, c0p, c1t, c2t, c3p, c4p, c5t, c6f, go_sem];refine Aa (Nd (a := a.gone.l) (b := b.gone.l) a1 b1 a3 b3) ?_;simp (disch := omega) only [Aw, Ae, C3, Dt, c0p, c1t, c2t, c3p, c4p, c5t, c6f, eb, go_sem]
 have c6t := eq_true c6;by_cases c7 : a.base.l = b.base.l;rotate_left
 · have c7f := eq_false c7;have eb : Er a b = false := by simp only [Er, c0t, c1t, c2t, c3t, c4t, c5t, c6t, c7f, decide_true, decide_false, Bool.true_and, Bool.false_and, Bool.and_true, Bool.and_false, Bool.and_self]
   simp (disch := omega) only [ir65, Aw, Ae, C3, Dt, c0p, c1t, c2t, c3p, c4p, c5t, c6t, c7f, go_sem];refine Aa (Nd (a := a.gone.l) (b := b.gone.l) a1 b1 a3 b3) ?_;simp (disch := omega) only [Aw, Ae, C3, Dt, c0p, c1t, c2t, c3p, c4p, c5t, c6t, c7f, go_sem];refine Aa (Nd (a := a.base.l) (b := b.base.l) a2 b2 a4 b4) ?_;simp (disch := omega) only [Aw, Ae, C3, Dt, c0p, c1t, c2t, c3p, c4p, c5t, c6t, c7f, eb, go_sem]
 have c7t := eq_true c7;by_cases c8 : a.off = b.off;rotate_left
 · have c8f := eq_false c8;have eb : Er a b = false := by simp only [Er, c0t, c1t, c2t, c3t, c4t, c5t, c6t, c7t, c8f, decide_true, decide_false, Bool.true_and, Bool.false_and, Bool.and_true, Bool.and_false, Bool.and_self]
   simp (disch := omega) only [ir65, Aw, Ae, C3, Dt, c0p, c1t, c2t, c3p, c4p, c5t, c6t, c7t, c8f, go_sem];refine Aa (Nd (a := a.gone.l) (b := b.gone.l) a1 b1 a3 b3) ?_;simp (disch := omega) only [Aw, Ae, C3, Dt, c0p, c1t, c2t, c3p, c4p, c5t, c6t, c7t, c8f, go_sem];refine Aa (Nd (a := a.base.l) (b := b.base.l) a2 b2 a4 b4) ?_;simp (disch := omega) only [Aw, Ae, C3, Dt, c0p, c1t, c2t, c3p, c4p, c5t, c6t, c7t, c8f, eb, go_sem]
 have c8t := eq_true c8;by_cases c9 : a.data = b.data;rotate_left
 · have c9f := eq_false c9;have eb : Er a b = false := by simp only [Er, c0t, c1t, c2t, c3t, c4t, c5t, c6t, c7t, c8t, c9f, decide_true, decide_false, Bool.true_and, Bool.false_and, Bool.and_true, Bool.and_false, Bool.and_self]
   simp (disch := omega) only [ir65, Aw, Ae, C3, Dt, c0p, c1t, c2t, c3p, c4p, c5t, c6t, c7t, c8t, c9f, go_sem];refine Aa (Nd (a := a.gone.l) (b := b.gone.l) a1 b1 a3 b3) ?_;simp (disch := omega) only [Aw, Ae, C3, Dt, c0p, c1t, c2t, c3p, c4p, c5t, c6t, c7t, c8t, c9f, go_sem];refine Aa (Nd (a := a.base.l) (b := b.base.l) a2 b2 a4 b4) ?_;simp (disch := omega) only [Aw, Ae, C3, Dt, c0p, c1t, c2t, c3p, c4p, c5t, c6t, c7t, c8t, c9f, eb, go_sem]
 have c9t := eq_true c9;by_cases c10 : a.ward = b.ward;rotate_left
 · have c10f := eq_false c10;have eb : Er a b = false := by simp only [Er, c0t, c1t, c2t, c3t, c4t, c5t, c6t, c7t, c8t, c9t, c10f, decide_true, decide_false, Bool.true_and, Bool.false_and, Bool.and_true, Bool.and_false, Bool.and_self]
   simp (disch := omega) only [ir65, Aw, Ae, C3, Dt, c0p, c1t, c2t, c3p, c4p, c5t, c6t, c7t, c8t, c9t, c10f, go_sem];refine Aa (Nd (a := a.gone.l) (b := b.gone.l) a1 b1 a3 b3) ?_;simp (disch := omega) only [Aw, Ae, C3, Dt, c0p, c1t, c2t, c3p, c4p, c5t, c6t, c7t, c8t, c9t, c10f, go_sem];refine Aa (Nd (a := a.base.l) (b := b.base.l) a2 b2 a4 b4) ?_;simp (disch := omega) only [Aw, Ae, C3, Dt, c0p, c1t, c2t, c3p, c4p, c5t, c6t, c7t, c8t, c9t, c10f, eb, go_sem]
 have c10t := eq_true c10;have eb : Er a b = true := by simp only [Er, c0t, c1t, c2t, c3t, c4t, c5t, c6t, c7t, c8t, c9t, c10t, decide_true, decide_false, Bool.true_and, Bool.false_and, Bool.and_true, Bool.and_false, Bool.and_self]
 simp (disch := omega) only [ir65, Aw, Ae, C3, Dt, c0p, c1t, c2t, c3p, c4p, c5t, c6t, c7t, c8t, c9t, c10t, go_sem];refine Aa (Nd (a := a.gone.l) (b := b.gone.l) a1 b1 a3 b3) ?_;simp (disch := omega) only [Aw, Ae, C3, Dt, c0p, c1t, c2t, c3p, c4p, c5t, c6t, c7t, c8t, c9t, c10t, go_sem];refine Aa (Nd (a := a.base.l) (b := b.base.l) a2 b2 a4 b4) ?_;simp (disch := omega) only [Aw, Ae, C3, Dt, c0p, c1t, c2t, c3p, c4p, c5t, c6t, c7t, c8t, c9t, c10t, eb, go_sem]
theorem Aou (c : Int) (n : Nat) : ∃ q : Nat, (IntKind.u64.wrap c).tmod (n : Int) = q ∧ (0 < n → q < n) := by
 have h0 := Aai c;have h1 : 0 ≤ IntKind.u64.wrap c := by omega
 refine ⟨((IntKind.u64.wrap c).tmod n).toNat, ?_, fun hn => ?_⟩
 · have : 0 ≤ (IntKind.u64.wrap c).tmod n := Int.tmod_nonneg _ h1;omega
 · have h2 := Int.tmod_lt_of_pos (IntKind.u64.wrap c) (b := (n : Int)) (by omega);have : 0 ≤ (IntKind.u64.wrap c).tmod n := Int.tmod_nonneg _ h1;omega
theorem Apx (e : Evt) : Er e e = true := by simp [Er, vEq]
theorem Awi {fl v : Vc} (h : Mz fl v) (T : List Evt) : C7 v (C7 fl T) = C7 v T := by
 unfold C7 Pe;rw [List.filter_filter];refine List.filter_congr fun e _ => ?_;by_cases h1 : Bg fl e.rep e.seq = true
 · have h2 : Bg v (Ak e).1 (Ak e).2 = true := Xp (i := Ak e) h h1;have h2' : Bg v e.rep e.seq = true := h2;simp [h1, h2']
 · have h1' : Bg fl e.rep e.seq = false := by simpa using h1
   simp [h1']
theorem Az7 {T : List Evt} {fl : Vc} {e : Evt} (hT : Val T) (hfl : Mz fl (Bi T)) (hc : G9 e = e) : Uq (Ap T) e = Ap (M3 T e) ∧ Yh (Ap T) (C7 fl T) e = C7 fl (M3 T e) := by
 unfold Uq Yh M3;by_cases hw : Ew (Ap T) e = 0
 · rw [if_pos hw, if_pos hw, if_pos hw, Qb hT (Mo.1 hw)];refine ⟨rfl, ?_⟩;have hn : Bg fl e.rep e.seq = false := by
    cases hq : Bg fl e.rep e.seq with
    | false => rfl
    | true =>
      have h1 : Bg (Bi T) (Ak e).1 (Ak e).2 = true := Xp (i := Ak e) hfl hq;have h2 := (Mo.1 hw).new;rw [D5] at h2;rw [show Bg (Bi T) (Ak e).1 (Ak e).2 = Bg (Bi T) e.rep e.seq from rfl, h2] at h1;cases h1
   unfold C7 Pe;rw [List.filter_append, List.filter_cons, if_pos (by simp [hn]), hc]; rfl
 · rw [if_neg hw, if_neg hw, if_neg hw]; exact ⟨rfl, rfl⟩
theorem Ak9 {T : List Evt} (hT : Val T) : C7 (Bi T) T = [] := by
 unfold C7 Pe;rw [List.filter_eq_nil_iff];intro e he;have : Bg (Bi T) (Ak e).1 (Ak e).2 = true := hT.has.2 ⟨e, he, rfl⟩;have h2 : Bg (Bi T) e.rep e.seq = true := this;simp [h2]
structure HAct where
 kind : Int
 v : Vc
 stop : Int
abbrev Tb := Nat → Vc
def Iz (t : Tb) (rep : Int) (v : Vc) : Tb := fun i => if (i : Int) + 1 = rep then Cp (t i) v else t i
theorem Af0 (t : Tb) (rep : Int) (v : Vc) (i j : Nat) : Iz t rep v i j = if (i : Int) + 1 = rep then max (t i j) (v j) else t i j := by
 unfold Iz Cp; split <;> rfl
theorem Aox (t : Tb) (rep : Int) (v : Vc) (k : Nat) (h : rep = k + 1) : tE (D4 t k (Cp (t k) v)) = tE (Iz t rep v) :=
 M4 fun i hi j hj => by
  unfold D4 Iz;by_cases e : i = k
  · subst e; rw [if_pos rfl, if_pos (by omega)]
  · rw [if_neg e, if_neg (by omega)]
theorem T4 (t : Tb) (rep : Int) (v : Vc) (h : rep < 1 ∨ 8 < rep) : tE (Iz t rep v) = tE t :=
 M4 fun i hi j hj => by unfold Iz; rw [if_neg (by omega)]
theorem Aw4 (t : Tb) (rep : Int) (v : Vc) (hr : -9223372036854775808 ≤ rep ∧ rep < 9223372036854775808) {h d} : FunOk Tryz.prog 72 [.vec 64 (tE t), .pv (.i .i64 rep), .vec 8 (vE v)] h d (.vec 64 (tE (Iz t rep v))) [] := by
 refine Al Af fn72 (by simp) rfl rfl fun F => ?_;by_cases h1 : 1 ≤ rep ∧ rep ≤ 8
 · obtain ⟨k, rfl⟩ : ∃ k : Nat, rep = k + 1 := ⟨rep.toNat - 1, by omega⟩
   have e1 : ((k : Int) + 1 - 1) = k := by omega
   simp (disch := omega) only [ir72, e1, go_sem];refine Aa (Aqs _ _) ?_;simp (disch := omega) only [e1, go_sem];rw [Aox _ _ _ _ rfl]
 · by_cases h2 : rep < 1
   · simp (disch := omega) only [ir72, T4, go_sem]
   · simp (disch := omega) only [ir72, T4, go_sem]
def E6 (t : Tb) (rep : Int) (v : Vc) (i k : Nat) : Tb := fun i' j => if (i' < i ∨ i' = i ∧ j < k) ∧ (i' : Int) + 1 = rep then max (t i' j) (v j) else t i' j
def Wc (t : Tb) (rep : Int) (v : Vc) (i : Nat) : FS := mk [(7, .pv (.i .i64 i)), (6, .p 6 0), (5, .p 5 0), (3, .p 3 0), (1, .pv (.i .i64 rep))] [(3, some (.var (.vec 64 (tE (E6 t rep v i 0))))), (5, some (.var (.vec 8 (vE v)))), (6, some (.var (.vec 64 (tE fun _ _ => 0))))]
def K4 (t : Tb) (rep : Int) (v : Vc) (i : Nat) (k : Nat) : FS := mk [(8, .pv (.i .i64 k)), (7, .pv (.i .i64 i)), (6, .p 6 0), (5, .p 5 0), (3, .p 3 0), (1, .pv (.i .i64 rep))] [(3, some (.var (.vec 64 (tE (E6 t rep v i k))))), (5, some (.var (.vec 8 (vE v)))), (6, some (.var (.vec 64 (tE fun _ _ => 0))))]
set_option maxHeartbeats 1000000 in
theorem Aqq (t : Tb) (rep : Int) (v : Vc) (hr : -9223372036854775808 ≤ rep ∧ rep < 9223372036854775808) {h d} : FunOk Tryz.prog 73 [.vec 64 (tE t), .pv (.i .i64 rep), .vec 8 (vE v)] h d (.vec 64 (tE (Iz t rep v))) [] := by
 refine Al Af fn73 (by simp) rfl rfl fun F => ?_;simp (disch := omega) only [ir73, go_sem];have e0 : tE (E6 t rep v 0 0) = tE t := M4 fun i hi j hj => by unfold E6; rw [if_neg (by omega)]
 refine A0 Af (Wc t rep v) (fun k => k ≤ 8) (fun k => 8 - k) 0 (by simp) (Ah ?_ ?_) fun i hi => ?_
 · simp (disch := omega) only [go_sem]
 · simp (disch := omega) only [e0, go_sem]
 by_cases hlt : i < 8
 · simp (disch := omega) only [Wc, go_sem];refine A0 Af (K4 t rep v i) (fun k => k ≤ 8) (fun k => 8 - k) 0 (by simp) (Ah ?_ ?_) fun k hk => ?_
   · simp (disch := omega) only [go_sem]
   · simp (disch := omega) only [go_sem]
   by_cases hlk : k < 8
   · have e2 : E6 t rep v i k i k = t i k := by unfold E6; rw [if_neg (by omega)]
     by_cases hrep : (i : Int) + 1 = rep
     · by_cases hm : ((t i k : Nat) : Int) < (v k : Int)
       · simp (disch := omega) only [K4, e2, go_sem];refine Ad (k + 1) _ _ rfl (by omega) (by omega) ?_ ?_
         · simp (disch := omega) only [go_sem]
         · simp (disch := omega) only [go_sem];refine Jh (M4 fun i' hi' j hj => ?_)
           (try simp only [Ala]); simp only [D4, E6]
           grind
       · simp (disch := omega) only [K4, e2, go_sem];refine Ad (k + 1) _ _ rfl (by omega) (by omega) ?_ ?_
         · simp (disch := omega) only [go_sem]
         · simp (disch := omega) only [go_sem];refine Jh (M4 fun i' hi' j hj => ?_);unfold E6;grind
     · simp (disch := omega) only [K4, e2, go_sem];refine Ad (k + 1) _ _ rfl (by omega) (by omega) ?_ ?_
       · simp (disch := omega) only [go_sem]
       · simp (disch := omega) only [go_sem];refine Jh (M4 fun i' hi' j hj => ?_);unfold E6;grind
   · simp (disch := omega) only [K4, go_sem];refine Ad (i + 1) _ _ rfl (by omega) (by omega) ?_ ?_
     · simp (disch := omega) only [go_sem]
     · simp (disch := omega) only [go_sem];refine Jh (M4 fun i' hi' j hj => ?_);unfold E6;grind
 · have e3 : tE (E6 t rep v i 0) = tE (Iz t rep v) := M4 fun i' hi' j hj => by simp only [Af0, E6]; grind
   simp (disch := omega) only [Wc, e3, go_sem]
end Go.Proofs.YthmjebkldgdeiaaGreat.Fw
namespace Go.Proofs.YthmjebkldgdeiaaGreat.Fw
open Go.RowKit Go.Proofs
structure Msg where
 k : Int
 fr : Int
 to : Int
 kn : Vc
 tb : Nat → Vc
 f : Bool
 z : Nat
 evs : List Evt
def G4 (m : Msg) : List PV := [.i .i64 m.k, .i .i64 m.fr, .i .i64 m.to] ++ vE m.kn ++ tE m.tb ++ [.sl m.f m.z (m.evs.map Bc)]
def Gm (m : Msg) (x : SV) : List SV := [.pv (.i .i64 m.k), .pv (.i .i64 m.fr), .pv (.i .i64 m.to), .vec 8 (vE m.kn), .vec 64 (tE m.tb), x]
def Ei (m : Msg) : List SV := Gm m (.pv (.sl m.f m.z (m.evs.map Bc)))
theorem Ad7 (m : Msg) : (G4 m).length = 76 := by simp [G4, vE, tE, Cj]
theorem Agd (m : Msg) : SV.cellsL? (Ei m) = some (G4 m) := rfl
theorem A3h (m : Msg) (K : KK) : LoadK (some (G4 m)) 0 1 false K = K (.pv (.i .i64 m.k)) [] := by
 simp only [LoadK, Hv, eq_iff_iff];exact ⟨fun h => h.2.2, fun h => ⟨by simp [G4, vE, tE, Cj], .inr trivial, h⟩⟩
theorem A3g (m : Msg) (K : KK) : LoadK (some (G4 m)) 1 1 false K = K (.pv (.i .i64 m.fr)) [] := by
 simp only [LoadK, Hv, eq_iff_iff];exact ⟨fun h => h.2.2, fun h => ⟨by simp [G4, vE, tE, Cj], .inr trivial, h⟩⟩
theorem A3f (m : Msg) (K : KK) : LoadK (some (G4 m)) 2 1 false K = K (.pv (.i .i64 m.to)) [] := by
 simp only [LoadK, Hv, eq_iff_iff];exact ⟨fun h => h.2.2, fun h => ⟨by simp [G4, vE, tE, Cj], .inr trivial, h⟩⟩
theorem Axy (m : Msg) (K : KK) : LoadK (some (G4 m)) 75 1 false K = K (.pv (.sl m.f m.z (m.evs.map Bc))) [] := by
 simp only [LoadK, Hv, eq_iff_iff];exact ⟨fun h => h.2.2, fun h => ⟨by simp [G4, vE, tE, Cj], .inr trivial, h⟩⟩
theorem A3e (m : Msg) (K : KK) : LoadK (some (G4 m)) 3 8 true K = K (.vec 8 (vE m.kn)) [] := by
 simp only [LoadK, Hv, eq_iff_iff];exact ⟨fun h => h.2.2, fun h => ⟨by simp [G4, vE, tE, Cj], .inl trivial, h⟩⟩
theorem A3d (m : Msg) (K : KK) : LoadK (some (G4 m)) 11 64 true K = K (.vec 64 (tE m.tb)) [] := by
 simp only [LoadK, Hv, eq_iff_iff];exact ⟨fun h => h.2.2, fun h => ⟨by simp [G4, vE, tE, Cj], .inl trivial, h⟩⟩
attribute [go_sem] A3h A3g A3f Axy A3e A3d Ad7
theorem G5 (m : Msg) : Imp (.agg (Ei m)) (.vec 76 (G4 m)) := Gy (Agd m) (Ad7 m)
theorem Jb (m : Msg) : A3 (Ei m) = [] := by simp [Ei, Gm, A3, tn]
def Ln (m : Msg) : Prop := (m.k = 1 ∨ m.k = 2) ∧ (1 ≤ m.fr ∧ m.fr ≤ 8) ∧ (1 ≤ m.to ∧ m.to ≤ 8) ∧ m.fr ≠ m.to ∧ m.evs.length ≤ 8 ∧ (m.k = 1 → m.evs.length = 0)
open Classical in
noncomputable def Xo (m : Msg) : Bool := decide (Ln m)
theorem Rf {m : Msg} (h : Ln m) : Xo m = true := by simp [Xo, h]
theorem Ji {m : Msg} (h : ¬ Ln m) : Xo m = false := by simp [Xo, h]
def Sr (n : Int) : Bool := decide (1 ≤ n ∧ n ≤ 8)
theorem Aqm (n : Int) {h d} : FunOk Tryz.prog 80 [.pv (.i .i64 n)] h d (.pv (.b (Sr n))) [] := by
 refine Al Af fn80 (by simp) rfl rfl fun F => ?_;by_cases h1 : 1 ≤ n
 · have e : Sr n = decide (n ≤ 8) := by simp [Sr, h1]
   simp (disch := omega) only [ir80, h1, e, go_sem]
 · have e : Sr n = false := by simp [Sr, h1]
   simp (disch := omega) only [ir80, h1, e, go_sem]
theorem Alo {f : Bool} {z : Nat} {h d} : FunOk Tryz.prog 97 [.pv (.sl f z []), .fn (.func 81) []] h d (.pv (.i .i64 (-1))) [] := by
 refine Al Af fn97 (by simp) rfl rfl fun F => ?_;simp (disch := omega) only [ir97, List.length_nil, go_sem];refine A0 Af (fun _ : Nat => mk [(8, .pv (.i .i64 0)), (7, .pv (.i .i64 0)), (0, .pv (.sl f z [])), (1, .fn (.func 81) [])] []) (fun _ => True) (fun _ => 0) 0 trivial (Ah ?_ ?_) fun k hk => ?_
 · simp (disch := omega) only [go_sem]
 · simp (disch := omega) only [go_sem]
 simp (disch := omega) only [go_sem]
theorem Aq5 {f : Bool} {z : Nat} {h d} :
 FunOk Tryz.prog 55 [.pv (.sl f z []), .fn (.func 81) []] h d (.pv (.b false)) [] := by
 refine Al Af fn55 (by simp) rfl rfl fun F => ?_;simp (disch := omega) only [ir55, go_sem];refine Aa Alo ?_;simp (disch := omega) only [go_sem]
set_option maxHeartbeats 8000000 in
theorem W8 (m : Msg) (hk : m.k = 1) {h d} : FunOk Tryz.prog 46 [.vec 76 (G4 m)] h d (.pv (.b (Xo m))) [] := by
 refine Al Af fn46 (by simp) rfl rfl fun F => ?_;simp (disch := omega) only [ir46, List.length_map, hk, go_sem];refine Aa (Aqm m.fr) ?_;by_cases r1 : 1 ≤ m.fr ∧ m.fr ≤ 8;rotate_left
 · have e := Ji (m := m) fun h => r1 h.2.1;have er : Sr m.fr = false := by simp only [Sr, r1, decide_false]
   simp (disch := omega) only [er, e, go_sem]
 have er : Sr m.fr = true := by simp only [Sr, r1, and_self, decide_true]
 simp (disch := omega) only [er, go_sem];refine Aa (Aqm m.to) ?_;by_cases r2 : 1 ≤ m.to ∧ m.to ≤ 8;rotate_left
 · have e := Ji (m := m) fun h => r2 h.2.2.1;have er : Sr m.to = false := by simp only [Sr, r2, decide_false]
   simp (disch := omega) only [er, e, go_sem]
 have er : Sr m.to = true := by simp only [Sr, r2, and_self, decide_true]
 by_cases r3 : m.fr = m.to
 · have e := Ji (m := m) fun h => h.2.2.2.1 r3;simp (disch := omega) only [er, r3, e, go_sem]
 by_cases r4 : (8 : Int) < (m.evs.length : Int)
 · have e := Ji (m := m) fun h => by have := h.2.2.2.2.1; omega
   simp (disch := omega) only [er, r3, r4, e, go_sem]
 by_cases r5 : (0 : Int) < (m.evs.length : Int)
 · have e := Ji (m := m) fun h => by have := h.2.2.2.2.2 hk; omega
   simp (disch := omega) only [er, r3, r4, hk, r5, e, List.length_map, go_sem]
 have e := Rf (m := m) ⟨.inl hk, r1, r2, r3, by omega, fun _ => by omega⟩;have e0 : m.evs = [] := List.eq_nil_of_length_eq_zero (by omega);simp (disch := omega) only [er, r3, r4, hk, r5, List.length_map, e0, List.map_nil, go_sem];refine Aa Aq5 ?_;simp (disch := omega) only [e, go_sem]
theorem Bav (v : Vc) : vE v ++ (vE v ++ (vE v ++ (vE v ++ (vE v ++ (vE v ++ (vE v ++ vE v)))))) = tE fun _ => v := Akm fun _ => v
def Yb (t : Nat → Vc) (self to : Int) (v : Vc) : Msg := ⟨1, self, to, v, Iz t self v, true, 0, []⟩
theorem Agt {S : St} {fl : Vc} {L : List Evt} (t : Nat → Vc) (self to : Int) (hr : -9223372036854775808 ≤ self ∧ self < 9223372036854775808) {g : Nat} {h d} (hg : h g = some (.var (M1 S fl L))) : FunOk Tryz.prog 34 [.p g 0, .vec 64 (tE t), .pv (.i .i64 self), .pv (.i .i64 to)] h d (.agg (Ei (Yb t self to S.known))) [] := by
 refine FunOk.quiet (g := g) (blk := .var (M1 S fl L)) ?_ hg (by simp [A3, tn]);refine FunOk.io (fun h d hg => ?_) rfl rfl rfl rfl hg;refine Gc (g := 900) Af fn34 (by simp) (by simp [A3, tn]) (by simp [A3, tn]) hg rfl (by simp [Blk.ptr, SV.kill]) rfl (fun _ => rfl) fun F => ?_;simp (disch := omega) only [ir34, Blk.ptr, go_sem];refine Aa (Aqr (S := S) (L := L) rfl) ?_;simp (disch := omega) only [go_sem];refine Aa (Aw4 t self S.known hr) ?_;simp (disch := omega) only [go_sem];refine ⟨_, .same _, ?_⟩
 (try simp only [Cf, Ce, Cd, Cc, Cb, Ca, B9, B0]); simp (disch := omega) only [Ei, Gm, Yb, List.map_nil, go_sem]
 exact ⟨900, rfl, rfl⟩
noncomputable def R6 (T l : List Evt) : List Evt := l.foldl M3 T
noncomputable def Vn (T l : List Evt) : List Evt := (R6 T l).drop T.length
theorem Rl (T l : List Evt) (e : Evt) : R6 T (l ++ [e]) = M3 (R6 T l) e := by simp [R6]
theorem Aj5 (T : List Evt) : ∀ l : List Evt, R6 T l = T ++ Vn T l ∧ (Vn T l).length ≤ l.length ∧ ∀ e ∈ Vn T l, e ∈ l :=
 O9 ⟨by simp [R6, Vn], by simp [R6, Vn], fun e he => by simp [R6, Vn] at he⟩ fun l e ih => by
  obtain ⟨h1, h2, h3⟩ := ih;have hs := Rl T l e;unfold M3 at hs;split at hs
  · have e1 : Vn T (l ++ [e]) = Vn T l ++ [e] := by
     unfold Vn at h1 ⊢;rw [hs, h1, List.append_assoc, List.drop_left];simp
    refine ⟨by rw [e1, hs, ← List.append_assoc, ← h1], by rw [e1]; simp only [List.length_append, List.length_singleton]; omega, fun f hf => ?_⟩;rw [e1] at hf;rcases List.mem_append.1 hf with hf | hf
    · exact List.mem_append_left _ (h3 f hf)
    · exact List.mem_append_right _ hf
  · have e1 : Vn T (l ++ [e]) = Vn T l := by unfold Vn; rw [hs]
    rw [e1, hs];exact ⟨h1, by simp only [List.length_append, List.length_singleton]; omega, fun f hf => List.mem_append_left _ (h3 f hf)⟩
theorem Aj4 {T : List Evt} (hT : Val T) : ∀ l : List Evt, (∀ e ∈ l, ev e) → Val (R6 T l) :=
 O9 (fun _ => hT) fun l e ih hl => by
  have h1 := ih fun f hf => hl f (List.mem_append_left _ hf);rw [Rl];exact (Avx h1 (hl e (by simp))).1
theorem Atb {T l : List Evt} {e : Evt} (hT : Val T) (hl : ∀ f ∈ l, ev f) : (Ew (Ap (R6 T l)) e = 0 → Aa8 (Ap (R6 T l)) e = Ap (R6 T (l ++ [e])) ∧ Vn T (l ++ [e]) = Vn T l ++ [e] ∧ R6 T (l ++ [e]) = R6 T l ++ [e]) ∧ (Ew (Ap (R6 T l)) e ≠ 0 → Vn T (l ++ [e]) = Vn T l ∧ R6 T (l ++ [e]) = R6 T l) := by
 have hv := Aj4 hT l hl;have h1 := (Aj5 T l).1;refine ⟨fun hw => ?_, fun hw => ?_⟩
 · have hs : R6 T (l ++ [e]) = R6 T l ++ [e] := by rw [Rl]; exact if_pos hw
   refine ⟨by rw [Aws hv hw, hs], ?_, hs⟩;unfold Vn at h1 ⊢;rw [hs, h1, List.append_assoc, List.drop_left];simp
 · have hs : R6 T (l ++ [e]) = R6 T l := by rw [Rl]; exact if_neg hw
   exact ⟨by unfold Vn; rw [hs], hs⟩
noncomputable def A1k (T : List Evt) (m : Msg) (k : Nat) : FS := mk [(14, .pv (.i .i64 k)), (13, .pv (.i .i64 m.evs.length)), (12, .pv (.sl m.f m.z (m.evs.map Bc))), (6, .os 40), (2, .p 2 0), (5, .p 5 0)] [(2, some (.var (.agg (Ba (Ap (R6 T (m.evs.take k))))))), (5, some (.var (.agg [.vec 8 (vE fun _ => 0), .pv (.sl true 0 []), .pv (.sl true 0 []), .vec 8 (iE fun _ => 0), .vec 8 (wE fun _ => false)]))), (40, some (.row 21 ((Vn T (m.evs.take k)).map Bc)))]
set_option maxHeartbeats 4000000 in
theorem Aw5 {T : List Evt} {m : Msg} (hT : Val T) (hn : T.length + m.evs.length ≤ 400) (hz : m.z = 21) (hev : ∀ e ∈ m.evs, ev e) {h d} : FunOk Tryz.prog 39 [.agg (Ba (Ap T)), .vec 76 (G4 m)] h d (.tup [.pv (.sl false 21 ((Vn T m.evs).map Bc)), .agg (Ba (Ap (R6 T m.evs)))]) [] := by
 refine Tl Af fn39 (by simp) rfl rfl fun F => ?_;simp (disch := omega) only [ir39, List.length_map, Ba, A6, go_sem];refine A0 Af (A1k T m) (fun k => k ≤ m.evs.length) (fun k => m.evs.length - k) 0 (by simp) (Pl 6 40 21 rfl (by omega) (Ah ?_ ?_)) fun k hk => ?_
 · simp (disch := omega) only [go_sem]
 · simp (disch := omega) only [List.take_zero, Vn, R6, List.foldl_nil, List.drop_length, List.map_nil, Ba, A6, go_sem]
 by_cases hlt : k < m.evs.length
 · have hx : m.evs[k]? = some m.evs[k] := List.getElem?_eq_getElem hlt;have he : (m.evs.map Bc)[k]? = some (Bc m.evs[k]) := by rw [List.getElem?_map, hx]; rfl
   have ht := Cz hx;have hee := hev _ (List.getElem_mem hlt);have hpre : ∀ f ∈ m.evs.take k, ev f := fun f hf => hev f (List.mem_of_mem_take hf);obtain ⟨s1, s2⟩ := Atb (e := m.evs[k]) hT hpre;rw [← ht] at s1 s2;have hv := Aj4 hT _ hpre;obtain ⟨a1, a2, _⟩ := Aj5 T (m.evs.take k);have hkl : (m.evs.take k).length ≤ k := List.length_take_le _ _;have hWl : (R6 T (m.evs.take k)).length ≤ 400 := by rw [a1, List.length_append]; omega
   have hi := Se hv hWl;have hfl : (Vn T (m.evs.take k)).length ≤ 400 := by omega
   generalize hee' : m.evs[k] = e at *;have hel := Ac e;simp (disch := omega) only [A1k, hz, List.length_map, he, Bh, hel, Ba, A6, go_sem];refine Aa (Ajg (s := Ap (R6 T (m.evs.take k))) hi hee) ?_;by_cases hw : Ew (Ap (R6 T (m.evs.take k))) e = 0
   · obtain ⟨r1, r2, r3⟩ := s1 hw;rw [r1, hw];simp (disch := omega) only [Ba, A6, go_sem];refine Lm ?_;simp (disch := omega) only [Bh, hel, Ba, A6, List.length_map, go_sem];refine ⟨k + 1, by omega, by omega, D6 29 40 (by decide) rfl (Ah ?_ ?_)⟩
     · simp (disch := omega) only [hz, go_sem]
     · simp (disch := omega) only [r2, List.map_append, List.map_cons, List.map_nil, Ba, A6, go_sem]
   · obtain ⟨r2, r3⟩ := s2 hw;simp (disch := omega) only [hw, Ba, A6, go_sem];refine Ad (k + 1) _ _ rfl (by omega) (by omega) ?_ ?_
     · simp (disch := omega) only [hz, go_sem]
     · simp (disch := omega) only [r2, r3, Ba, A6, go_sem]
 · obtain rfl : k = m.evs.length := by omega
   have htk : m.evs.take m.evs.length = m.evs := List.take_length;simp (disch := omega) only [A1k, List.length_map, htk, Ba, A6, go_sem]
def Aew (t : Nat → Vc) (self to : Int) (v : Vc) (l : List Evt) : Msg := ⟨2, self, to, v, Iz t self v, false, 21, l⟩
def gvS (k : Nat) : SV := if k = 0 then .pv (.sl true 0 []) else .os 60
def gvK (l : List Evt) : Option Blk := if l.length = 0 then none else some (.row 21 (l.map Bc))
theorem A8q : gvS 0 = .pv (.sl true 0 []) := rfl
theorem Aj1 {k : Nat} (h : k ≠ 0) : gvS k = .os 60 := if_neg h
theorem A0p {l : List Evt} (h : l.length = 0) : gvK l = none := if_pos h
theorem Aj2 {l : List Evt} (h : l.length ≠ 0) : gvK l = some (.row 21 (l.map Bc)) := if_neg h
def Mr : SV := .agg [.pv (.i .i64 0), .pv (.i .i64 0), .pv (.i .i64 0), .vec 8 (List.replicate 8 (.i .u32 0)), .vec 64 (List.replicate 64 (.i .u32 0)), .pv (.sl true 0 [])]
def J4 (t : Nat → Vc) (self to : Int) (v : Vc) (x : SV) : List SV := [.pv (.i .i64 2), .pv (.i .i64 self), .pv (.i .i64 to), .vec 8 (vE v), .vec 64 (tE (Iz t self v)), x]
theorem A3t {t : Nat → Vc} {self to : Int} {v : Vc} : Imp (.agg (J4 t self to v (.pv (.sl true 0 [])))) (.agg (J4 t self to v (.pv (.sl false 21 [])))) :=
 Xm (l := J4 t self to v (.pv (.sl true 0 []))) (m := J4 t self to v (.pv (.sl false 21 []))) ⟨⟨Imp.refl _, rfl⟩, ⟨Imp.refl _, rfl⟩, ⟨Imp.refl _, rfl⟩, ⟨Imp.refl _, rfl⟩, ⟨Imp.refl _, rfl⟩, ⟨Tf (Hj (fun q => by cases q) (.inl rfl) (.refl _)), rfl⟩, trivial⟩
theorem Ba2 (a b : Nat) (S : St) (fl : Vc) (L : List Evt) : SV.ren a b (M1 S fl L) = M1 S fl L := rfl
attribute [go_sem] Ba2
noncomputable def Af3 (l0 : Nat) (S : St) (fl v : Vc) (L : List Evt) (t : Nat → Vc) (self to : Int) (j : Nat) : FS := mk [(8, .pv (.i .i64 j)), (7, .pv (.i .i64 L.length)), (6, .pv (.sl true 21 (L.map Bc))), (0, .fn (.yield l0) []), (2, .pi 8 [vE v] 0 0), (1000000, .pv (.i .i64 0)), (1000009, .p 8 0), (1000013, .p 12 0), (2000001, .p 900 0)] [(8, some (.var Mr)), (12, some (.var (.agg (J4 t self to S.known (gvS (C7 v (L.take j)).length))))), (60, gvK (C7 v (L.take j))), (900, some (.var (M1 S fl L)))]
set_option maxHeartbeats 8000000 in
theorem Aqw {S : St} {fl : Vc} {L : List Evt} (t : Nat → Vc) (m : Msg) (hk : m.k = 1) (hh : Ln m) (hv : Mz fl m.kn) (hL : ∀ e ∈ L, ev e ∧ G9 e = e) (hn : L.length ≤ 100) {g : Nat} {h d} (hg : h g = some (.var (M1 S fl L))) : FunOk Tryz.prog 36 [.p g 0, .vec 64 (tE t), .pv (.i .i64 m.to), .vec 76 (G4 m)] h d (.tup [.agg (Ei (Aew t m.to m.fr S.known ((C7 m.kn L).take 8))), .pv (.i .i64 0)]) [] := by
 refine FunOk.quiet (g := g) (blk := .var (M1 S fl L)) ?_ hg (by simp [A3, tn]);refine FunOk.io (fun h d hg => ?_) rfl rfl rfl rfl hg;refine Gc (g := 900) Af fn36 (by simp) (by simp [A3, tn]) (by simp [A3, tn]) hg rfl (by simp [Blk.ptr, SV.kill]) rfl (fun _ => rfl) fun F => ?_;have hb := Rf hh;obtain ⟨_, hfr, hto, _⟩ := id hh;simp (disch := omega) only [ir36, Blk.ptr, hk, go_sem];refine Aa (W8 m hk) ?_;simp (disch := omega) only [hb, go_sem];refine Aa (Aqj (S := S) (L := L) m.kn hv rfl) ?_;simp (disch := omega) only [A5j, go_sem];refine Aa (Agt (S := S) (L := L) (fl := fl) t m.to m.fr (by omega) rfl) ?_;simp (disch := omega) only [Ei, Gm, Yb, List.map_nil, go_sem];refine A13 Af fn70 (by simp) fun l0 XI hc => ?_;rw [Atm _ _ _ (by show 3 ≤ 1000000; omega)];simp (disch := omega) only [ir70, List.getElem?_cons_zero, A3c, List.length_map, go_sem];refine A0 Af (Af3 l0 S fl m.kn L t m.to m.fr) (fun k => k ≤ L.length ∧ (C7 m.kn (L.take k)).length ≤ 8) (fun k => L.length - k) 0 ⟨by simp, by simp [C7, Pe]⟩ (Ah ?_ ?_) fun j hj => ?_
 · simp (disch := omega) only [go_sem]
 · simp (disch := omega) only [List.take_zero, show C7 m.kn [] = [] from rfl, show gvK [] = none from rfl, List.length_nil, A8q, J4, Mr, go_sem]
 obtain ⟨hj1, hj2⟩ := hj;by_cases hlt : j < L.length
 · have hx : L[j]? = some L[j] := List.getElem?_eq_getElem hlt;have he : (L.map Bc)[j]? = some (Bc L[j]) := by rw [List.getElem?_map, hx]; rfl
   have hmem := List.getElem_mem hlt;have hsn : C7 m.kn (L.take (j + 1)) = C7 m.kn (L.take j) ++ if Bg m.kn L[j].rep L[j].seq = true then [] else [L[j]] := Xj hx
   have hdr : C7 m.kn L = C7 m.kn (L.take j) ++ C7 m.kn (L.drop j) := by
    conv => lhs; rw [← List.take_append_drop j L]
    unfold C7 Pe; rw [List.filter_append]
   obtain ⟨hev, hce⟩ := hL _ hmem;generalize L[j] = e at *;have hel := Ac e;generalize hSS : C7 m.kn (L.take j) = SS at *;by_cases h0 : SS.length = 0
   · have gS : gvS SS.length = .pv (.sl true 0 []) := by rw [h0]; rfl
     have gK : gvK SS = none := A0p h0;have e0 : SS = [] := List.eq_nil_of_length_eq_zero h0;by_cases hh' : Bg m.kn e.rep e.seq = true
     · rw [if_pos hh', List.append_nil] at hsn;simp (disch := omega) only [Af3, hSS, gS, gK, J4, Mr, List.length_map, he, Bh, hel, List.getElem?_cons_zero, Dq, Aw, go_sem];refine Aa (G2 _ _ _) ?_;rw [hh'];simp (disch := omega) only [go_sem];refine Ad (j + 1) _ _ rfl ⟨by omega, by rw [hsn]; exact hj2⟩ (by omega) ?_ ?_
       · simp (disch := omega) only [go_sem]
       · simp (disch := omega) only [hsn, gS, gK, J4, Mr, go_sem]
     rw [if_neg hh'] at hsn;have hhf : Bg m.kn e.rep e.seq = false := by simpa using hh'
     have hln : (C7 m.kn (L.take (j + 1))).length = SS.length + 1 := by rw [hsn]; simp
     have gS' : gvS (SS.length + 1) = .os 60 := Aj1 (by omega);have gK' : gvK (SS ++ [e]) = some (.row 21 ((SS ++ [e]).map Bc)) := Aj2 (by simp);simp (disch := omega) only [Af3, hSS, gS, gK, J4, Mr, List.length_map, he, Bh, hel, List.getElem?_cons_zero, Dq, Aw, go_sem];refine Aa (G2 _ _ _) ?_;rw [hhf];simp (disch := omega) only [Bh, hel, go_sem];refine Aa (Sz e hev) ?_;rw [hce];simp (disch := omega) only [go_sem];refine Aon Af hc ?_ rfl fun XA XB => ?_
     · simp (disch := omega) only [go_sem]
     rw [Adj _ _ _ _ (A6n 48 (by decide))];simp (disch := omega) only [Bh, hel, List.length_nil, go_sem];refine ⟨fun q => (by cases q), j + 1, ⟨by omega, by rw [hln]; omega⟩, by omega, D6 57 60 (by decide) rfl (Ah ?_ ?_)⟩
     · simp (disch := omega) only [go_sem]
     · simp (disch := omega) only [hsn, show gvS 1 = .os 60 from rfl, show gvK [e] = some (.row 21 [Bc e]) from rfl, J4, Mr, e0, List.nil_append, List.length_singleton, List.map_cons, List.map_nil, go_sem]
   · have gS : gvS SS.length = .os 60 := Aj1 h0;have gK : gvK SS = some (.row 21 (SS.map Bc)) := Aj2 h0;by_cases hh' : Bg m.kn e.rep e.seq = true
     · rw [if_pos hh', List.append_nil] at hsn;simp (disch := omega) only [Af3, hSS, gS, gK, J4, Mr, List.length_map, he, Bh, hel, List.getElem?_cons_zero, Dq, Aw, go_sem];refine Aa (G2 _ _ _) ?_;rw [hh'];simp (disch := omega) only [go_sem];refine Ad (j + 1) _ _ rfl ⟨by omega, by rw [hsn]; exact hj2⟩ (by omega) ?_ ?_
       · simp (disch := omega) only [go_sem]
       · simp (disch := omega) only [hsn, gS, gK, J4, Mr, go_sem]
     rw [if_neg hh'] at hsn;have hhf : Bg m.kn e.rep e.seq = false := by simpa using hh'
     have hln : (C7 m.kn (L.take (j + 1))).length = SS.length + 1 := by rw [hsn]; simp
     have gS' : gvS (SS.length + 1) = .os 60 := Aj1 (by omega);have gK' : gvK (SS ++ [e]) = some (.row 21 ((SS ++ [e]).map Bc)) := Aj2 (by simp);simp (disch := omega) only [Af3, hSS, gS, gK, J4, Mr, List.length_map, he, Bh, hel, List.getElem?_cons_zero, Dq, Aw, go_sem];refine Aa (G2 _ _ _) ?_;rw [hhf];simp (disch := omega) only [Bh, hel, go_sem];refine Aa (Sz e hev) ?_;rw [hce];simp (disch := omega) only [go_sem];refine Aon Af hc ?_ rfl fun XA XB => ?_
     · simp (disch := omega) only [go_sem]
     rw [Adj _ _ _ _ (A6n 48 (by decide))];by_cases h8 : SS.length = 8
     · have h8' : (SS.length : Int) = 8 := by omega
       have ht8 : (C7 m.kn L).take 8 = SS := by rw [hdr, ← h8, List.take_left]
       simp (disch := omega) only [Bh, hel, List.length_map, h8', ht8, go_sem];refine ⟨_, D7 60 rfl (.same _), ?_⟩
       (try simp only [Cf, Ce, Cd, Cc, Cb, Ca, B9, B0]); simp (maxSteps := 10000000) (disch := omega) only [Ei, Gm, Aew, J4, go_sem]
       exact ⟨900, rfl, rfl⟩
     · have h8' : ¬ (SS.length : Int) = 8 := by omega
       simp (disch := omega) only [Bh, hel, List.length_map, h8', go_sem];refine ⟨j + 1, ⟨by omega, by rw [hln]; omega⟩, by omega, D6 57 60 (by decide) rfl (Ah ?_ ?_)⟩
       · simp (disch := omega) only [go_sem]
       · simp (disch := omega) only [hsn, List.length_append, List.length_singleton, gS', gK', J4, Mr, List.map_append, List.map_cons, List.map_nil, go_sem]
 · obtain rfl : j = L.length := by omega
   have htk : L.take L.length = L := List.take_length;rw [htk] at hj2;have ht8 : (C7 m.kn L).take 8 = C7 m.kn L := List.take_of_length_le hj2;by_cases h0 : (C7 m.kn L).length = 0
   · have gS : gvS (C7 m.kn L).length = .pv (.sl true 0 []) := by rw [h0]; rfl
     have gK : gvK (C7 m.kn L) = none := A0p h0;have e0 : C7 m.kn L = [] := List.eq_nil_of_length_eq_zero h0;simp (disch := omega) only [Af3, List.length_map, htk, gS, gK, J4, Mr, go_sem];have hi : Imp (.agg (J4 t m.to m.fr S.known (.pv (.sl true 0 [])))) (.agg (J4 t m.to m.fr S.known (.pv (.sl false 21 [])))) := A3t;refine ⟨mk [(9, .pv (.i .i64 0)), (8, .p 8 0), (1000000, .p 900 0)] [(8, some (.var (.agg (J4 t m.to m.fr S.known (.pv (.sl false 21 [])))))), (900, some (.var (M1 S fl L)))], Ah ?_ ?_, ?_⟩
     · simp (disch := omega) only [go_sem]
     · simp (disch := omega) only [go_sem];exact ⟨hi, rfl⟩
     (try simp only [Cf, Ce, Cd, Cc, Cb, Ca, B9, B0]); simp (disch := omega) only [Ei, Gm, Aew, J4, e0, List.take_nil, List.map_nil, go_sem]
     exact ⟨900, rfl, rfl⟩
   · have gS : gvS (C7 m.kn L).length = .os 60 := Aj1 h0;have gK : gvK (C7 m.kn L) = some (.row 21 ((C7 m.kn L).map Bc)) := Aj2 h0;simp (disch := omega) only [Af3, List.length_map, htk, gS, gK, J4, Mr, ht8, go_sem];refine ⟨_, D7 60 rfl (.same _), ?_⟩
     (try simp only [Cf, Ce, Cd, Cc, Cb, Ca, B9, B0]); simp (disch := omega) only [Ei, Gm, Aew, J4, go_sem]
     exact ⟨900, rfl, rfl⟩
set_option maxHeartbeats 2000000 in
theorem Adz {x : SV} {f : Bool} {l : List Evt} {h d} (hx : Cw h [x] = [.pv (.sl f 21 (l.map Bc))]) (hl : Bj [x] = true) :
 FunOk Tryz.prog 33 [x] h d (.pv (.b (Zx l))) [] := by
 refine C5 Af fn33 (by simp) hl rfl fun F => ?_;rw [hx];by_cases h30 : 25 < (l.length : Int)
 · have hf := Vp (l := l) fun h => by have := h.1; omega
   simp (disch := omega) only [ir33, List.length_map, hf, go_sem]
 simp (disch := omega) only [ir33, List.length_map, go_sem];refine A0 Af (Pq f l) (fun k => k ≤ l.length ∧ ∀ j e, j < k → l[j]? = some e → A0d e) (fun k => l.length - k) 0 ⟨by simp, fun j e hj => absurd hj (Nat.not_lt_zero j)⟩ (Ah ?_ ?_) fun k hk => ?_
 · simp (disch := omega) only [List.length_map, go_sem]
 · simp (disch := omega) only [go_sem]
 obtain ⟨hk1, hk2⟩ := hk;by_cases hlt : k < l.length
 · have hx' : l[k]? = some l[k] := List.getElem?_eq_getElem hlt;have he : (l.map Bc)[k]? = some (Bc l[k]) := by rw [List.getElem?_map, hx']; rfl
   have hm := List.getElem_mem hlt;generalize l[k] = e at *;have hel := Ac e;have hg : e.gone.pv = .sl e.gone.f e.gone.z (e.gone.l.map Ed) := rfl;have hb : e.base.pv = .sl e.base.f e.base.z (e.base.l.map Ed) := rfl;have hno : ¬ A0d e → Zx l = false := fun q => Vp fun h => q (h.2 e hm);by_cases c1 : 30 < (e.name.length : Int)
   · have hf := hno fun q => by have := q.1; omega
     simp (disch := omega) only [Pq, List.length_map, he, Bh, hel, Du, c1, hf, go_sem]
   by_cases c2 : 250 < (e.data.length : Int)
   · have hf := hno fun q => by have := q.2.1; omega
     simp (disch := omega) only [Pq, List.length_map, he, Bh, hel, Du, c1, Hk, c2, hf, go_sem]
   by_cases c3 : 10 < (e.gone.l.length : Int)
   · have hf := hno fun q => by have := q.2.2.1; omega
     simp (disch := omega) only [Pq, List.length_map, he, Bh, hel, Du, c1, Hk, c2, Ga, hg, c3, hf, go_sem]
   by_cases c4 : 10 < (e.base.l.length : Int)
   · have hf := hno fun q => by have := q.2.2.2; omega
     simp (disch := omega) only [Pq, List.length_map, he, Bh, hel, Du, c1, Hk, c2, Ga, hg, c3, Fh, hb, c4, hf, go_sem]
   simp (disch := omega) only [Pq, List.length_map, he, Bh, hel, Du, c1, Hk, c2, Ga, hg, c3, Fh, hb, c4, go_sem];refine Ad (k + 1) _ _ rfl ⟨by omega, fun j x hj hjx => ?_⟩ (by omega) ?_ ?_
   · by_cases ej : j = k
     · subst ej; rw [hx'] at hjx; cases hjx; exact ⟨by omega, by omega, by omega, by omega⟩
     · exact hk2 j x (by omega) hjx
   · simp (disch := omega) only [go_sem]
   · simp (disch := omega) only [go_sem]
 · obtain rfl : k = l.length := by omega
   have hf := Ab7 (l := l) ⟨by omega, fun e he => by
    obtain ⟨j, hj⟩ := List.mem_iff_getElem?.1 he;exact hk2 j e (List.getElem?_eq_some_iff.1 hj).1 hj⟩
   simp (disch := omega) only [Pq, hf, go_sem]
theorem A0r : R6 [] [G9 Ou] = [G9 Ou] := by
 have hw : Ew (Ap []) (G9 Ou) = 0 := Aii;show M3 [] (G9 Ou) = _;unfold M3;rw [if_pos hw]; rfl
theorem A8w : Vn [] [G9 Ou] = [G9 Ou] := by unfold Vn; rw [A0r]; rfl
set_option maxHeartbeats 4000000 in
theorem Sy {h d} : FunOk Tryz.prog 32 [] h d (.pv (.b true)) [] := by
 refine Al Af fn32 (by simp) rfl rfl fun F => ?_;simp (disch := omega) only [ir32, go_sem];refine Aa (FunOk.imp (W3 (S := Ap []) Ahi) ⟨Wq, trivial⟩ (by simp [A3, tn, V4])) ?_;simp (disch := omega) only [Ar9, go_sem];refine Aa (FunOk.imp (W3 (S := Ap []) Ahi) ⟨Wq, trivial⟩ (by simp [A3, tn, V4])) ?_;simp (disch := omega) only [Ar9, go_sem];refine Aa (FunOk.imp (Arc (S := Ap []) (L := []) (e := Ou) (Se Val.nil (by simp)) A4h (by simp) rfl) ⟨Imp.refl _, Gy (cs := Bc Ou) rfl (Ac _), trivial⟩ (by simp [A3, tn])) ?_;rw [Aii, Bah, A5k];simp (disch := omega) only [Bav, go_sem];refine Aa (FunOk.imp (Agt (S := Ap []) (L := []) (fl := fun _ => 0) (fun _ _ => 0) 2 1 (by omega) rfl) ⟨Imp.refl _, Imp.refl _, Imp.refl _, Imp.refl _, trivial⟩ (by simp [A3, tn])) ?_;simp (disch := omega) only [go_sem];have hkn : (Ap [Ou]).known = Bi [Ou] := D5 _;have hA : ∀ e ∈ [G9 Ou], ev e := fun e he => by simp at he; subst he; exact Akc A4h
 refine Aa (FunOk.imp (Aqw (S := Ap [Ou]) (L := [G9 Ou]) (fl := fun _ => 0) (fun _ _ => 0) (Yb (fun _ _ => 0) 2 1 (Ap []).known) rfl ⟨.inl rfl, by decide, by decide, by decide, by decide, fun _ => rfl⟩ (fun i _ => Nat.zero_le _) (fun e he => by simp at he; subst he; exact ⟨Akc A4h, rfl⟩) (by simp) rfl) ⟨Imp.refl _, Imp.refl _, Imp.refl _, G5 _, trivial⟩ (by simp [A3, tn, Jb])) ?_;have hg : (List.take 8 (C7 (Yb (fun _ _ => 0) 2 1 (Ap []).known).kn [G9 Ou])) = [G9 Ou] := rfl;rw [hg];generalize hmm : Aew (fun _ _ => 0) (Yb (fun _ _ => 0) 2 1 (Ap []).known).to (Yb (fun _ _ => 0) 2 1 (Ap []).known).fr (Ap [Ou]).known [G9 Ou] = mm;have me : mm.evs = [G9 Ou] := by rw [← hmm]; rfl
 have mz : mm.z = 21 := by rw [← hmm]; rfl
 have mt : mm.to = 2 := by rw [← hmm]; rfl
 simp (disch := omega) only [Ei, Gm, go_sem];refine Aa (Aqg (S := Ap []) (L := []) Ahi rfl) ?_;simp (disch := omega) only [Ba, A6, Ei, Gm, go_sem];refine Aa (FunOk.imp (Aw5 (T := []) (m := mm) Val.nil (by rw [me]; simp) mz (by rw [me]; exact hA)) ⟨Imp.refl _, G5 _, trivial⟩ (by simp [A3, tn, Jb, V4])) ?_;rw [me, A8w, A0r];have hv1 : vE (Ap [G9 Ou]).known = [.i .u32 1, .i .u32 0, .i .u32 0, .i .u32 0, .i .u32 0, .i .u32 0, .i .u32 0, .i .u32 0] := by rw [D5]; rfl
 have hpq : Sv (vE (Ap [G9 Ou]).known) [.i .u32 1, .i .u32 0, .i .u32 0, .i .u32 0, .i .u32 0, .i .u32 0, .i .u32 0, .i .u32 0] = true := by rw [hv1]; exact Wz _
 have hfi := Atc (Ap [G9 Ou]).known;have hf2 : El [K1.int .u32, .int .u32, .int .u32, .int .u32, .int .u32, .int .u32, .int .u32, .int .u32] [.i .u32 1, .i .u32 0, .i .u32 0, .i .u32 0, .i .u32 0, .i .u32 0, .i .u32 0, .i .u32 0] = True := eq_true rfl;simp (disch := omega) only [Ba, A6, List.map_cons, List.map_nil, List.length_cons, List.length_nil, me, mz, mt, hpq, hfi, hf2, go_sem]
def Ao6 (f g : Bool) (z y : Nat) (l : List Evt) (k : Nat) : FS := mk [(5, .pv (.i .i64 k)), (0, .pv (.sl f z (l.map Bc))), (1, .pv (.sl g y (l.map Bc)))] []
theorem Alk {f g : Bool} {z y : Nat} {l : List Evt} (hz : l = [] ∨ z = 21 ∧ y = 21) (hl : ∀ e ∈ l, ev e) (hn : l.length ≤ 1000) {h d} : FunOk Tryz.prog 41 [.pv (.sl f z (l.map Bc)), .pv (.sl g y (l.map Bc))] h d (.pv (.b true)) [] := by
 refine Al Af fn41 (by simp) rfl rfl fun F => ?_;simp (disch := omega) only [ir41, List.length_map, go_sem];refine A0 Af (Ao6 f g z y l) (fun k => k ≤ l.length) (fun k => l.length - k) 0 (by simp) (Ah ?_ ?_) fun k hk => ?_
 · simp (disch := omega) only [go_sem]
 · simp (disch := omega) only [go_sem]
 by_cases hlt : k < l.length
 · obtain ⟨rfl, rfl⟩ := hz.resolve_left fun e => by subst e; simp at hlt
   have hx : l[k]? = some l[k] := List.getElem?_eq_getElem hlt;have he : (l.map Bc)[k]? = some (Bc l[k]) := by rw [List.getElem?_map, hx]; rfl
   have hv := hl _ (List.getElem_mem hlt);generalize l[k] = e at *;have hel := Ac e;simp (disch := omega) only [Ao6, List.length_map, he, Bh, hel, go_sem];refine Aa (Aqk e e ⟨hv.1, hv.2.1, hv.2.2.1, hv.2.2.2.1⟩ ⟨hv.1, hv.2.1, hv.2.2.1, hv.2.2.2.1⟩) ?_;rw [Apx];simp (disch := omega) only [go_sem];refine Ad (k + 1) _ _ rfl (by omega) (by omega) ?_ ?_
   · simp (disch := omega) only [go_sem]
   · simp (disch := omega) only [go_sem]
 · obtain rfl : k = l.length := by omega
   simp (disch := omega) only [Ao6, List.length_map, go_sem]
theorem Ayv (t : Nat → Vc) : El (List.replicate 64 (K1.int .u32)) (tE t) = True := eq_true rfl
theorem Oh (m : Msg) (hz : m.evs = [] ∨ m.z = 21) (he : ∀ e ∈ m.evs, ev e) (hn : m.evs.length ≤ 1000) {h d} : FunOk Tryz.prog 38 [.vec 76 (G4 m), .vec 76 (G4 m)] h d (.pv (.b true)) [] := by
 refine Al Af fn38 (by simp) rfl rfl fun F => ?_;have p1 := Wz (tE m.tb);have p2 := Ayv m.tb;have p3 := Wz (vE m.kn);have p4 := Atc m.kn;simp (disch := omega) only [ir38, p1, p2, p3, p4, go_sem];refine Aa (Alk (hz.imp_right fun q => ⟨q, q⟩) he hn) ?_;simp (disch := omega) only [go_sem]
theorem Arb {T : List Evt} {fl : Vc} (t : Nat → Vc) (self to : Int) (hr : -9223372036854775808 ≤ self ∧ self < 9223372036854775808) (hn : T.length ≤ 1000) {h d} : FunOk Tryz.prog 35 [Gn T fl, .vec 64 (tE t), .pv (.i .i64 self), .pv (.i .i64 to)] h d (.agg (Ei (Yb t self to (Bi T)))) [] := by
 refine Al Af fn35 (by simp) rfl rfl fun F => ?_;simp (disch := omega) only [ir35, Gn, J3, go_sem];refine Aa (Zd (l := T) hn) ?_;simp (disch := omega) only [go_sem];refine Aa (E := (Uf Tryz.prog F 21).reg) (Aqq t self (Bi T) hr) ?_;simp (disch := omega) only [Ei, Gm, Yb, List.map_nil, go_sem]
noncomputable def Hr (m : Msg) : Bool := Xo m && m.evs.all Bd
theorem Tr {m : Msg} (hk : m.k = 1) : Hr m = Xo m := by
 unfold Hr;by_cases h : Ln m
 · have : m.evs = [] := List.eq_nil_of_length_eq_zero (h.2.2.2.2.2 hk);rw [this]; simp
 · rw [Ji h]; rfl
def Ac8 (m : Msg) (k : Nat) : FS := mk [(3, .pv (.i .i64 k)), (1, .p 1 0)] [(1, some (.var (.vec 76 (G4 m))))]
set_option maxHeartbeats 8000000 in
theorem S0 (m : Msg) (hz : m.z = 21) (hev : ∀ e ∈ m.evs, EvIn e) (hn : m.evs.length ≤ 1000) {h d} : FunOk Tryz.prog 47 [.vec 76 (G4 m)] h d (.pv (.b (Hr m))) [] := by
 refine Al Af fn47 (by simp) rfl rfl fun F => ?_;have no : ¬ Ln m → Hr m = false := fun q => by unfold Hr; rw [Ji q]; rfl
 by_cases k1 : m.k < 1
 · skip
   have e := no fun h => (by have := h.1; omega)
   simp (disch := omega) only [ir47, List.length_map, k1, e, go_sem]
 by_cases k2 : 2 < m.k
 · skip
   have e := no fun h => (by have := h.1; omega)
   simp (disch := omega) only [ir47, List.length_map, k1, k2, e, go_sem]
 by_cases f1 : m.fr < 1
 · skip
   have e := no fun h => (by have := h.2.1; omega)
   simp (disch := omega) only [ir47, List.length_map, k1, k2, f1, e, go_sem]
 by_cases f2 : 8 < m.fr
 · skip
   have e := no fun h => (by have := h.2.1; omega)
   simp (disch := omega) only [ir47, List.length_map, k1, k2, f1, f2, e, go_sem]
 by_cases t1 : m.to < 1
 · skip
   have e := no fun h => (by have := h.2.2.1; omega)
   simp (disch := omega) only [ir47, List.length_map, k1, k2, f1, f2, t1, e, go_sem]
 by_cases t2 : 8 < m.to
 · skip
   have e := no fun h => (by have := h.2.2.1; omega)
   simp (disch := omega) only [ir47, List.length_map, k1, k2, f1, f2, t1, t2, e, go_sem]
 by_cases ne : m.fr = m.to
 · skip
   have e := no fun h => (h.2.2.2.1 ne)
   simp (disch := omega) only [ir47, List.length_map, k1, k2, f1, f2, ne, t1, t2, e, go_sem]
 by_cases h8 : (8 : Int) < (m.evs.length : Int)
 · skip
   have e := no fun h => (by have := h.2.2.2.2.1; omega)
   simp (disch := omega) only [ir47, List.length_map, k1, k2, f1, f2, ne, t1, t2, h8, e, go_sem]
 by_cases hk1 : m.k = 1 ∧ (0 : Int) < (m.evs.length : Int)
 · obtain ⟨q1, q2⟩ := hk1;have e := no fun h => by have := h.2.2.2.2.2 q1; omega
   simp (disch := omega) only [ir47, List.length_map, q1, q2, k1, k2, f1, f2, ne, t1, t2, h8, e, go_sem]
 have hH : Ln m := ⟨by omega, by omega, by omega, ne, by omega, fun q => Classical.byContradiction fun q' => hk1 ⟨q, by omega⟩⟩
 have hc : Hr m = m.evs.all Bd := by unfold Hr; rw [Rf hH]; rfl
 rw [hc];by_cases q1 : m.k = 1
 · have q2 : ¬ (0 : Int) < (m.evs.length : Int) := fun q => hk1 ⟨q1, q⟩;simp (disch := omega) only [ir47, List.length_map, q1, q2, k1, k2, f1, f2, ne, t1, t2, h8, go_sem];refine A0 Af (Ac8 m) (fun k => k = 0) (fun _ => 0) 0 rfl (Ah ?_ ?_) fun k hk => ?_
   · simp (disch := omega) only [go_sem]
   · simp (disch := omega) only [go_sem]
   subst hk;have e0 : m.evs = [] := List.eq_nil_of_length_eq_zero (by omega);have ha : m.evs.all Bd = true := by rw [e0]; rfl
   have hl0 : m.evs.length = 0 := by rw [e0]; rfl
   simp (disch := omega) only [Ac8, List.length_map, hl0, ha, go_sem]
 · simp (disch := omega) only [ir47, List.length_map, q1, k1, k2, f1, f2, ne, t1, t2, h8, go_sem];refine A0 Af (Ac8 m) (fun k => k ≤ m.evs.length ∧ ∀ j x, j < k → m.evs[j]? = some x → Bd x = true) (fun k => m.evs.length - k) 0 ⟨by omega, fun j x hj => absurd hj (Nat.not_lt_zero j)⟩ (Ah ?_ ?_) fun k hk => ?_
   · simp (disch := omega) only [go_sem]
   · simp (disch := omega) only [go_sem]
   obtain ⟨hk1', hk2⟩ := hk;by_cases hlt : k < m.evs.length
   · have hx : m.evs[k]? = some m.evs[k] := List.getElem?_eq_getElem hlt;have he : (m.evs.map Bc)[k]? = some (Bc m.evs[k]) := by rw [List.getElem?_map, hx]; rfl
     have hmm := List.getElem_mem hlt;have hv := hev _ hmm;generalize m.evs[k] = e at *;have hel := Ac e;simp (disch := omega) only [Ac8, hz, List.length_map, he, Bh, hel, go_sem];refine Aa (Ad1 e hv.ev hv.dep) ?_;by_cases hce : Bd e = true
     · simp (disch := omega) only [hce, go_sem];refine Ad (k + 1) _ _ rfl ⟨by omega, fun j x hj hjx => ?_⟩ (by omega) ?_ ?_
       · by_cases ej : j = k
         · subst ej; rw [hx] at hjx; cases hjx; exact hce
         · exact hk2 j x (by omega) hjx
       · simp (disch := omega) only [go_sem]
       · simp (disch := omega) only [go_sem]
     · have hf : Bd e = false := by simpa using hce
       have ha : m.evs.all Bd = false := by rw [List.all_eq_false]; exact ⟨e, hmm, hce⟩
       simp (disch := omega) only [hf, ha, go_sem]
   · obtain rfl : k = m.evs.length := by omega
     have ha : m.evs.all Bd = true := by
      rw [List.all_eq_true]; intro x hx;obtain ⟨j, hj⟩ := List.mem_iff_getElem?.1 hx;exact hk2 j x (List.getElem?_eq_some_iff.1 hj).1 hj
     simp (disch := omega) only [Ac8, List.length_map, ha, go_sem]
def O2 : Msg := ⟨0, 0, 0, fun _ => 0, fun _ _ => 0, true, 0, []⟩
theorem Agr {S : St} {fl : Vc} {L : List Evt} (t : Nat → Vc) (self : Int) (m : Msg) (hb : ¬ (m.k = 1 ∧ m.to = self ∧ Ln m)) {g : Nat} {h d} (hg : h g = some (.var (M1 S fl L))) : FunOk Tryz.prog 36 [.p g 0, .vec 64 (tE t), .pv (.i .i64 self), .vec 76 (G4 m)] h d (.tup [.agg (Ei O2), .pv (.i .i64 1)]) [] := by
 refine FunOk.quiet (g := g) (blk := .var (M1 S fl L)) ?_ hg (by simp [A3, tn]);refine FunOk.io (fun h d hg => ?_) rfl rfl rfl rfl hg;refine Gc (g := 900) Af fn36 (by simp) (by simp [A3, tn]) (by simp [A3, tn]) hg rfl (by simp [Blk.ptr, SV.kill]) rfl (fun _ => rfl) fun F => ?_;by_cases hk : m.k = 1
 · by_cases ht : m.to = self
   · have hf := Ji (m := m) fun q => hb ⟨hk, ht, q⟩;simp (disch := omega) only [ir36, Blk.ptr, hk, ht, go_sem];refine Aa (W8 m hk) ?_;simp (disch := omega) only [hf, go_sem];refine ⟨_, .same _, ?_⟩
     (try simp only [Cf, Ce, Cd, Cc, Cb, Ca, B9, B0]); simp (disch := omega) only [Ei, Gm, O2, List.map_nil, go_sem]
     exact ⟨900, rfl, rfl⟩
   · simp (disch := omega) only [ir36, Blk.ptr, hk, ht, go_sem];refine ⟨_, .same _, ?_⟩
     (try simp only [Cf, Ce, Cd, Cc, Cb, Ca, B9, B0]); simp (disch := omega) only [Ei, Gm, O2, List.map_nil, go_sem]
     exact ⟨900, rfl, rfl⟩
 · simp (disch := omega) only [ir36, Blk.ptr, hk, go_sem];refine ⟨_, .same _, ?_⟩
   (try simp only [Cf, Ce, Cd, Cc, Cb, Ca, B9, B0]); simp (disch := omega) only [Ei, Gm, O2, List.map_nil, go_sem]
   exact ⟨900, rfl, rfl⟩
theorem Agq {S : St} {fl : Vc} {L : List Evt} (t : Nat → Vc) (m : Msg) (hk : m.k = 1) (hh : Ln m) (hv : ¬ Mz fl m.kn) {g : Nat} {h d} (hg : h g = some (.var (M1 S fl L))) : FunOk Tryz.prog 36 [.p g 0, .vec 64 (tE t), .pv (.i .i64 m.to), .vec 76 (G4 m)] h d (.tup [.agg (Ei O2), .pv (.i .i64 11)]) [] := by
 refine FunOk.quiet (g := g) (blk := .var (M1 S fl L)) ?_ hg (by simp [A3, tn]);refine FunOk.io (fun h d hg => ?_) rfl rfl rfl rfl hg;refine Gc (g := 900) Af fn36 (by simp) (by simp [A3, tn]) (by simp [A3, tn]) hg rfl (by simp [Blk.ptr, SV.kill]) rfl (fun _ => rfl) fun F => ?_;have hb := Rf hh;simp (disch := omega) only [ir36, Blk.ptr, hk, go_sem];refine Aa (W8 m hk) ?_;simp (disch := omega) only [hb, go_sem];refine Aa (Abf (S := S) (L := L) m.kn hv rfl) ?_;simp (disch := omega) only [go_sem];refine ⟨_, .same _, ?_⟩
 (try simp only [Cf, Ce, Cd, Cc, Cb, Ca, B9, B0]); simp (disch := omega) only [Ei, Gm, O2, List.map_nil, go_sem]
 exact ⟨900, rfl, rfl⟩
theorem Ady {T : List Evt} {fl : Vc} (t : Nat → Vc) (self : Int) (m : Msg) (hz : m.z = 21) (hev : ∀ e ∈ m.evs, EvIn e) (hn : m.evs.length ≤ 1000) (hb : ¬ (m.k = 1 ∧ m.to = self ∧ Ln m)) {h d} : FunOk Tryz.prog 37 [Gn T fl, .vec 64 (tE t), .pv (.i .i64 self), .vec 76 (G4 m)] h d (.tup [.agg (Ei O2), .pv (.i .i64 1)]) [] := by
 refine Al Af fn37 (by simp) rfl rfl fun F => ?_;simp (disch := omega) only [ir37, Gn, J3, go_sem];refine Aa (S0 m hz hev hn) ?_;by_cases hc : Hr m = true
 · by_cases hk : m.k = 1
   · rw [Tr hk] at hc;have hH : Ln m := Classical.byContradiction fun q => by rw [Ji q] at hc; cases hc
     have ht : ¬ m.to = self := fun q => hb ⟨hk, q, hH⟩;have hc2 : Hr m = true := by rw [Tr hk]; exact hc
     simp (disch := omega) only [hc2, hk, ht, Ei, Gm, O2, List.map_nil, go_sem]
   · simp (disch := omega) only [hc, hk, Ei, Gm, O2, List.map_nil, go_sem]
 · have hc' : Hr m = false := by simpa using hc
   simp (disch := omega) only [hc', Ei, Gm, O2, List.map_nil, go_sem]
theorem Ajc {T : List Evt} {fl : Vc} (t : Nat → Vc) (m : Msg) (hz : m.z = 21) (hev : ∀ e ∈ m.evs, EvIn e) (hn : m.evs.length ≤ 1000) (hk : m.k = 1) (hh : Ln m) (hT : T.length ≤ 1000) {h d} : FunOk Tryz.prog 37 [Gn T fl, .vec 64 (tE t), .pv (.i .i64 m.to), .vec 76 (G4 m)] h d (if Mz fl m.kn then .tup [.agg (Ei (Aew t m.to m.fr (Bi T) ((C7 m.kn T).take 8))), .pv (.i .i64 0)] else .tup [.agg (Ei O2), .pv (.i .i64 11)]) [] := by
 have hc : Hr m = true := by rw [Tr hk, Rf hh]
 obtain ⟨_, hfr, hto, _⟩ := id hh;by_cases hv : Mz fl m.kn
 · rw [if_pos hv];refine Al Af fn37 (by simp) rfl rfl fun F => ?_;simp (disch := omega) only [ir37, Gn, J3, go_sem];refine Aa (S0 m hz hev hn) ?_;simp (disch := omega) only [hc, hk, go_sem];refine Aa (Aqi (T := T) (fl := fl) (v := m.kn) hT hv) ?_;simp (disch := omega) only [go_sem];refine Aa (Arb (T := T) (fl := fl) t m.to m.fr (by omega) hT) ?_;simp (disch := omega) only [Ei, Gm, Yb, List.map_nil, List.length_map, go_sem];refine Lm ?_;have e8 : List.take (min ((C7 m.kn T).length : Int) 8).toNat ((C7 m.kn T).map Bc) = ((C7 m.kn T).take 8).map Bc := by
    rw [List.map_take];by_cases h8 : (C7 m.kn T).length ≤ 8
    · rw [List.take_of_length_le (by simp; omega), List.take_of_length_le (by simpa using h8)]
    · congr 1; omega
   simp (disch := omega) only [List.length_map, e8, Aew, go_sem]
 · rw [if_neg hv];refine Al Af fn37 (by simp) rfl rfl fun F => ?_;simp (disch := omega) only [ir37, Gn, J3, go_sem];refine Aa (S0 m hz hev hn) ?_;simp (disch := omega) only [hc, hk, go_sem];refine Aa (Abe (T := T) (fl := fl) (v := m.kn) hv) ?_;simp (disch := omega) only [Ei, Gm, O2, List.map_nil, go_sem]
theorem A0b {cs : List PV} (hc : GC Y6 cs) : ∃ e : Evt, cs = Bc e ∧ (EvRaw e ∧ G9 e = e) := by
 obtain ⟨e, h1, h2, h3, h4⟩ := A0c hc;refine ⟨e, h1, ⟨h2, by rw [h3]; exact .inr rfl, by rw [h4]; exact .inr rfl⟩, ?_⟩;unfold G9;rw [← h3, ← h4]
theorem Akh {cs : List PV} (h : GC (.sl Y6) cs) : ∃ l : List Evt, cs = [.sl false 21 (l.map Bc)] ∧ ∀ e ∈ l, EvRaw e ∧ G9 e = e := by
 obtain ⟨es, rfl, _, g⟩ := Ave h;obtain ⟨l, rfl, hl⟩ := Acd (f := Bc) (p := fun e => EvRaw e ∧ G9 e = e) A0b g;exact ⟨l, rfl, hl⟩
abbrev Apo : Sh := .st [.int .i64, .int .i64, .int .i64, .arr 8 (.int .u32), .arr 8 (.arr 8 (.int .u32)), .sl Y6]
theorem A0a {cs : List PV} (h : GC Apo cs) : ∃ m : Msg, cs = G4 m ∧ (∀ e ∈ m.evs, EvRaw e ∧ G9 e = e) ∧ m.f = false ∧ m.z = 21 ∧ -9223372036854775808 ≤ m.fr ∧ m.fr < 9223372036854775808 := by
 simp only [GC] at h;simp only [GCL] at h;obtain ⟨c0, r0, rfl, ⟨n0, rfl, w0⟩, c1, r1, rfl, ⟨n1, rfl, w1⟩, c2, r2, rfl, ⟨n2, rfl, w2⟩, c3, r3, rfl, g3, c4, r4, rfl, g4, c5, r5, rfl, g5, rfl⟩ := h;obtain ⟨a, rfl, ha⟩ := Avd (by simp only [GC]; exact g3);obtain ⟨t, rfl, ht⟩ := A0v (by simp only [GC]; exact g4);obtain ⟨l, rfl, hl⟩ := Akh (by simp only [GC]; exact g5);exact ⟨⟨n0, n1, n2, a, t, false, 21, l⟩, by simp [G4], hl, rfl, rfl, Ahc w1⟩
def Ql (b self : Int) (t : Nat → Vc) : SV := .agg [.pv (.i .i64 b), .pv (.i .i64 self), .vec 64 (tE t)]
noncomputable def A1j (b self : Int) (t : Nat → Vc) (m : Msg) (T : List Evt) (k j : Nat) : FS := mk [(57, .pv (.i .i64 j)), (56, .pv (.i .i64 (T.drop k).length)), (55, .pv (.sl false 21 ((T.drop k).map Bc))), (9, .p 48 0), (10, .p 10 0), (4, .p 4 0), (5, .p 5 0)] [(4, some (.var (Ql b self t))), (5, some (.var (.vec 76 (G4 m)))), (10, some (.var (Gn (T.take (k + j)) (Bi (T.take k))))), (48, some (.var (M1 (Ap (T.take (k + j))) (Bi (T.take k)) (C7 (Bi (T.take k)) (T.take (k + j))))))]
theorem A8e (n : Nat) (T : List Evt) (fl : Vc) : SV.kill n (Gn T fl) = Gn T fl := rfl
theorem A52 (T : List Evt) (fl : Vc) : SV.width (Gn T fl) = 9 := rfl
attribute [go_sem] A8e A52
set_option maxHeartbeats 16000000 in
theorem Ar8 {l : List Evt} {b self : Int} {t : Nat → Vc} {m : Msg} (hl : ∀ e ∈ l, EvRaw e ∧ G9 e = e) (hm : ∀ e ∈ m.evs, EvRaw e) (hz : m.z = 21) (hr : -9223372036854775808 ≤ self ∧ self < 9223372036854775808) {h d} :
 FunOk Tryz.prog 5 [.pv (.sl false 21 (l.map Bc)), Ql b self t, .vec 76 (G4 m)] h d (.pv (.b true)) [] := by
 refine Al Af fn5 (by simp) rfl rfl fun F => ?_;simp (disch := omega) only [ir5, Ql, go_sem];refine Aa Sy ?_;simp (disch := omega) only [go_sem];refine Aa (Adz (l := l) rfl rfl) ?_;by_cases hf' : Afq l;rotate_left
 · have hf := Vp hf';simp (disch := omega) only [hf, go_sem];refine Aa Sy ?_;simp (disch := omega) only [go_sem]
 have hf := Ab7 hf';simp (disch := omega) only [hf, hz, go_sem];refine Aa (Adz (l := m.evs) rfl rfl) ?_;by_cases hg' : Afq m.evs;rotate_left
 · have hg := Vp hg';simp (disch := omega) only [hg, go_sem];refine Aa Sy ?_;simp (disch := omega) only [go_sem]
 have hg := Ab7 hg';have hin : ∀ e ∈ l, EvIn e := fun x hx => Ap6 (hl x hx).1 (hf'.2 x hx);have hmn : ∀ e ∈ m.evs, EvIn e := fun x hx => Ap6 (hm x hx) (hg'.2 x hx);have hl25 := hf'.1;have hm25 := hg'.1;obtain ⟨t1, t2, t3⟩ := Ac2 l fun x hx => (hin x hx).ev;have hT : ∀ e ∈ K3 l, EvIn e ∧ G9 e = e := fun e he => ⟨hin e (t3 e he), (hl e (t3 e he)).2⟩
 simp (disch := omega) only [hg, go_sem];refine Aa (A2p (l := l) (by omega) hin) ?_;generalize K3 l = T at *;obtain ⟨k, hk, hkn⟩ := Aou b (T.length + 1);have hkn' : k ≤ T.length := by have := hkn (by omega); omega
 have hk' : (IntKind.u64.wrap b).tmod ((T.length : Int) + 1) = (k : Int) := by simpa using hk
 have htk : (T.map Bc).take k = (T.take k).map Bc := by rw [List.map_take]
 have hdk : (T.map Bc).drop k = (T.drop k).map Bc := by rw [List.map_drop]
 have hvk : Val (T.take k) := Val.pre (m := T.drop k) (by rw [List.take_append_drop]; exact t1);have hkl : (T.take k).length ≤ 25 := by rw [List.length_take]; omega
 simp (disch := omega) only [List.length_map, hk', htk, go_sem];refine Aa (Aq8 (Ail hvk (by omega)) (Aik hvk)) ?_;simp (disch := omega) only [go_sem];refine Aa (W3 (S := Ap (T.take k)) (Se hvk (by omega)).fine) ?_;rw [D5];simp (disch := omega) only [List.length_map, htk, go_sem];refine Aa (Aqh (T := T.take k) (by omega)) ?_;have hdT : List.drop k (List.take T.length (T.map Bc)) = (T.drop k).map Bc := by rw [List.take_of_length_le (by simp), hdk]
 simp (disch := omega) only [Gn, J3, List.length_map, hdk, hdT, List.length_drop, go_sem];have hsk := Ak9 hvk;have hT25 : T.length ≤ 25 := by omega
 have hdl : (T.drop k).length = T.length - k := List.length_drop;have hTp : ∀ n, Val (T.take n) := fun n => Val.pre (m := T.drop n) (by rw [List.take_append_drop]; exact t1);refine A0 Af (A1j b self t m T k) (fun j => j ≤ (T.drop k).length) (fun j => (T.drop k).length - j) 0 (Nat.zero_le _) (Ah ?_ ?_) fun j hj => ?_
 · simp (disch := omega) only [hdl, go_sem]
 · simp (disch := omega) only [Gn, J3, Ql, Nat.add_zero, hsk, List.map_nil, go_sem]
 by_cases hlt : j < (T.drop k).length
 · have hx0 : (T.drop k)[j]? = some (T.drop k)[j] := List.getElem?_eq_getElem hlt;have he : ((T.drop k).map Bc)[j]? = some (Bc (T.drop k)[j]) := by rw [List.getElem?_map, hx0]; rfl
   have hx : T[k + j]? = some (T.drop k)[j] := by rw [← List.getElem?_drop]; exact hx0
   have hts := Cz hx;have hmem : (T.drop k)[j] ∈ T := List.mem_of_getElem? hx;generalize (T.drop k)[j] = e at *;have hel := Ac e;have hei := hT e hmem;have hW := hTp (k + j);have hWe : Val (T.take (k + j) ++ [e]) := by rw [← hts]; exact hTp _
   obtain ⟨_, _, hwy⟩ := hWe.inv;have hWl : (T.take (k + j)).length ≤ 25 := by rw [List.length_take]; omega
   have hfl : Mz (Bi (T.take k)) (Bi (T.take (k + j))) := by
    have : T.take (k + j) = T.take k ++ (T.drop k).take j := List.take_add;rw [this]; exact fun i hi => Ag2 _ _ i hi
   obtain ⟨q1, q2⟩ := Az7 (e := e) hW hfl hei.2;have hta : M3 (T.take (k + j)) e = T.take (k + (j + 1)) := by
    rw [show k + (j + 1) = k + j + 1 from rfl, hts]; exact if_pos hwy
   rw [hta] at q1 q2;have hsl : (C7 (Bi (T.take k)) (T.take (k + j))).length ≤ (T.take (k + j)).length := List.length_filter_le _ _;have hts' : T.take (k + (j + 1)) = T.take (k + j) ++ [e] := hts;generalize hWW : T.take (k + j) = W at *;simp (disch := omega) only [A1j, hWW, Ql, Gn, J3, hz, List.length_map, he, Bh, hel, go_sem];refine Aa (Arc (S := Ap W) (L := C7 (Bi (T.take k)) W) (Se hW (by omega)) hei.1.ev (by omega) rfl) ?_;rw [q1, q2, hwy];simp (disch := omega) only [go_sem];refine Lm ?_;simp (disch := omega) only [Bh, hel, List.length_map, List.nil_append, go_sem];refine ⟨j + 1, by omega, by omega, D7 71 rfl (Ah ?_ ?_)⟩
   · simp (disch := omega) only [go_sem]
   · simp (disch := omega) only [hts', Gn, J3, Ql, List.map_append, List.map_cons, List.map_nil, go_sem]
 · obtain rfl : j = (T.drop k).length := by omega
   have hkj : T.take (k + (T.drop k).length) = T := List.take_of_length_le (by omega);simp (disch := omega) only [A1j, hkj, Ql, Gn, J3, hz, List.length_map, go_sem];generalize hfl : Bi (T.take k) = fl at *;have hbk : (Ap T).known = Bi T := D5 T;have hLe : ∀ e ∈ C7 fl T, ev e ∧ G9 e = e := fun e he => ⟨(hT e (List.mem_filter.1 he).1).1.ev, (hT e (List.mem_filter.1 he).1).2⟩
   have hLl : (C7 fl T).length ≤ T.length := List.length_filter_le _ _;refine Aa (E := (Uf Tryz.prog F 123).reg) (Agt (S := Ap T) (L := C7 fl T) (fl := fl) t self m.fr hr rfl) ?_;rw [hbk];simp (disch := omega) only [Ei, Gm, Gn, J3, go_sem];refine Aa (E := (Uf Tryz.prog F 123).reg) (Arb (T := T) (fl := fl) t self m.fr hr (by omega)) ?_;generalize hA : Yb t self m.fr (Bi T) = A;have zA : A.evs = [] := by rw [← hA]; rfl
   by_cases hb : m.k = 1 ∧ m.to = self ∧ Ln m
   · obtain ⟨b1, rfl, b3⟩ := hb;by_cases hv : Mz fl m.kn
     · simp (disch := omega) only [Ei, Gm, go_sem];refine Aa (Aqw (S := Ap T) (L := C7 fl T) (fl := fl) t m b1 b3 hv hLe (by omega) rfl) ?_;rw [hbk, Awi hv];simp (disch := omega) only [Ei, Gm, Gn, J3, go_sem];refine Aa (Ajc (T := T) (fl := fl) t m hz hmn (by omega) b1 b3 (by omega)) ?_;rw [if_pos hv];have hG : ∀ e ∈ (C7 m.kn T).take 8, ev e := fun e he => (hT e (List.mem_filter.1 (List.mem_of_mem_take he)).1).1.ev;have hGl : ((C7 m.kn T).take 8).length ≤ 1000 := Nat.le_trans (List.length_take_le 8 _) (by omega);generalize (C7 m.kn T).take 8 = G at *;simp (disch := omega) only [Ei, Gm, go_sem];refine Aa (FunOk.imp (Oh A (.inl zA) (by rw [zA]; simp) (by rw [zA]; simp)) ⟨G5 _, G5 _, trivial⟩ (by simp [A3, tn, Jb])) ?_;simp (disch := omega) only [Ei, Gm, go_sem];refine Aa (FunOk.imp (Oh (Aew t m.to m.fr (Bi T) G) (.inr rfl) (hG) (hGl)) ⟨G5 _, G5 _, trivial⟩ (by simp [A3, tn, Jb])) ?_;simp (disch := omega) only [go_sem]
     · simp (disch := omega) only [Ei, Gm, go_sem];refine Aa (Agq (S := Ap T) (L := C7 fl T) (fl := fl) t m b1 b3 hv rfl) ?_;simp (disch := omega) only [Ei, Gm, Gn, J3, go_sem];refine Aa (Ajc (T := T) (fl := fl) t m hz hmn (by omega) b1 b3 (by omega)) ?_;rw [if_neg hv];simp (disch := omega) only [Ei, Gm, go_sem];refine Aa (FunOk.imp (Oh A (.inl zA) (by rw [zA]; simp) (by rw [zA]; simp)) ⟨G5 _, G5 _, trivial⟩ (by simp [A3, tn, Jb])) ?_;simp (disch := omega) only [Ei, Gm, go_sem];refine Aa (FunOk.imp (Oh O2 (.inl rfl) (by intro e he; cases he) (by simp [O2])) ⟨G5 _, G5 _, trivial⟩ (by simp [A3, tn, Jb])) ?_;simp (disch := omega) only [go_sem]
   · simp (disch := omega) only [Ei, Gm, go_sem];refine Aa (Agr (S := Ap T) (L := C7 fl T) (fl := fl) t self m hb rfl) ?_;simp (disch := omega) only [Ei, Gm, Gn, J3, go_sem];refine Aa (Ady (T := T) (fl := fl) t self m hz hmn (by omega) hb) ?_;simp (disch := omega) only [Ei, Gm, go_sem];refine Aa (FunOk.imp (Oh A (.inl zA) (by rw [zA]; simp) (by rw [zA]; simp)) ⟨G5 _, G5 _, trivial⟩ (by simp [A3, tn, Jb])) ?_;simp (disch := omega) only [Ei, Gm, go_sem];refine Aa (FunOk.imp (Oh O2 (.inl rfl) (by intro e he; cases he) (by simp [O2])) ⟨G5 _, G5 _, trivial⟩ (by simp [A3, tn, Jb])) ?_;simp (disch := omega) only [go_sem]
theorem Xn {c0 c1 c2 : List PV} (g0 : GC (.sl Y6) c0) (g1 : GC (.st [.int .i64, .int .i64, .arr 8 (.arr 8 (.int .u32))]) c1) (g2 : GC Apo c2) {h d} :
 FunOk Tryz.prog 5 [Jc (.sl Y6) c0, Jc (.st [.int .i64, .int .i64, .arr 8 (.arr 8 (.int .u32))]) c1, Jc Apo c2] h d (.pv (.b true)) [] := by
 obtain ⟨l, rfl, hl⟩ := Akh g0;simp only [GC] at g1;simp only [GCL] at g1;obtain ⟨e0, r0, rfl, ⟨b, rfl, w0⟩, e1, r1, rfl, ⟨self, rfl, w1⟩, e2, r2, rfl, g3, rfl⟩ := g1;obtain ⟨t, rfl, _⟩ := A0v (by simp only [GC]; exact g3);obtain ⟨m, rfl, hm, _, hz, _⟩ := A0a g2;show FunOk Tryz.prog 5 [.pv (.sl false 21 (l.map Bc)), Ql b self t, .agg (Ei m)] h d (.pv (.b true)) [];exact (Ar8 (t := t) hl (fun e he => (hm e he).1) hz (Ahc w1)).imp ⟨Imp.refl _, Imp.refl _, G5 m, trivial⟩ (by simp [A3, tn, Jb, Ql])
end Go.Proofs.YthmjebkldgdeiaaGreat.Fw
