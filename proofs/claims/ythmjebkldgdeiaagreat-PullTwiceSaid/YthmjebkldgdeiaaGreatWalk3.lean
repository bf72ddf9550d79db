/- What the functions compute that the laws of this seat reach. -/
import Derived.Test.YthmjebkldgdeiaaGreatWalk2
import Derived.OpenShut
import Derived.ShutString
import Derived.ChangeOld
import Derived.SizedLaws
import Derived.ChangeOld
import Derived.Lib.Bytealg
import Derived.Lib.Overlaps
import Derived.OpenShut
import Derived.ShutString
import Derived.SizedLaws
set_option linter.unusedVariables false
set_option linter.unusedSimpArgs false
set_option linter.unusedSectionVars false
set_option maxRecDepth 100000
namespace Go.Proofs.YthmjebkldgdeiaaGreat.Fw
open Go.RowKit Go.Proofs
noncomputable def A0g (f : Bool) (l : List Evt) (k : Nat) : FS := mk [(4, .pv (.i .i64 k)), (3, .os 40), (0, .pv (.sl f 21 (l.map Be)))] [(40, some (.row 21 ((L9 (l.take k)).map Be)))]
structure EvIn (e : Evt) : Prop where
 ev : ev e
 dep : ∀ i, i < 8 → e.dep i < 4294967296
set_option maxHeartbeats 4000000 in
theorem A1m {f : Bool} {l : List Evt} {h d} (hn : l.length ≤ 400) (hev : ∀ e ∈ l, EvIn e) : FunOk Tryz.prog 11 [.pv (.sl f 21 (l.map Be))] h d (.pv (.sl false 21 ((L9 l).map Be))) [] := by
 refine Qw Af fn11 (by simp) rfl fun F => ?_;simp (disch := omega) only [ir11, go_sem];refine A1 Af (A0g f l) (fun k => k ≤ l.length) (fun k => l.length - k) 0 (by simp) (Rp 3 40 21 rfl (by omega) (Aj ?_ ?_)) fun k hk => ?_
 · simp (disch := omega) only [go_sem]
 · simp (disch := omega) only [L9, List.take_zero, List.foldl_nil, List.map_nil, go_sem]
 by_cases hlt : k < l.length
 · have hx : l[k]? = some l[k] := List.getElem?_eq_getElem hlt;have he : (l.map Be)[k]? = some (Be l[k]) := by rw [List.getElem?_map, hx]; rfl
   have ht := C3 hx;have hsn := Vj (l.take k) l[k];rw [← ht] at hsn;obtain ⟨t1, t2, t3⟩ := Acb (l.take k) fun e he => (hev e (List.mem_of_mem_take he)).ev;have tl : (L9 (l.take k)).length ≤ 400 := by have := List.length_take_le k l; omega
   have hek := hev _ (List.getElem_mem hlt);generalize l[k] = e at *;have hel := Ac e;generalize hT : L9 (l.take k) = T at *;have hin := Zt t1 tl;simp (disch := omega) only [A0g, hT, go_sem];refine Aa (Ap9 (Ahw t1 tl) (Ahv t1) rfl) ?_;simp (disch := omega) only [List.length_map, he, Bh, hel, go_sem];refine ⟨rfl, Aa (A5o hin hek.ev hek.dep) ?_⟩;by_cases hw : Et (Au T) e = 0
   · have e1 : Rx T e = T ++ [e] := if_pos hw;rw [e1] at hsn;simp (disch := omega) only [hw, List.length_map, he, Bh, hel, go_sem];refine ⟨k + 1, by omega, by omega, D6 25 40 (by decide) rfl (Aj ?_ ?_)⟩
     · simp (disch := omega) only [go_sem]
     · simp (disch := omega) only [hsn, List.map_append, List.map_cons, List.map_nil, go_sem]
   · have e1 : Rx T e = T := if_neg hw;rw [e1] at hsn;simp (disch := omega) only [hw, go_sem];refine Ad (k + 1) _ _ rfl (by omega) (by omega) ?_ ?_
     · simp (disch := omega) only [go_sem]
     · simp (disch := omega) only [hsn, go_sem]
 · obtain rfl : k = l.length := by omega
   have htk : l.take l.length = l := List.take_length;simp (disch := omega) only [A0g, List.length_map, htk, go_sem]
def Aza (e : Evt) : Prop := e.name.length ≤ 30 ∧ e.data.length ≤ 250 ∧ e.gone.l.length ≤ 10 ∧ e.base.l.length ≤ 10
theorem Vg (s : St) : A4 (A6 s) = [] := by simp [A6, A2, A4, tn]
abbrev Yc : Sh := .st [Acl, .arr 8 (.int .u32), .int .i64, Acl, Acl, .str, .sl Acl, .sl Acl, .int .i64, .str, .int .i64]
theorem Ay9 {cs : List PV} (h : GC Yc cs) : ∃ e : Evt, cs = Be e ∧ (∀ i, i < 8 → e.dep i < 4294967296) ∧ e.gone = ⟨false, 2, e.gone.l⟩ ∧ e.base = ⟨false, 2, e.base.l⟩ := by
 simp only [GC] at h;simp only [GCL] at h;obtain ⟨c0, r0, rfl, g0, c1, r1, rfl, g1, c2, r2, rfl, ⟨n2, rfl, w2⟩, c3, r3, rfl, g3, c4, r4, rfl, g4, c5, r5, rfl, ⟨s5, rfl, w5⟩, c6, r6, rfl, g6, c7, r7, rfl, g7, c8, r8, rfl, ⟨n8, rfl, w8⟩, c9, r9, rfl, ⟨s9, rfl, w9⟩, c10, r10, rfl, ⟨n10, rfl, w10⟩, rfl⟩ := h;obtain ⟨b0, rfl, hb0⟩ := Ae1 (by simp only [GC]; exact g0);obtain ⟨a, rfl, ha⟩ := Aue (by simp only [GC]; exact g1);obtain ⟨b3, rfl, hb3⟩ := Ae1 (by simp only [GC]; exact g3);obtain ⟨b4, rfl, hb4⟩ := Ae1 (by simp only [GC]; exact g4);obtain ⟨e6, rfl, l6, g6⟩ := Auf (s := Acl) (by simp only [GC]; exact g6);obtain ⟨e7, rfl, l7, g7⟩ := Auf (s := Acl) (by simp only [GC]; exact g7);obtain ⟨m6, rfl, _⟩ := Abn (f := Ed) Ae1 g6;obtain ⟨m7, rfl, _⟩ := Abn (f := Ed) Ae1 g7;exact ⟨⟨b0.1, b0.2, a, n2, b3.1, b3.2, b4.1, b4.2, s5, ⟨false, 2, m6⟩, ⟨false, 2, m7⟩, n8, s9, n10⟩, by simp [Be, Ed, SlI.pv]; rfl, ha, rfl, rfl⟩
structure EvRaw (e : Evt) : Prop where
 dep : ∀ i, i < 8 → e.dep i < 4294967296
 gone : e.gone.ok
 base : e.base.ok
theorem Apb {e : Evt} (h : EvRaw e) (k : Aza e) : EvIn e := by
 obtain ⟨k1, k2, k3, k4⟩ := k;exact ⟨⟨h.gone, h.base, by omega, by omega, by omega⟩, h.dep⟩
structure GrewO (x y : Obj) : Prop where
 id : y.id = x.id
 dir : y.dir = x.dir
 seen : Rj x.seen y.seen
 len : x.vers.length ≤ y.vers.length
theorem GrewO.trans {x y z : Obj} (h : GrewO x y) (k : GrewO y z) : GrewO x z := ⟨k.id.trans h.id, k.dir.trans h.dir, fun i hi => Nat.le_trans (h.seen i hi) (k.seen i hi), Nat.le_trans h.len k.len⟩
theorem Af7 {l : List Evt} (hn : NodE l) : l.Nodup := by
 unfold NodE List.Nodup at *;rw [List.pairwise_map] at hn;exact hn.imp fun h q => h (by rw [q])
structure Wd where
 w : Nat → Int
 v : Vc
 r : Nat → Bool
theorem Yn {α : Type} : ∀ {l m : List α}, l.Nodup → (∀ x ∈ l, x ∈ m) → l.length ≤ m.length
 | [], m, _, _ => Nat.zero_le _
 | x :: l, m, h, hs => by
   obtain ⟨h1, h2⟩ := List.nodup_cons.1 h;obtain ⟨a, b, rfl⟩ := List.append_of_mem (hs x List.mem_cons_self);have := Yn (m := a ++ b) h2 fun y hy => by
    have := hs y (List.mem_cons_of_mem _ hy);rcases List.mem_append.1 this with h | h
    · exact List.mem_append_left _ h
    · rcases List.mem_cons.1 h with h | h
      · subst h; exact absurd hy h1
      · exact List.mem_append_right _ h
   simp only [List.length_append, List.length_cons] at this ⊢;omega
end Go.Proofs.YthmjebkldgdeiaaGreat.Fw
namespace Go.Proofs.YthmjebkldgdeiaaGreat.Fw
open Go.RowKit Go.Proofs
variable {P : Program}
theorem Ar8 (hm : P.follows .mixedOrders = true) {f N' : Nat} {rs : List Rv} {c : C} (hf : A8 P f = some (N', rs, c)) {args : List SV} {h : Nat → Option Blk} {d : Nat} {x : SV} (hlen : args.length ≤ N')
 (hargs : SV.closedL args = true) (hx : x.closed = true) (hrun : ∀ F, sx (T9 P F N') c (Ank rs fun y g => ∃ n, y = .p n 0 ∧ g.h n = some (.var x)) (mk (C8 0 args) [])) :
 FunOk P f args h d (.p d 0) [.new d (.var x)] := by
 obtain ⟨h1, h2, h3⟩ := Cj hargs;refine ⟨Cp hf, fun F N ρ s a w hR hh vs hc => ?_⟩;refine Calls.mono (Dm hm hf (h := h) hlen h2 Aaj (by rw [h3]; exact hrun) hR hh hc) fun e w' he => ?_;obtain ⟨v, rfl, hg, N'', ρ', s', a', y, hR', hy, n, rfl, hn⟩ := he;rw [h1, Ds] at hR' hy;simp only [Conc] at hy;obtain ⟨b0, hy1, hy2⟩ := hy;obtain ⟨b, vs', ty, fr, u, g1, g2, g3, g4, g5, g6, g7⟩ := hR'.own n _ hn;have hown : ∀ b, Cr (ρ' n) = some b → w.heap.size ≤ b ∧ b < w'.heap.size := fun b hb => by
  have ho : Co ρ' s'.h b := ⟨n, _, hn, hb⟩
  exact ⟨(hR'.may b ho).resolve_right id, hR'.lt ho⟩
 have hle : (vw ⟨w, fun _ => False, F.out ρ s.h, fun _ => undef, []⟩ w' ρ' s').le (Ay w' (F.out (upd ρ d (ρ' n)) ((s.kill d).seth d (some (.var x))).h)) := Bj fun b' c' hno hc' => ⟨fun hb' => hno (by
  rcases hb' with ⟨m, z, hm1, hm2⟩ | hb'
  · simp only [FS.seth, FS.kill] at hm1;by_cases hmd : m = d
    · subst hmd;rw [Az] at hm2;exact .inl ⟨n, _, hn, hm2⟩
    · rw [Br hmd] at hm2;simp only [hmd, if_false] at hm1;obtain ⟨z', hz', _⟩ := Option.map_eq_some_iff.1 hm1;exact .inr (.inl ⟨m, z', hz', hm2⟩)
  · exact .inr (.inr hb')), hc'⟩
 have hnew := hR.adopt hg d (.var x) (ρ' n) hown fun hV => ⟨b, vs', ty, fr, u, by rw [Az]; exact g1, g2, g3, Bx hle hx g4, g5, g6, g7⟩
 refine ⟨v, _, rfl, hnew.1, ?_⟩;simp only [Conc];exact ⟨b0, by rw [Az]; exact hy1, hy2⟩
end Go.Proofs.YthmjebkldgdeiaaGreat.Fw
namespace Go.Proofs.YthmjebkldgdeiaaGreat.Fw
open Go.RowKit Go.Proofs
theorem Yl {f : Bool} {z : Nat} {es : List (List PV)} {h d} (hz : es = [] ∨ z = 2) (hb : es.length ≤ 1000) : FunOk Tryz.prog 98 [.pv (.sl f z es)] h d (.pv (.sl false 2 es)) [] := by
 refine Qw Af fn98 (by simp) rfl fun F => ?_;simp (disch := omega) only [ir98, go_sem];intro b hb';cases b
 · simp (disch := omega) only [go_sem]
 · have he : es = [] := by
    cases es with
    | nil => rfl
    | cons c l => exact absurd (hb' (by simp)) (by simp)
   subst he
   (try simp only [Ch, Cg, Cf, Ce, Cd, Cc, Cb, Ca]); simp (disch := omega) only [go_sem]
   decide
theorem Adb {f : Bool} {z : Nat} {es : List (List PV)} (hz : es = [] ∨ z = 21) {h d} : FunOk Tryz.prog 69 [.pv (.sl f z es)] h d (.pv (.sl true z es)) [] := by
 refine Ao Af fn69 (by simp) rfl rfl fun F => ?_;have e := List.take_length (l := es);simp (disch := omega) only [ir69, hz, e, List.drop_zero, go_sem]
def Hq (e : Evt) : Evt := { e with gone := ⟨false, 2, e.gone.l⟩, base := ⟨false, 2, e.base.l⟩ }
theorem Ajm {e : Evt} (h : ev e) : ev (Hq e) := ⟨.inr rfl, .inr rfl, h.2.2.1, h.2.2.2.1, h.2.2.2.2⟩
theorem Aog (e : Evt) (g : SlI) : splice (Be e) 16 [g.pv] = Be { e with gone := g } := by
 simp only [splice, Be, vE, Cm]; rfl
theorem Aoi (e : Evt) (g : SlI) : splice (Be e) 17 [g.pv] = Be { e with base := g } := by
 simp only [splice, Be, vE, Cm]; rfl
theorem Sc (e : Evt) (he : ev e) {h d} : FunOk Tryz.prog 57 [.vec 21 (Be e)] h d (.vec 21 (Be (Hq e))) [] := by
 refine Ao Af fn57 (by simp) rfl rfl fun F => ?_;obtain ⟨h1, h2, h3, h4, h5⟩ := he;have hg : e.gone.pv = .sl e.gone.f e.gone.z (e.gone.l.map Ed) := rfl;have hb : e.base.pv = .sl e.base.f e.base.z (e.base.l.map Ed) := rfl;have hel := Ac e;have s1 := Aog e ⟨false, 2, e.gone.l⟩;have s2 := Aoi { e with gone := ⟨false, 2, e.gone.l⟩ } ⟨false, 2, e.base.l⟩;simp only [SlI.pv] at s1 s2;simp (disch := omega) only [ir57, F3, Fb, hg, hb, go_sem];refine Aa (Yl (es := e.gone.l.map Ed) (h1.imp (fun q => by rw [q]; rfl) id) (by rw [List.length_map]; omega)) ?_;simp (disch := omega) only [Fb, hb, go_sem];refine Aa (Yl (es := e.base.l.map Ed) (h2.imp (fun q => by rw [q]; rfl) id) (by rw [List.length_map]; omega)) ?_;simp (disch := omega) only [hel, s1, s2, Bh, go_sem];rfl
def Ao2 (S : St) (fl : Vc) (f : Bool) (z : Nat) (L : List Evt) : List SV := A6 S ++ [.vec 8 (vE fl), .pv (.sl f z (L.map Be))]
def Rk (S : St) (fl : Vc) (L : List Evt) : SV := .agg (Ao2 S fl false 21 L)
theorem Ac3 {S : St} (hS : Fine S) {h d} : FunOk Tryz.prog 23 [.agg (A6 S)] h d (.p d 0) [.new d (.var (Rk S S.known []))] := by
 refine Ar8 Af fn23 (by simp) rfl rfl fun F => ?_;simp (disch := omega) only [ir23, A6, A2, go_sem];refine Aa (Yk (s := S) hS) ?_;simp (disch := omega) only [A6, A2, go_sem];have hi : Imp (.agg (A6 S ++ [.vec 8 (vE S.known), .pv (.sl true 0 [])])) (Rk S S.known []) :=
  Ws (l := [.vec 8 (vE S.known), .pv (.sl false 15 (S.objs.map Ap)), .pv (.sl false 15 (S.ents.map Bp)), .vec 8 (iE S.wards), .vec 8 (wE S.ret), .vec 8 (vE S.known), .pv (.sl true 0 [])]) (m := [.vec 8 (vE S.known), .pv (.sl false 15 (S.objs.map Ap)), .pv (.sl false 15 (S.ents.map Bp)), .vec 8 (iE S.wards), .vec 8 (wE S.ret), .vec 8 (vE S.known), .pv (.sl false 21 [])]) ⟨⟨Imp.refl _, rfl⟩, ⟨Imp.refl _, rfl⟩, ⟨Imp.refl _, rfl⟩, ⟨Imp.refl _, rfl⟩, ⟨Imp.refl _, rfl⟩, ⟨Imp.refl _, rfl⟩, ⟨Su (G4 (fun q => by cases q) (.inl rfl) (.refl _)), rfl⟩, trivial⟩
 refine ⟨mk [(2, .p 8 0)] [(8, some (.var (Rk S S.known [])))], Aj ?_ ?_, ?_⟩
 · simp (disch := omega) only [go_sem]
 · simp (disch := omega) only [go_sem];exact ⟨hi, rfl⟩
 (try simp only [Ch, Cg, Cf, Ce, Cd, Cc, Cb, Ca]); simp (disch := omega) only [go_sem]
 exact ⟨8, rfl, if_pos rfl⟩
end Go.Proofs.YthmjebkldgdeiaaGreat.Fw
namespace Go.Proofs.YthmjebkldgdeiaaGreat.Fw
open Go.RowKit Go.Proofs
theorem Aps {S : St} {fl : Vc} {L : List Evt}  {g : Nat} {h d} (hg : h g = some (.var (Rk S fl L))) : FunOk Tryz.prog 18 [.p g 0] h d (.vec 8 (vE S.known)) [] := by
 refine FunOk.quiet (g := g) (blk := .var (Rk S fl L)) ?_ hg (by simp [A4, tn]);refine FunOk.io (fun h d hg => ?_) rfl rfl rfl rfl hg;refine H0 (g := 900) Af fn18 (by simp) (by simp [A4, tn]) (by simp [A4, tn]) hg rfl (by simp [Blk.ptr, SV.kill]) rfl (fun _ => rfl) fun F => ?_;simp (disch := omega) only [ir18, Rk, Ao2, A6, A2, Blk.ptr, List.length_map, List.cons_append, List.nil_append, go_sem]
 skip
 refine ⟨_, .same _, ?_⟩
 (try simp only [Ch, Cg, Cf, Ce, Cd, Cc, Cb, Ca]); simp (disch := omega) only [go_sem]
 exact ⟨900, rfl, rfl⟩
theorem Apl {S : St} {fl : Vc} {L : List Evt} (hS : Fine S) {g : Nat} {h d} (hg : h g = some (.var (Rk S fl L))) : FunOk Tryz.prog 21 [.p g 0] h d (.agg (A6 S)) [] := by
 refine FunOk.quiet (g := g) (blk := .var (Rk S fl L)) ?_ hg (by simp [A4, tn]);refine FunOk.io (fun h d hg => ?_) rfl rfl rfl rfl hg;refine H0 (g := 900) Af fn21 (by simp) (by simp [A4, tn]) (by simp [A4, tn]) hg rfl (by simp [Blk.ptr, SV.kill]) rfl (fun _ => rfl) fun F => ?_;simp (disch := omega) only [ir21, Rk, Ao2, A6, A2, Blk.ptr, List.cons_append, List.nil_append, go_sem];refine Aa (Yk (s := S) hS) ?_;simp (disch := omega) only [A6, A2, go_sem];refine ⟨_, .same _, ?_⟩
 (try simp only [Ch, Cg, Cf, Ce, Cd, Cc, Cb, Ca]); simp (disch := omega) only [go_sem]
 exact ⟨900, rfl, rfl⟩
def A4h (m : Nat) (v : Vc) (L : List Evt) : SV := .fn (.func m) [.pi 1 [[.sl true 21 (L.map Be)]] 0 0, .pi 8 [vE v] 0 0]
theorem Apm {S : St} {fl : Vc} {L : List Evt} (v : Vc) (hv : Rj fl v) {g : Nat} {h d} (hg : h g = some (.var (Rk S fl L))) : FunOk Tryz.prog 28 [.p g 0, .vec 8 (vE v)] h d (.tup [A4h 70 v L, .pv (.i .i64 0)]) [] := by
 refine FunOk.quiet (g := g) (blk := .var (Rk S fl L)) ?_ hg (by simp [A4, tn]);refine FunOk.io (fun h d hg => ?_) rfl rfl rfl rfl hg;refine H0 (g := 900) Af fn28 (by simp) (by simp [A4, tn]) (by simp [A4, tn]) hg rfl (by simp [Blk.ptr, SV.kill]) rfl (fun _ => rfl) fun F => ?_;have hv' := decide_eq_true hv;simp (disch := omega) only [ir28, Rk, Ao2, A6, A2, Blk.ptr, List.cons_append, List.nil_append, go_sem];refine Aa (Azg _ _) ?_;simp (disch := omega) only [hv', go_sem];refine Aa (Adb (.inr rfl)) ?_;simp (disch := omega) only [A4h, go_sem];refine ⟨_, Ahs 6 (x := .pv (.sl true 21 (L.map Be))) (cs := [.sl true 21 (L.map Be)]) rfl rfl (Ahs 3 (x := .vec 8 (vE v)) (cs := vE v) rfl rfl (.same _)), ?_⟩
 (try simp only [Ch, Cg, Cf, Ce, Cd, Cc, Cb, Ca]); simp (disch := omega) only [go_sem]
 exact ⟨900, rfl, rfl⟩
noncomputable def Zn (S : St) (e : Evt) : St := if Et S e = 0 then Hd S e else S
open Classical in
noncomputable def Aew (S : St) (L : List Evt) (e : Evt) : List Evt := if Et S e = 0 then L ++ [Hq e] else L
set_option maxHeartbeats 2000000 in
theorem A1y {S : St} {fl : Vc} {L : List Evt} {e : Evt} (hs : StIn S) (he : ev e) (hn : L.length ≤ 1000) {g : Nat} {h d} (hg : h g = some (.var (Rk S fl L))) : FunOk Tryz.prog 29 [.p g 0, .vec 21 (Be e)] h d (.pv (.i .i64 (Et S e))) [.upd g (.var (Rk (Zn S e) fl (Aew S L e)))] := by
 refine FunOk.io (fun h d hg => ?_) rfl rfl rfl rfl hg;refine H0 (g := 900) Af fn29 (by simp) (by simp [A4, tn]) (by simp [A4, tn]) hg rfl (by simp [Blk.ptr, SV.kill]) rfl (fun _ => rfl) fun F => ?_;have hel := Ac e;have hel2 := Ac (Hq e);simp (disch := omega) only [ir29, Rk, Ao2, A6, A2, Blk.ptr, List.cons_append, List.nil_append, Bh, hel, go_sem];refine Aa (Air (s := S) hs he) ?_;by_cases hw : Et S e = 0
 · have e1 : Aak S e = Zn S e := by unfold Aak Zn; rw [if_pos hw, if_pos hw]
   have e2 : Aew S L e = L ++ [Hq e] := if_pos hw;rw [e1, hw];simp (disch := omega) only [A6, A2, go_sem];refine Aa (Adb (.inr rfl)) ?_;simp (disch := omega) only [Bh, hel, go_sem];refine Aa (Sc e he) ?_;simp (disch := omega) only [hel2, go_sem];refine ⟨fun q => (by cases q), _, D7 34 rfl (.same _), ?_⟩
   (try simp only [Ch, Cg, Cf, Ce, Cd, Cc, Cb, Ca]); simp (maxSteps := 10000000) (disch := omega) only [e2, List.map_append, List.map_cons, List.map_nil, go_sem]
   exact ⟨900, rfl, rfl⟩
 · have e1 : Zn S e = S := if_neg hw;have e2 : Aew S L e = L := if_neg hw;rw [e1, e2];simp (disch := omega) only [A6, A2, hw, go_sem];refine ⟨_, .same _, ?_⟩
   (try simp only [Ch, Cg, Cf, Ce, Cd, Cc, Cb, Ca]); simp (disch := omega) only [go_sem]
   exact ⟨900, rfl, rfl⟩
def N6 : Evt := ⟨1, 1, fun _ => 0, 1, 0, 0, 0, 0, [97], .nil, .nil, 0, [], 0⟩
theorem Bax : Bk N6 = true := by
 have h1 : Im N6 := ⟨by decide, by decide, by decide, by decide, rfl, by decide, by decide⟩
 have h2 : Oj N6 := fun i _ => by simp [N6]
 rw [Gi h1 h2, Aul rfl, Aa6 rfl];decide
theorem A3g : ev N6 := ⟨.inl rfl, .inl rfl, by decide, by decide, by decide⟩
theorem Azr : Acc (Au []) N6 := ⟨Bax, rfl, fun i _ => Nat.le_refl _, rfl, rfl⟩
theorem Aht : Et (Au []) N6 = 0 := Re.2 Azr
theorem A8f : Au [N6] = Hd (Au []) N6 := Xd (l := []) Val.nil Azr
theorem A9d : Zn (Au []) N6 = Au [N6] := by unfold Zn; rw [if_pos Aht, A8f]
theorem A4i : Aew (Au []) [] N6 = [Hq N6] := by unfold Aew; rw [if_pos Aht]; rfl
theorem Ags : Fine (Au []) := (Zt Val.nil (by simp)).fine
theorem Bae (n : Nat) (S : St) (fl : Vc) (L : List Evt) : SV.kill n (Rk S fl L) = Rk S fl L := rfl
theorem A9r (S : St) (fl : Vc) (L : List Evt) : SV.width (Rk S fl L) = 35 := rfl
theorem Baq (n : Nat) (p : PV) (S : St) (fl : Vc) (L : List Evt) : SV.frz n p (Rk S fl L) = Rk S fl L := rfl
attribute [go_sem] Bae A9r Baq
theorem Ara : (Au []).known = fun _ => 0 := rfl
theorem A2b (es : List (List PV)) (f : Bool) (z : Nat) (K : KK) : LoadK (some [.sl f z es]) 0 1 false K = K (.pv (.sl f z es)) [] := by
 simp only [LoadK, Hg, eq_iff_iff];exact ⟨fun h => h.2.2, fun h => ⟨by simp, .inr trivial, h⟩⟩
theorem A5k (p : Nat) (hp : p < 1000) : ∀ q ∈ [p], q < Ij := by
 intro q hq;have : Ij = 1000000 := rfl;simp at hq; omega
end Go.Proofs.YthmjebkldgdeiaaGreat.Fw
namespace Go.Proofs.YthmjebkldgdeiaaGreat.Fw
open Go.RowKit Go.Proofs
def Ae2 (l : List Evt) : Prop := l.length ≤ 25 ∧ ∀ e ∈ l, Aza e
open Classical in
noncomputable def Y5 (l : List Evt) : Bool := decide (Ae2 l)
theorem Abi {l : List Evt} (h : Ae2 l) : Y5 l = true := by simp [Y5, h]
theorem Uz {l : List Evt} (h : ¬ Ae2 l) : Y5 l = false := by simp [Y5, h]
def O4 (f : Bool) (l : List Evt) (k : Nat) : FS := mk [(10, .pv (.i .i64 k)), (9, .pv (.i .i64 l.length)), (8, .pv (.sl f 21 (l.map Be)))] []
theorem Aux {T : List Evt} {e : Evt} (h : Val T) (he : ev e) : Val (Rx T e) ∧ (Rx T e).length ≤ T.length + 1 := by
 unfold Rx;split
 · rename_i hw; exact ⟨Val.snoc h he hw, by simp⟩
 · exact ⟨h, by omega⟩
end Go.Proofs.YthmjebkldgdeiaaGreat.Fw
namespace Go.Proofs.YthmjebkldgdeiaaGreat.Fw
open Go.RowKit
variable {P : Program} {F : Fr} {N : Nat} {ρ ρ' : Nat → Value} {s : FS} {a : Act} {w w' : World} {V V' : View}
end Go.Proofs.YthmjebkldgdeiaaGreat.Fw
namespace Go.Proofs.YthmjebkldgdeiaaGreat.Fw
open Go.RowKit Go.Proofs
def Yv (P : Evt → Bool) (l : List Evt) : List Evt := l.filter fun v => !P v
theorem Agh {P : Evt → Bool} {l : List Evt} {k : Nat} {v : Evt} (hv : l[k]? = some v) : Yv P (l.take (k + 1)) = Yv P (l.take k) ++ if P v = true then [] else [v] := by
 unfold Yv;rw [List.take_add_one, hv, List.filter_append];congr 1;cases hp : P v <;> simp [hp]
def H4 (v : Vc) (T : List Evt) : List Evt := Yv (fun e => Bl v e.rep e.seq) T
structure HAct where
 kind : Int
 v : Vc
 stop : Int
abbrev Tb := Nat → Vc
def Ga (t : Tb) (rep : Int) (v : Vc) : Tb := fun i => if (i : Int) + 1 = rep then Cn (t i) v else t i
def Ok (a b : Tb) : Tb := fun i => Cn (a i) (b i)
theorem Afc (t : Tb) (rep : Int) (v : Vc) (i j : Nat) : Ga t rep v i j = if (i : Int) + 1 = rep then max (t i j) (v j) else t i j := by
 unfold Ga Cn; split <;> rfl
theorem Aj1 (a b : Tb) (i j : Nat) : Ok a b i j = max (a i j) (b i j) := rfl
theorem An3 (t : Tb) (rep : Int) (v : Vc) (k : Nat) (h : rep = k + 1) : tE (Ea t k (Cn (t k) v)) = tE (Ga t rep v) :=
 Ry fun i hi j hj => by
  unfold Ea Ga;by_cases e : i = k
  · subst e; rw [if_pos rfl, if_pos (by omega)]
  · rw [if_neg e, if_neg (by omega)]
theorem Th (t : Tb) (rep : Int) (v : Vc) (h : rep < 1 ∨ 8 < rep) : tE (Ga t rep v) = tE t :=
 Ry fun i hi j hj => by unfold Ga; rw [if_neg (by omega)]
theorem Ail (t : Tb) (rep : Int) (v : Vc) (hr : -9223372036854775808 ≤ rep ∧ rep < 9223372036854775808) {h d} : FunOk Tryz.prog 72 [.vec 64 (tE t), .pv (.i .i64 rep), .vec 8 (vE v)] h d (.vec 64 (tE (Ga t rep v))) [] := by
 refine Ao Af fn72 (by simp) rfl rfl fun F => ?_;by_cases h1 : 1 ≤ rep ∧ rep ≤ 8
 · obtain ⟨k, rfl⟩ : ∃ k : Nat, rep = k + 1 := ⟨rep.toNat - 1, by omega⟩
   have e1 : ((k : Int) + 1 - 1) = k := by omega
   simp (disch := omega) only [ir72, e1, go_sem];refine Aa (Af1 _ _) ?_;simp (disch := omega) only [e1, go_sem];rw [An3 _ _ _ _ rfl]
 · by_cases h2 : rep < 1
   · simp (disch := omega) only [ir72, Th, go_sem]
   · simp (disch := omega) only [ir72, Th, go_sem]
def Z0 (a b : Tb) (k : Nat) : FS := mk [(8, .pv (.i .i64 k)), (7, .vec 64 (tE b)), (4, .p 4 0), (2, .p 2 0)] [(2, some (.var (.vec 64 (tE fun i => if i < k then Ok a b i else a i)))), (4, some (.var (.vec 64 (tE fun _ _ => 0))))]
theorem Av2 (a b : Tb) {h d} : FunOk Tryz.prog 74 [.vec 64 (tE a), .vec 64 (tE b)] h d (.vec 64 (tE (Ok a b))) [] := by
 refine Ao Af fn74 (by simp) rfl rfl fun F => ?_;simp (disch := omega) only [ir74, go_sem];refine A1 Af (Z0 a b) (fun k => k ≤ 8) (fun k => 8 - k) 0 (by simp) (Aj ?_ ?_) fun k hk => ?_
 · simp (disch := omega) only [go_sem]
 · simp (disch := omega) only [Auy, go_sem]
 by_cases hlt : k < 8
 · simp (disch := omega) only [Z0, go_sem];refine Aa (Af1 _ _) ?_;simp (disch := omega) only [go_sem];refine Ad (k + 1) _ _ rfl (by omega) (by omega) ?_ ?_
   · simp (disch := omega) only [go_sem]
   · simp (disch := omega) only [go_sem];exact N3 (Afd _ _ _ fun i hi => by simp [Ok])
 · simp (disch := omega) only [Z0, Az9, go_sem]
end Go.Proofs.YthmjebkldgdeiaaGreat.Fw
namespace Go.Proofs.YthmjebkldgdeiaaGreat.Fw
open Go.RowKit Go.Proofs
structure Msg where
 k : Int
 fr : Int
 to : Int
 kn : Vc
 tb : Nat → Vc
 f : Bool
 z : Nat
 evs : List Evt
def Iu (m : Msg) : List PV := [.i .i64 m.k, .i .i64 m.fr, .i .i64 m.to] ++ vE m.kn ++ tE m.tb ++ [.sl m.f m.z (m.evs.map Be)]
def Aag (m : Msg) (x : SV) : List SV := [.pv (.i .i64 m.k), .pv (.i .i64 m.fr), .pv (.i .i64 m.to), .vec 8 (vE m.kn), .vec 64 (tE m.tb), x]
def P0 (m : Msg) : List SV := Aag m (.pv (.sl m.f m.z (m.evs.map Be)))
theorem Adi (m : Msg) : (Iu m).length = 76 := by simp [Iu, vE, tE, Cm]
theorem Afp (m : Msg) : SV.cellsL? (P0 m) = some (Iu m) := rfl
theorem A2g (m : Msg) (K : KK) : LoadK (some (Iu m)) 0 1 false K = K (.pv (.i .i64 m.k)) [] := by
 simp only [LoadK, Hg, eq_iff_iff];exact ⟨fun h => h.2.2, fun h => ⟨by simp [Iu, vE, tE, Cm], .inr trivial, h⟩⟩
theorem A2f (m : Msg) (K : KK) : LoadK (some (Iu m)) 1 1 false K = K (.pv (.i .i64 m.fr)) [] := by
 simp only [LoadK, Hg, eq_iff_iff];exact ⟨fun h => h.2.2, fun h => ⟨by simp [Iu, vE, tE, Cm], .inr trivial, h⟩⟩
theorem A2e (m : Msg) (K : KK) : LoadK (some (Iu m)) 2 1 false K = K (.pv (.i .i64 m.to)) [] := by
 simp only [LoadK, Hg, eq_iff_iff];exact ⟨fun h => h.2.2, fun h => ⟨by simp [Iu, vE, tE, Cm], .inr trivial, h⟩⟩
theorem Aww (m : Msg) (K : KK) : LoadK (some (Iu m)) 75 1 false K = K (.pv (.sl m.f m.z (m.evs.map Be))) [] := by
 simp only [LoadK, Hg, eq_iff_iff];exact ⟨fun h => h.2.2, fun h => ⟨by simp [Iu, vE, tE, Cm], .inr trivial, h⟩⟩
theorem A2d (m : Msg) (K : KK) : LoadK (some (Iu m)) 3 8 true K = K (.vec 8 (vE m.kn)) [] := by
 simp only [LoadK, Hg, eq_iff_iff];exact ⟨fun h => h.2.2, fun h => ⟨by simp [Iu, vE, tE, Cm], .inl trivial, h⟩⟩
theorem A2c (m : Msg) (K : KK) : LoadK (some (Iu m)) 11 64 true K = K (.vec 64 (tE m.tb)) [] := by
 simp only [LoadK, Hg, eq_iff_iff];exact ⟨fun h => h.2.2, fun h => ⟨by simp [Iu, vE, tE, Cm], .inl trivial, h⟩⟩
attribute [go_sem] A2g A2f A2e Aww A2d A2c Adi
theorem Agk (m : Msg) : Imp (.agg (P0 m)) (.vec 76 (Iu m)) := Gl (Afp m) (Adi m)
theorem Zv (m : Msg) : A4 (P0 m) = [] := by simp [P0, Aag, A4, tn]
def Ajr (m : Msg) : Prop := (m.k = 1 ∨ m.k = 2) ∧ (1 ≤ m.fr ∧ m.fr ≤ 8) ∧ (1 ≤ m.to ∧ m.to ≤ 8) ∧ m.fr ≠ m.to ∧ m.evs.length ≤ 8 ∧ (m.k = 1 → m.evs.length = 0)
open Classical in
noncomputable def Ad3 (m : Msg) : Bool := decide (Ajr m)
theorem Ajc {m : Msg} (h : Ajr m) : Ad3 m = true := by simp [Ad3, h]
theorem Qu {m : Msg} (h : ¬ Ajr m) : Ad3 m = false := by simp [Ad3, h]
def R6 (n : Int) : Bool := decide (1 ≤ n ∧ n ≤ 8)
theorem Apo (n : Int) {h d} : FunOk Tryz.prog 80 [.pv (.i .i64 n)] h d (.pv (.b (R6 n))) [] := by
 refine Ao Af fn80 (by simp) rfl rfl fun F => ?_;by_cases h1 : 1 ≤ n
 · have e : R6 n = decide (n ≤ 8) := by simp [R6, h1]
   simp (disch := omega) only [ir80, h1, e, go_sem]
 · have e : R6 n = false := by simp [R6, h1]
   simp (disch := omega) only [ir80, h1, e, go_sem]
theorem Akw {f : Bool} {z : Nat} {h d} : FunOk Tryz.prog 97 [.pv (.sl f z []), .fn (.func 81) []] h d (.pv (.i .i64 (-1))) [] := by
 refine Ao Af fn97 (by simp) rfl rfl fun F => ?_;simp (disch := omega) only [ir97, List.length_nil, go_sem];refine A1 Af (fun _ : Nat => mk [(8, .pv (.i .i64 0)), (7, .pv (.i .i64 0)), (0, .pv (.sl f z [])), (1, .fn (.func 81) [])] []) (fun _ => True) (fun _ => 0) 0 trivial (Aj ?_ ?_) fun k hk => ?_
 · simp (disch := omega) only [go_sem]
 · simp (disch := omega) only [go_sem]
 simp (disch := omega) only [go_sem]
theorem Ap5 {f : Bool} {z : Nat} {h d} :
 FunOk Tryz.prog 55 [.pv (.sl f z []), .fn (.func 81) []] h d (.pv (.b false)) [] := by
 refine Ao Af fn55 (by simp) rfl rfl fun F => ?_;simp (disch := omega) only [ir55, go_sem];refine Aa Akw ?_;simp (disch := omega) only [go_sem]
set_option maxHeartbeats 8000000 in
theorem Ap8 (m : Msg) (hk : m.k = 1) {h d} : FunOk Tryz.prog 46 [.vec 76 (Iu m)] h d (.pv (.b (Ad3 m))) [] := by
 refine Ao Af fn46 (by simp) rfl rfl fun F => ?_;simp (disch := omega) only [ir46, List.length_map, hk, go_sem];refine Aa (Apo m.fr) ?_;by_cases r1 : 1 ≤ m.fr ∧ m.fr ≤ 8;rotate_left
 · have e := Qu (m := m) fun h => r1 h.2.1;have er : R6 m.fr = false := by simp only [R6, r1, decide_false]
   simp (disch := omega) only [er, e, go_sem]
 have er : R6 m.fr = true := by simp only [R6, r1, and_self, decide_true]
 simp (disch := omega) only [er, go_sem];refine Aa (Apo m.to) ?_;by_cases r2 : 1 ≤ m.to ∧ m.to ≤ 8;rotate_left
 · have e := Qu (m := m) fun h => r2 h.2.2.1;have er : R6 m.to = false := by simp only [R6, r2, decide_false]
   simp (disch := omega) only [er, e, go_sem]
 have er : R6 m.to = true := by simp only [R6, r2, and_self, decide_true]
 by_cases r3 : m.fr = m.to
 · have e := Qu (m := m) fun h => h.2.2.2.1 r3;simp (disch := omega) only [er, r3, e, go_sem]
 by_cases r4 : (8 : Int) < (m.evs.length : Int)
 · have e := Qu (m := m) fun h => by have := h.2.2.2.2.1; omega
   simp (disch := omega) only [er, r3, r4, e, go_sem]
 by_cases r5 : (0 : Int) < (m.evs.length : Int)
 · have e := Qu (m := m) fun h => by have := h.2.2.2.2.2 hk; omega
   simp (disch := omega) only [er, r3, r4, hk, r5, e, List.length_map, go_sem]
 have e := Ajc (m := m) ⟨.inl hk, r1, r2, r3, by omega, fun _ => by omega⟩;have e0 : m.evs = [] := List.eq_nil_of_length_eq_zero (by omega);simp (disch := omega) only [er, r3, r4, hk, r5, List.length_map, e0, List.map_nil, go_sem];refine Aa Ap5 ?_;simp (disch := omega) only [e, go_sem]
theorem A9s (v : Vc) : vE v ++ (vE v ++ (vE v ++ (vE v ++ (vE v ++ (vE v ++ (vE v ++ vE v)))))) = tE fun _ => v := Ajx fun _ => v
def Ag8 (t : Nat → Vc) (self to : Int) (v : Vc) : Msg := ⟨1, self, to, v, Ga t self v, true, 0, []⟩
theorem Aqd {S : St} {fl : Vc} {L : List Evt} (t : Nat → Vc) (self to : Int) (hr : -9223372036854775808 ≤ self ∧ self < 9223372036854775808) {g : Nat} {h d} (hg : h g = some (.var (Rk S fl L))) : FunOk Tryz.prog 34 [.p g 0, .vec 64 (tE t), .pv (.i .i64 self), .pv (.i .i64 to)] h d (.agg (P0 (Ag8 t self to S.known))) [] := by
 refine FunOk.quiet (g := g) (blk := .var (Rk S fl L)) ?_ hg (by simp [A4, tn]);refine FunOk.io (fun h d hg => ?_) rfl rfl rfl rfl hg;refine H0 (g := 900) Af fn34 (by simp) (by simp [A4, tn]) (by simp [A4, tn]) hg rfl (by simp [Blk.ptr, SV.kill]) rfl (fun _ => rfl) fun F => ?_;simp (disch := omega) only [ir34, Blk.ptr, go_sem];refine Aa (Aps (S := S) (L := L) rfl) ?_;simp (disch := omega) only [go_sem];refine Aa (Ail t self S.known hr) ?_;simp (disch := omega) only [go_sem];refine ⟨_, .same _, ?_⟩
 (try simp only [Ch, Cg, Cf, Ce, Cd, Cc, Cb, Ca]); simp (disch := omega) only [P0, Aag, Ag8, List.map_nil, go_sem]
 exact ⟨900, rfl, rfl⟩
noncomputable def Ic (T l : List Evt) : List Evt := l.foldl Rx T
noncomputable def Mf (T l : List Evt) : List Evt := (Ic T l).drop T.length
theorem Qz (T l : List Evt) (e : Evt) : Ic T (l ++ [e]) = Rx (Ic T l) e := by simp [Ic]
theorem Ls (T : List Evt) : ∀ l : List Evt, Ic T l = T ++ Mf T l ∧ (Mf T l).length ≤ l.length ∧ ∀ e ∈ Mf T l, e ∈ l :=
 Ol ⟨by simp [Ic, Mf], by simp [Ic, Mf], fun e he => by simp [Ic, Mf] at he⟩ fun l e ih => by
  obtain ⟨h1, h2, h3⟩ := ih;have hs := Qz T l e;unfold Rx at hs;split at hs
  · have e1 : Mf T (l ++ [e]) = Mf T l ++ [e] := by
     unfold Mf at h1 ⊢;rw [hs, h1, List.append_assoc, List.drop_left];simp
    refine ⟨by rw [e1, hs, ← List.append_assoc, ← h1], by rw [e1]; simp only [List.length_append, List.length_singleton]; omega, fun f hf => ?_⟩;rw [e1] at hf;rcases List.mem_append.1 hf with hf | hf
    · exact List.mem_append_left _ (h3 f hf)
    · exact List.mem_append_right _ hf
  · have e1 : Mf T (l ++ [e]) = Mf T l := by unfold Mf; rw [hs]
    rw [e1, hs];exact ⟨h1, by simp only [List.length_append, List.length_singleton]; omega, fun f hf => List.mem_append_left _ (h3 f hf)⟩
theorem N4 {T : List Evt} (hT : Val T) : ∀ l : List Evt, (∀ e ∈ l, ev e) → Val (Ic T l) :=
 Ol (fun _ => hT) fun l e ih hl => by
  have h1 := ih fun f hf => hl f (List.mem_append_left _ hf);rw [Qz];exact (Aux h1 (hl e (by simp))).1
theorem Ase {T l : List Evt} {e : Evt} (hT : Val T) (hl : ∀ f ∈ l, ev f) : (Et (Au (Ic T l)) e = 0 → Aak (Au (Ic T l)) e = Au (Ic T (l ++ [e])) ∧ Mf T (l ++ [e]) = Mf T l ++ [e] ∧ Ic T (l ++ [e]) = Ic T l ++ [e]) ∧ (Et (Au (Ic T l)) e ≠ 0 → Mf T (l ++ [e]) = Mf T l ∧ Ic T (l ++ [e]) = Ic T l) := by
 have hv := N4 hT l hl;have h1 := (Ls T l).1;refine ⟨fun hw => ?_, fun hw => ?_⟩
 · have hs : Ic T (l ++ [e]) = Ic T l ++ [e] := by rw [Qz]; exact if_pos hw
   refine ⟨by rw [Avs hv hw, hs], ?_, hs⟩;unfold Mf at h1 ⊢;rw [hs, h1, List.append_assoc, List.drop_left];simp
 · have hs : Ic T (l ++ [e]) = Ic T l := by rw [Qz]; exact if_neg hw
   exact ⟨by unfold Mf; rw [hs], hs⟩
theorem Amc {T : List Evt} (l : List Evt) : Rj (Bz T) (Bz (Ic T l)) := fun i hi => by
 rw [(Ls T l).1]; exact Agb T _ i hi
theorem Amb {T l : List Evt} (hT : Val T) (hl : ∀ e ∈ l, ev e) : (∀ x ∈ Mf T l, Bl (Bz (Ic T l)) x.rep x.seq = true) ∧ (∀ x ∈ Mf T l, ∀ y ∈ Mf (Ic T l) l, Ak x ≠ Ak y) ∧ (Mf T l).length + (Mf (Ic T l) l).length ≤ l.length := by
 have v1 := N4 hT l hl;have v2 := N4 v1 l hl;obtain ⟨a1, a2, a3⟩ := Ls T l;obtain ⟨b1, b2, b3⟩ := Ls (Ic T l) l;have hn := v2.nod;have e : Ic (Ic T l) l = (T ++ Mf T l) ++ Mf (Ic T l) l := b1.trans (congrArg (· ++ Mf (Ic T l) l) a1);rw [e] at hn;have hn' : NodE (Mf T l ++ Mf (Ic T l) l) := by
  unfold NodE at hn ⊢;rw [List.append_assoc, List.map_append, List.nodup_append] at hn;exact hn.2.1
 refine ⟨fun x hx => (v1.has (i := Ak x)).2 ⟨x, by rw [a1]; exact List.mem_append_right _ hx, rfl⟩, fun x hx y hy q => ?_, ?_⟩
 · unfold NodE at hn';rw [List.map_append, List.nodup_append] at hn';exact hn'.2.2 _ (List.mem_map_of_mem hx) _ (List.mem_map_of_mem hy) q
 · have := Yn (l := Mf T l ++ Mf (Ic T l) l) (m := l) (Af7 hn') fun x hx => (List.mem_append.1 hx).elim (a3 x) (b3 x)
   rwa [List.length_append] at this
theorem Adt (t u : Nat → Vc) (r : Int) (v : Vc) : tE (Ga (Ok (Ga (Ok t u) r v) u) r v) = tE (Ga (Ok t u) r v) :=
 Ry fun i hi j hj => by
  simp only [Afc, Aj1];split <;> omega
theorem Ac6 (t : Nat → Vc) (m : Msg) (hr : -9223372036854775808 ≤ m.fr ∧ m.fr < 9223372036854775808) {h d} : FunOk Tryz.prog 42 [.vec 64 (tE t), .vec 76 (Iu m)] h d (.vec 64 (tE (Ga (Ok t m.tb) m.fr m.kn))) [] := by
 refine Ao Af fn42 (by simp) rfl rfl fun F => ?_;simp (disch := omega) only [ir42, go_sem];refine Aa (Av2 _ _) ?_;simp (disch := omega) only [go_sem];refine Aa (Ail _ _ _ hr) ?_;simp (disch := omega) only [go_sem]
noncomputable def A0h (T : List Evt) (m : Msg) (k : Nat) : FS := mk [(14, .pv (.i .i64 k)), (13, .pv (.i .i64 m.evs.length)), (12, .pv (.sl m.f m.z (m.evs.map Be))), (6, .os 40), (2, .p 2 0), (5, .p 5 0)] [(2, some (.var (.agg (A6 (Au (Ic T (m.evs.take k))))))), (5, some (.var (.agg [.vec 8 (vE fun _ => 0), .pv (.sl true 0 []), .pv (.sl true 0 []), .vec 8 (iE fun _ => 0), .vec 8 (wE fun _ => false)]))), (40, some (.row 21 ((Mf T (m.evs.take k)).map Be)))]
set_option maxHeartbeats 4000000 in
theorem Aau {T : List Evt} {m : Msg} (hT : Val T) (hn : T.length + m.evs.length ≤ 400) (hz : m.z = 21) (hev : ∀ e ∈ m.evs, ev e) {h d} : FunOk Tryz.prog 39 [.agg (A6 (Au T)), .vec 76 (Iu m)] h d (.tup [.pv (.sl false 21 ((Mf T m.evs).map Be)), .agg (A6 (Au (Ic T m.evs)))]) [] := by
 refine Y4 Af fn39 (by simp) rfl rfl fun F => ?_;simp (disch := omega) only [ir39, List.length_map, A6, A2, go_sem];refine A1 Af (A0h T m) (fun k => k ≤ m.evs.length) (fun k => m.evs.length - k) 0 (by simp) (Rp 6 40 21 rfl (by omega) (Aj ?_ ?_)) fun k hk => ?_
 · simp (disch := omega) only [go_sem]
 · simp (disch := omega) only [List.take_zero, Mf, Ic, List.foldl_nil, List.drop_length, List.map_nil, A6, A2, go_sem]
 by_cases hlt : k < m.evs.length
 · have hx : m.evs[k]? = some m.evs[k] := List.getElem?_eq_getElem hlt;have he : (m.evs.map Be)[k]? = some (Be m.evs[k]) := by rw [List.getElem?_map, hx]; rfl
   have ht := C3 hx;have hee := hev _ (List.getElem_mem hlt);have hpre : ∀ f ∈ m.evs.take k, ev f := fun f hf => hev f (List.mem_of_mem_take hf);obtain ⟨s1, s2⟩ := Ase (e := m.evs[k]) hT hpre;rw [← ht] at s1 s2;have hv := N4 hT _ hpre;obtain ⟨a1, a2, _⟩ := Ls T (m.evs.take k);have hkl : (m.evs.take k).length ≤ k := List.length_take_le _ _;have hWl : (Ic T (m.evs.take k)).length ≤ 400 := by rw [a1, List.length_append]; omega
   have hi := Zt hv hWl;have hfl : (Mf T (m.evs.take k)).length ≤ 400 := by omega
   generalize hee' : m.evs[k] = e at *;have hel := Ac e;simp (disch := omega) only [A0h, hz, List.length_map, he, Bh, hel, A6, A2, go_sem];refine Aa (Air (s := Au (Ic T (m.evs.take k))) hi hee) ?_;by_cases hw : Et (Au (Ic T (m.evs.take k))) e = 0
   · obtain ⟨r1, r2, r3⟩ := s1 hw;rw [r1, hw];simp (disch := omega) only [A6, A2, go_sem];refine Rb ?_;simp (disch := omega) only [Bh, hel, A6, A2, List.length_map, go_sem];refine ⟨k + 1, by omega, by omega, D6 29 40 (by decide) rfl (Aj ?_ ?_)⟩
     · simp (disch := omega) only [hz, go_sem]
     · simp (disch := omega) only [r2, List.map_append, List.map_cons, List.map_nil, A6, A2, go_sem]
   · obtain ⟨r2, r3⟩ := s2 hw;simp (disch := omega) only [hw, A6, A2, go_sem];refine Ad (k + 1) _ _ rfl (by omega) (by omega) ?_ ?_
     · simp (disch := omega) only [hz, go_sem]
     · simp (disch := omega) only [r2, r3, A6, A2, go_sem]
 · obtain rfl : k = m.evs.length := by omega
   have htk : m.evs.take m.evs.length = m.evs := List.take_length;simp (disch := omega) only [A0h, List.length_map, htk, A6, A2, go_sem]
def Ar2 (t : Nat → Vc) (self to : Int) (v : Vc) (l : List Evt) : Msg := ⟨2, self, to, v, Ga t self v, false, 21, l⟩
def gvS (k : Nat) : SV := if k = 0 then .pv (.sl true 0 []) else .os 60
def gvK (l : List Evt) : Option Blk := if l.length = 0 then none else some (.row 21 (l.map Be))
theorem A7m : gvS 0 = .pv (.sl true 0 []) := rfl
theorem Ajd {k : Nat} (h : k ≠ 0) : gvS k = .os 60 := if_neg h
theorem Azn {l : List Evt} (h : l.length = 0) : gvK l = none := if_pos h
theorem Aje {l : List Evt} (h : l.length ≠ 0) : gvK l = some (.row 21 (l.map Be)) := if_neg h
def Mb : SV := .agg [.pv (.i .i64 0), .pv (.i .i64 0), .pv (.i .i64 0), .vec 8 (List.replicate 8 (.i .u32 0)), .vec 64 (List.replicate 64 (.i .u32 0)), .pv (.sl true 0 [])]
def Jr (t : Nat → Vc) (self to : Int) (v : Vc) (x : SV) : List SV := [.pv (.i .i64 2), .pv (.i .i64 self), .pv (.i .i64 to), .vec 8 (vE v), .vec 64 (tE (Ga t self v)), x]
theorem A2s {t : Nat → Vc} {self to : Int} {v : Vc} : Imp (.agg (Jr t self to v (.pv (.sl true 0 [])))) (.agg (Jr t self to v (.pv (.sl false 21 [])))) :=
 Ws (l := Jr t self to v (.pv (.sl true 0 []))) (m := Jr t self to v (.pv (.sl false 21 []))) ⟨⟨Imp.refl _, rfl⟩, ⟨Imp.refl _, rfl⟩, ⟨Imp.refl _, rfl⟩, ⟨Imp.refl _, rfl⟩, ⟨Imp.refl _, rfl⟩, ⟨Su (G4 (fun q => by cases q) (.inl rfl) (.refl _)), rfl⟩, trivial⟩
theorem A9z (a b : Nat) (S : St) (fl : Vc) (L : List Evt) : SV.ren a b (Rk S fl L) = Rk S fl L := rfl
attribute [go_sem] A9z
noncomputable def Afg (l0 : Nat) (S : St) (fl v : Vc) (L : List Evt) (t : Nat → Vc) (self to : Int) (j : Nat) : FS := mk [(8, .pv (.i .i64 j)), (7, .pv (.i .i64 L.length)), (6, .pv (.sl true 21 (L.map Be))), (0, .fn (.yield l0) []), (2, .pi 8 [vE v] 0 0), (1000000, .pv (.i .i64 0)), (1000009, .p 8 0), (1000013, .p 12 0), (2000001, .p 900 0)] [(8, some (.var Mb)), (12, some (.var (.agg (Jr t self to S.known (gvS (H4 v (L.take j)).length))))), (60, gvK (H4 v (L.take j))), (900, some (.var (Rk S fl L)))]
set_option maxHeartbeats 8000000 in
theorem A1s {S : St} {fl : Vc} {L : List Evt} (t : Nat → Vc) (m : Msg) (hk : m.k = 1) (hh : Ajr m) (hv : Rj fl m.kn) (hL : ∀ e ∈ L, ev e ∧ Hq e = e) (hn : L.length ≤ 100) {g : Nat} {h d} (hg : h g = some (.var (Rk S fl L))) : FunOk Tryz.prog 36 [.p g 0, .vec 64 (tE t), .pv (.i .i64 m.to), .vec 76 (Iu m)] h d (.tup [.agg (P0 (Ar2 t m.to m.fr S.known ((H4 m.kn L).take 8))), .pv (.i .i64 0)]) [] := by
 refine FunOk.quiet (g := g) (blk := .var (Rk S fl L)) ?_ hg (by simp [A4, tn]);refine FunOk.io (fun h d hg => ?_) rfl rfl rfl rfl hg;refine H0 (g := 900) Af fn36 (by simp) (by simp [A4, tn]) (by simp [A4, tn]) hg rfl (by simp [Blk.ptr, SV.kill]) rfl (fun _ => rfl) fun F => ?_;have hb := Ajc hh;obtain ⟨_, hfr, hto, _⟩ := id hh;simp (disch := omega) only [ir36, Blk.ptr, hk, go_sem];refine Aa (Ap8 m hk) ?_;simp (disch := omega) only [hb, go_sem];refine Aa (Apm (S := S) (L := L) m.kn hv rfl) ?_;simp (disch := omega) only [A4h, go_sem];refine Aa (Aqd (S := S) (L := L) (fl := fl) t m.to m.fr (by omega) rfl) ?_;simp (disch := omega) only [P0, Aag, Ag8, List.map_nil, go_sem];refine A00 Af fn70 (by simp) fun l0 XI hc => ?_;rw [Aso _ _ _ (by show 3 ≤ 1000000; omega)];simp (disch := omega) only [ir70, List.getElem?_cons_zero, A2b, List.length_map, go_sem];refine A1 Af (Afg l0 S fl m.kn L t m.to m.fr) (fun k => k ≤ L.length ∧ (H4 m.kn (L.take k)).length ≤ 8) (fun k => L.length - k) 0 ⟨by simp, by simp [H4, Yv]⟩ (Aj ?_ ?_) fun j hj => ?_
 · simp (disch := omega) only [go_sem]
 · simp (disch := omega) only [List.take_zero, show H4 m.kn [] = [] from rfl, show gvK [] = none from rfl, List.length_nil, A7m, Jr, Mb, go_sem]
 obtain ⟨hj1, hj2⟩ := hj;by_cases hlt : j < L.length
 · have hx : L[j]? = some L[j] := List.getElem?_eq_getElem hlt;have he : (L.map Be)[j]? = some (Be L[j]) := by rw [List.getElem?_map, hx]; rfl
   have hmem := List.getElem_mem hlt;have hsn : H4 m.kn (L.take (j + 1)) = H4 m.kn (L.take j) ++ if Bl m.kn L[j].rep L[j].seq = true then [] else [L[j]] := Agh hx
   have hdr : H4 m.kn L = H4 m.kn (L.take j) ++ H4 m.kn (L.drop j) := by
    conv => lhs; rw [← List.take_append_drop j L]
    unfold H4 Yv; rw [List.filter_append]
   obtain ⟨hev, hce⟩ := hL _ hmem;generalize L[j] = e at *;have hel := Ac e;generalize hSS : H4 m.kn (L.take j) = SS at *;by_cases h0 : SS.length = 0
   · have gS : gvS SS.length = .pv (.sl true 0 []) := by rw [h0]; rfl
     have gK : gvK SS = none := Azn h0;have e0 : SS = [] := List.eq_nil_of_length_eq_zero h0;by_cases hh' : Bl m.kn e.rep e.seq = true
     · rw [if_pos hh', List.append_nil] at hsn;simp (disch := omega) only [Afg, hSS, gS, gK, Jr, Mb, List.length_map, he, Bh, hel, List.getElem?_cons_zero, Dn, A5, go_sem];refine Aa (Gq _ _ _) ?_;rw [hh'];simp (disch := omega) only [go_sem];refine Ad (j + 1) _ _ rfl ⟨by omega, by rw [hsn]; exact hj2⟩ (by omega) ?_ ?_
       · simp (disch := omega) only [go_sem]
       · simp (disch := omega) only [hsn, gS, gK, Jr, Mb, go_sem]
     rw [if_neg hh'] at hsn;have hhf : Bl m.kn e.rep e.seq = false := by simpa using hh'
     have hln : (H4 m.kn (L.take (j + 1))).length = SS.length + 1 := by rw [hsn]; simp
     have gS' : gvS (SS.length + 1) = .os 60 := Ajd (by omega);have gK' : gvK (SS ++ [e]) = some (.row 21 ((SS ++ [e]).map Be)) := Aje (by simp);simp (disch := omega) only [Afg, hSS, gS, gK, Jr, Mb, List.length_map, he, Bh, hel, List.getElem?_cons_zero, Dn, A5, go_sem];refine Aa (Gq _ _ _) ?_;rw [hhf];simp (disch := omega) only [Bh, hel, go_sem];refine Aa (Sc e hev) ?_;rw [hce];simp (disch := omega) only [go_sem];refine Anu Af hc ?_ rfl fun XA XB => ?_
     · simp (disch := omega) only [go_sem]
     rw [Acr _ _ _ _ (A5k 48 (by decide))];simp (disch := omega) only [Bh, hel, List.length_nil, go_sem];refine ⟨fun q => (by cases q), j + 1, ⟨by omega, by rw [hln]; omega⟩, by omega, D6 57 60 (by decide) rfl (Aj ?_ ?_)⟩
     · simp (disch := omega) only [go_sem]
     · simp (disch := omega) only [hsn, show gvS 1 = .os 60 from rfl, show gvK [e] = some (.row 21 [Be e]) from rfl, Jr, Mb, e0, List.nil_append, List.length_singleton, List.map_cons, List.map_nil, go_sem]
   · have gS : gvS SS.length = .os 60 := Ajd h0;have gK : gvK SS = some (.row 21 (SS.map Be)) := Aje h0;by_cases hh' : Bl m.kn e.rep e.seq = true
     · rw [if_pos hh', List.append_nil] at hsn;simp (disch := omega) only [Afg, hSS, gS, gK, Jr, Mb, List.length_map, he, Bh, hel, List.getElem?_cons_zero, Dn, A5, go_sem];refine Aa (Gq _ _ _) ?_;rw [hh'];simp (disch := omega) only [go_sem];refine Ad (j + 1) _ _ rfl ⟨by omega, by rw [hsn]; exact hj2⟩ (by omega) ?_ ?_
       · simp (disch := omega) only [go_sem]
       · simp (disch := omega) only [hsn, gS, gK, Jr, Mb, go_sem]
     rw [if_neg hh'] at hsn;have hhf : Bl m.kn e.rep e.seq = false := by simpa using hh'
     have hln : (H4 m.kn (L.take (j + 1))).length = SS.length + 1 := by rw [hsn]; simp
     have gS' : gvS (SS.length + 1) = .os 60 := Ajd (by omega);have gK' : gvK (SS ++ [e]) = some (.row 21 ((SS ++ [e]).map Be)) := Aje (by simp);simp (disch := omega) only [Afg, hSS, gS, gK, Jr, Mb, List.length_map, he, Bh, hel, List.getElem?_cons_zero, Dn, A5, go_sem];refine Aa (Gq _ _ _) ?_;rw [hhf];simp (disch := omega) only [Bh, hel, go_sem];refine Aa (Sc e hev) ?_;rw [hce];simp (disch := omega) only [go_sem];refine Anu Af hc ?_ rfl fun XA XB => ?_
     · simp (disch := omega) only [go_sem]
     rw [Acr _ _ _ _ (A5k 48 (by decide))];by_cases h8 : SS.length = 8
     · have h8' : (SS.length : Int) = 8 := by omega
       have ht8 : (H4 m.kn L).take 8 = SS := by rw [hdr, ← h8, List.take_left]
       simp (disch := omega) only [Bh, hel, List.length_map, h8', ht8, go_sem];refine ⟨_, D7 60 rfl (.same _), ?_⟩
       (try simp only [Ch, Cg, Cf, Ce, Cd, Cc, Cb, Ca]); simp (maxSteps := 10000000) (disch := omega) only [P0, Aag, Ar2, Jr, go_sem]
       exact ⟨900, rfl, rfl⟩
     · have h8' : ¬ (SS.length : Int) = 8 := by omega
       simp (disch := omega) only [Bh, hel, List.length_map, h8', go_sem];refine ⟨j + 1, ⟨by omega, by rw [hln]; omega⟩, by omega, D6 57 60 (by decide) rfl (Aj ?_ ?_)⟩
       · simp (disch := omega) only [go_sem]
       · simp (disch := omega) only [hsn, List.length_append, List.length_singleton, gS', gK', Jr, Mb, List.map_append, List.map_cons, List.map_nil, go_sem]
 · obtain rfl : j = L.length := by omega
   have htk : L.take L.length = L := List.take_length;rw [htk] at hj2;have ht8 : (H4 m.kn L).take 8 = H4 m.kn L := List.take_of_length_le hj2;by_cases h0 : (H4 m.kn L).length = 0
   · have gS : gvS (H4 m.kn L).length = .pv (.sl true 0 []) := by rw [h0]; rfl
     have gK : gvK (H4 m.kn L) = none := Azn h0;have e0 : H4 m.kn L = [] := List.eq_nil_of_length_eq_zero h0;simp (disch := omega) only [Afg, List.length_map, htk, gS, gK, Jr, Mb, go_sem];have hi : Imp (.agg (Jr t m.to m.fr S.known (.pv (.sl true 0 [])))) (.agg (Jr t m.to m.fr S.known (.pv (.sl false 21 [])))) := A2s;refine ⟨mk [(9, .pv (.i .i64 0)), (8, .p 8 0), (1000000, .p 900 0)] [(8, some (.var (.agg (Jr t m.to m.fr S.known (.pv (.sl false 21 [])))))), (900, some (.var (Rk S fl L)))], Aj ?_ ?_, ?_⟩
     · simp (disch := omega) only [go_sem]
     · simp (disch := omega) only [go_sem];exact ⟨hi, rfl⟩
     (try simp only [Ch, Cg, Cf, Ce, Cd, Cc, Cb, Ca]); simp (disch := omega) only [P0, Aag, Ar2, Jr, e0, List.take_nil, List.map_nil, go_sem]
     exact ⟨900, rfl, rfl⟩
   · have gS : gvS (H4 m.kn L).length = .os 60 := Ajd h0;have gK : gvK (H4 m.kn L) = some (.row 21 ((H4 m.kn L).map Be)) := Aje h0;simp (disch := omega) only [Afg, List.length_map, htk, gS, gK, Jr, Mb, ht8, go_sem];refine ⟨_, D7 60 rfl (.same _), ?_⟩
     (try simp only [Ch, Cg, Cf, Ce, Cd, Cc, Cb, Ca]); simp (disch := omega) only [P0, Aag, Ar2, Jr, go_sem]
     exact ⟨900, rfl, rfl⟩
set_option maxHeartbeats 2000000 in
theorem Ada {x : SV} {f : Bool} {l : List Evt} {h d} (hx : C2 h [x] = [.pv (.sl f 21 (l.map Be))]) (hl : Bf [x] = true) :
 FunOk Tryz.prog 33 [x] h d (.pv (.b (Y5 l))) [] := by
 refine Db Af fn33 (by simp) hl rfl fun F => ?_;rw [hx];by_cases h30 : 25 < (l.length : Int)
 · have hf := Uz (l := l) fun h => by have := h.1; omega
   simp (disch := omega) only [ir33, List.length_map, hf, go_sem]
 simp (disch := omega) only [ir33, List.length_map, go_sem];refine A1 Af (O4 f l) (fun k => k ≤ l.length ∧ ∀ j e, j < k → l[j]? = some e → Aza e) (fun k => l.length - k) 0 ⟨by simp, fun j e hj => absurd hj (Nat.not_lt_zero j)⟩ (Aj ?_ ?_) fun k hk => ?_
 · simp (disch := omega) only [List.length_map, go_sem]
 · simp (disch := omega) only [go_sem]
 obtain ⟨hk1, hk2⟩ := hk;by_cases hlt : k < l.length
 · have hx' : l[k]? = some l[k] := List.getElem?_eq_getElem hlt;have he : (l.map Be)[k]? = some (Be l[k]) := by rw [List.getElem?_map, hx']; rfl
   have hm := List.getElem_mem hlt;generalize l[k] = e at *;have hel := Ac e;have hg : e.gone.pv = .sl e.gone.f e.gone.z (e.gone.l.map Ed) := rfl;have hb : e.base.pv = .sl e.base.f e.base.z (e.base.l.map Ed) := rfl;have hno : ¬ Aza e → Y5 l = false := fun q => Uz fun h => q (h.2 e hm);by_cases c1 : 30 < (e.name.length : Int)
   · have hf := hno fun q => by have := q.1; omega
     simp (disch := omega) only [O4, List.length_map, he, Bh, hel, Dr, c1, hf, go_sem]
   by_cases c2 : 250 < (e.data.length : Int)
   · have hf := hno fun q => by have := q.2.1; omega
     simp (disch := omega) only [O4, List.length_map, he, Bh, hel, Dr, c1, G5, c2, hf, go_sem]
   by_cases c3 : 10 < (e.gone.l.length : Int)
   · have hf := hno fun q => by have := q.2.2.1; omega
     simp (disch := omega) only [O4, List.length_map, he, Bh, hel, Dr, c1, G5, c2, F3, hg, c3, hf, go_sem]
   by_cases c4 : 10 < (e.base.l.length : Int)
   · have hf := hno fun q => by have := q.2.2.2; omega
     simp (disch := omega) only [O4, List.length_map, he, Bh, hel, Dr, c1, G5, c2, F3, hg, c3, Fb, hb, c4, hf, go_sem]
   simp (disch := omega) only [O4, List.length_map, he, Bh, hel, Dr, c1, G5, c2, F3, hg, c3, Fb, hb, c4, go_sem];refine Ad (k + 1) _ _ rfl ⟨by omega, fun j x hj hjx => ?_⟩ (by omega) ?_ ?_
   · by_cases ej : j = k
     · subst ej; rw [hx'] at hjx; cases hjx; exact ⟨by omega, by omega, by omega, by omega⟩
     · exact hk2 j x (by omega) hjx
   · simp (disch := omega) only [go_sem]
   · simp (disch := omega) only [go_sem]
 · obtain rfl : k = l.length := by omega
   have hf := Abi (l := l) ⟨by omega, fun e he => by
    obtain ⟨j, hj⟩ := List.mem_iff_getElem?.1 he;exact hk2 j e (List.getElem?_eq_some_iff.1 hj).1 hj⟩
   simp (disch := omega) only [O4, hf, go_sem]
theorem Azp : Ic [] [Hq N6] = [Hq N6] := by
 have hw : Et (Au []) (Hq N6) = 0 := Aht;show Rx [] (Hq N6) = _;unfold Rx;rw [if_pos hw]; rfl
theorem A7s : Mf [] [Hq N6] = [Hq N6] := by unfold Mf; rw [Azp]; rfl
set_option maxHeartbeats 4000000 in
theorem Sb {h d} : FunOk Tryz.prog 32 [] h d (.pv (.b true)) [] := by
 refine Ao Af fn32 (by simp) rfl rfl fun F => ?_;simp (disch := omega) only [ir32, go_sem];refine Aa (FunOk.imp (Ac3 (S := Au []) Ags) ⟨Vz, trivial⟩ (by simp [A4, tn, Vg])) ?_;simp (disch := omega) only [Ara, go_sem];refine Aa (FunOk.imp (Ac3 (S := Au []) Ags) ⟨Vz, trivial⟩ (by simp [A4, tn, Vg])) ?_;simp (disch := omega) only [Ara, go_sem];refine Aa (FunOk.imp (A1y (S := Au []) (L := []) (e := N6) (Zt Val.nil (by simp)) A3g (by simp) rfl) ⟨Imp.refl _, Gl (cs := Be N6) rfl (Ac _), trivial⟩ (by simp [A4, tn])) ?_;rw [Aht, A9d, A4i];simp (disch := omega) only [A9s, go_sem];refine Aa (FunOk.imp (Aqd (S := Au []) (L := []) (fl := fun _ => 0) (fun _ _ => 0) 2 1 (by omega) rfl) ⟨Imp.refl _, Imp.refl _, Imp.refl _, Imp.refl _, trivial⟩ (by simp [A4, tn])) ?_;simp (disch := omega) only [go_sem];have hkn : (Au [N6]).known = Bz [N6] := D9 _;have hA : ∀ e ∈ [Hq N6], ev e := fun e he => by simp at he; subst he; exact Ajm A3g
 refine Aa (FunOk.imp (A1s (S := Au [N6]) (L := [Hq N6]) (fl := fun _ => 0) (fun _ _ => 0) (Ag8 (fun _ _ => 0) 2 1 (Au []).known) rfl ⟨.inl rfl, by decide, by decide, by decide, by decide, fun _ => rfl⟩ (fun i _ => Nat.zero_le _) (fun e he => by simp at he; subst he; exact ⟨Ajm A3g, rfl⟩) (by simp) rfl) ⟨Imp.refl _, Imp.refl _, Imp.refl _, Agk _, trivial⟩ (by simp [A4, tn, Zv])) ?_;have hg : (List.take 8 (H4 (Ag8 (fun _ _ => 0) 2 1 (Au []).known).kn [Hq N6])) = [Hq N6] := rfl;rw [hg];generalize hmm : Ar2 (fun _ _ => 0) (Ag8 (fun _ _ => 0) 2 1 (Au []).known).to (Ag8 (fun _ _ => 0) 2 1 (Au []).known).fr (Au [N6]).known [Hq N6] = mm;have me : mm.evs = [Hq N6] := by rw [← hmm]; rfl
 have mz : mm.z = 21 := by rw [← hmm]; rfl
 have mt : mm.to = 2 := by rw [← hmm]; rfl
 simp (disch := omega) only [P0, Aag, go_sem];refine Aa (Apl (S := Au []) (L := []) Ags rfl) ?_;simp (disch := omega) only [A6, A2, P0, Aag, go_sem];refine Aa (FunOk.imp (Aau (T := []) (m := mm) Val.nil (by rw [me]; simp) mz (by rw [me]; exact hA)) ⟨Imp.refl _, Agk _, trivial⟩ (by simp [A4, tn, Zv, Vg])) ?_;rw [me, A7s, Azp];have hv1 : vE (Au [Hq N6]).known = [.i .u32 1, .i .u32 0, .i .u32 0, .i .u32 0, .i .u32 0, .i .u32 0, .i .u32 0, .i .u32 0] := by rw [D9]; rfl
 have hpq : peq (vE (Au [Hq N6]).known) [.i .u32 1, .i .u32 0, .i .u32 0, .i .u32 0, .i .u32 0, .i .u32 0, .i .u32 0, .i .u32 0] = true := by rw [hv1]; exact Acw _
 have hfi := A24 (Au [Hq N6]).known;have hf2 : Ei [K1.int .u32, .int .u32, .int .u32, .int .u32, .int .u32, .int .u32, .int .u32, .int .u32] [.i .u32 1, .i .u32 0, .i .u32 0, .i .u32 0, .i .u32 0, .i .u32 0, .i .u32 0, .i .u32 0] = True := eq_true rfl;simp (disch := omega) only [A6, A2, List.map_cons, List.map_nil, List.length_cons, List.length_nil, me, mz, mt, hpq, hfi, hf2, go_sem]
theorem Ay8 {cs : List PV} (hc : GC Yc cs) : ∃ e : Evt, cs = Be e ∧ (EvRaw e ∧ Hq e = e) := by
 obtain ⟨e, h1, h2, h3, h4⟩ := Ay9 hc;refine ⟨e, h1, ⟨h2, by rw [h3]; exact .inr rfl, by rw [h4]; exact .inr rfl⟩, ?_⟩;unfold Hq;rw [← h3, ← h4]
theorem Ajs {cs : List PV} (h : GC (.sl Yc) cs) : ∃ l : List Evt, cs = [.sl false 21 (l.map Be)] ∧ ∀ e ∈ l, EvRaw e ∧ Hq e = e := by
 obtain ⟨es, rfl, _, g⟩ := Auf h;obtain ⟨l, rfl, hl⟩ := Abn (f := Be) (p := fun e => EvRaw e ∧ Hq e = e) Ay8 g;exact ⟨l, rfl, hl⟩
abbrev Aou : Sh := .st [.int .i64, .int .i64, .int .i64, .arr 8 (.int .u32), .arr 8 (.arr 8 (.int .u32)), .sl Yc]
theorem Ay7 {cs : List PV} (h : GC Aou cs) : ∃ m : Msg, cs = Iu m ∧ (∀ e ∈ m.evs, EvRaw e ∧ Hq e = e) ∧ m.f = false ∧ m.z = 21 ∧ -9223372036854775808 ≤ m.fr ∧ m.fr < 9223372036854775808 := by
 simp only [GC] at h;simp only [GCL] at h;obtain ⟨c0, r0, rfl, ⟨n0, rfl, w0⟩, c1, r1, rfl, ⟨n1, rfl, w1⟩, c2, r2, rfl, ⟨n2, rfl, w2⟩, c3, r3, rfl, g3, c4, r4, rfl, g4, c5, r5, rfl, g5, rfl⟩ := h;obtain ⟨a, rfl, ha⟩ := Aue (by simp only [GC]; exact g3);obtain ⟨t, rfl, ht⟩ := Azt (by simp only [GC]; exact g4);obtain ⟨l, rfl, hl⟩ := Ajs (by simp only [GC]; exact g5);exact ⟨⟨n0, n1, n2, a, t, false, 21, l⟩, by simp [Iu], hl, rfl, rfl, Aru w1⟩
def Aoc (A B : List Evt) (kn : SV) (t : Nat → Vc) (m : Msg) (u : SV) (i : Nat) : FS := mk [(46, .pv (.i .i64 i)), (45, .pv (.i .i64 A.length)), (44, .pv (.sl false 21 (A.map Be))), (7, .pv (.sl false 21 (A.map Be))), (9, .pv (.sl false 21 (B.map Be))), (4, .p 4 0), (5, .p 5 0), (8, .p 8 0), (10, .p 10 0)] [(4, some (.var (.vec 64 (tE t)))), (5, some (.var (.vec 76 (Iu m)))), (8, some (.var kn)), (10, some (.var u))]
def Aob (A B : List Evt) (kn : SV) (t : Nat → Vc) (m : Msg) (u : SV) (i : Nat) (x : Evt) (j : Nat) : FS := mk [(58, .pv (.i .i64 j)), (57, .pv (.i .i64 B.length)), (56, .pv (.sl false 21 (B.map Be))), (12, .p 12 0), (46, .pv (.i .i64 i)), (45, .pv (.i .i64 A.length)), (44, .pv (.sl false 21 (A.map Be))), (7, .pv (.sl false 21 (A.map Be))), (9, .pv (.sl false 21 (B.map Be))), (4, .p 4 0), (5, .p 5 0), (8, .p 8 0), (10, .p 10 0)] [(12, some (.var (.vec 21 (Be x)))), (4, some (.var (.vec 64 (tE t)))), (5, some (.var (.vec 76 (Iu m)))), (8, some (.var kn)), (10, some (.var u))]
theorem Axt (t : Nat → Vc) : Ei (List.replicate 64 (K1.int .u32)) (tE t) = True := eq_true rfl
set_option maxHeartbeats 16000000 in
theorem Aq9 {l : List Evt} {t : Nat → Vc} {m : Msg} (hl : ∀ e ∈ l, EvRaw e) (hm : ∀ e ∈ m.evs, EvRaw e) (hz : m.z = 21) (hr : -9223372036854775808 ≤ m.fr ∧ m.fr < 9223372036854775808) {h d} :
 FunOk Tryz.prog 7 [.pv (.sl false 21 (l.map Be)), .vec 64 (tE t), .vec 76 (Iu m)] h d (.pv (.b true)) [] := by
 refine Ao Af fn7 (by simp) rfl rfl fun F => ?_;simp (disch := omega) only [ir7, go_sem];refine Aa Sb ?_;simp (disch := omega) only [go_sem];refine Aa (Ada (l := l) rfl rfl) ?_;by_cases hf' : Ae2 l;rotate_left
 · have hf := Uz hf';simp (disch := omega) only [hf, go_sem];refine Aa Sb ?_;simp (disch := omega) only [go_sem]
 have hf := Abi hf';simp (disch := omega) only [hf, hz, go_sem];refine Aa (Ada (l := m.evs) rfl rfl) ?_;by_cases hg' : Ae2 m.evs;rotate_left
 · have hg := Uz hg';simp (disch := omega) only [hg, go_sem];refine Aa Sb ?_;simp (disch := omega) only [go_sem]
 have hg := Abi hg';have hin : ∀ e ∈ l, EvIn e := fun x hx => Apb (hl x hx) (hf'.2 x hx);have hmn : ∀ e ∈ m.evs, EvIn e := fun x hx => Apb (hm x hx) (hg'.2 x hx);have hl25 := hf'.1;have hm25 := hg'.1;obtain ⟨t1, t2, t3⟩ := Acb l fun x hx => (hin x hx).ev;have hme : ∀ e ∈ m.evs, ev e := fun x hx => (hmn x hx).ev;simp (disch := omega) only [hg, go_sem];refine Aa (A1m (l := l) (by omega) hin) ?_;generalize L9 l = T at *;simp (disch := omega) only [go_sem];refine Aa (E := (T9 Tryz.prog F 95).reg) (Aqa (Ahw t1 (by omega)) (Ahv t1)) ?_;simp (disch := omega) only [A6, A2, go_sem];refine Aa (E := (T9 Tryz.prog F 95).reg) (Aau (T := T) (m := m) t1 (by omega) hz hme) ?_;have v1 := N4 t1 m.evs hme;have v2 := N4 v1 m.evs hme;obtain ⟨c1, c2, c3⟩ := Amb t1 hme;obtain ⟨a1, a2, _⟩ := Ls T m.evs;obtain ⟨b1, b2, _⟩ := Ls (Ic T m.evs) m.evs;have hkl := Amc (T := Ic T m.evs) m.evs;have k1 : (Au (Ic T m.evs)).known = Bz (Ic T m.evs) := D9 _;have k2 : (Au (Ic (Ic T m.evs) m.evs)).known = Bz (Ic (Ic T m.evs) m.evs) := D9 _;have hW : (Ic T m.evs).length + m.evs.length ≤ 400 := by rw [a1, List.length_append]; omega
 simp (disch := omega) only [A6, A2, go_sem];refine Aa (Aau (T := Ic T m.evs) (m := m) v1 hW hz hme) ?_;generalize Mf T m.evs = A at *;generalize hB : Mf (Ic T m.evs) m.evs = B at *;generalize Ic (Ic T m.evs) m.evs = U at *;generalize Ic T m.evs = W at *;simp (disch := omega) only [A6, A2, List.length_map, go_sem];refine A1 Af (Aoc A B (.agg (A6 (Au W))) t m (.agg (A6 (Au U)))) (fun i => i ≤ A.length) (fun i => A.length - i) 0 (by simp) (Aj ?_ ?_) fun i hi => ?_
 · simp (disch := omega) only [go_sem]
 · simp (disch := omega) only [A6, A2, go_sem]
 by_cases hlt : i < A.length
 · have hx : A[i]? = some A[i] := List.getElem?_eq_getElem hlt;have he : (A.map Be)[i]? = some (Be A[i]) := by rw [List.getElem?_map, hx]; rfl
   have hxa := c1 _ (List.getElem_mem hlt);have hxb := c2 _ (List.getElem_mem hlt);generalize A[i] = x at *;have hel := Ac x;simp (disch := omega) only [Aoc, A6, A2, List.length_map, he, Bh, hel, A5, k1, go_sem];refine Aa (Mv _ _ _) ?_;rw [hxa];simp (disch := omega) only [List.length_map, go_sem];refine A1 Af (Aob A B (.agg (A6 (Au W))) t m (.agg (A6 (Au U))) i x) (fun j => j ≤ B.length) (fun j => B.length - j) 0 (by simp) (Aj ?_ ?_) fun j hj => ?_
   · simp (disch := omega) only [go_sem]
   · simp (disch := omega) only [A6, A2, k1, go_sem]
   by_cases hjl : j < B.length
   · have hy : B[j]? = some B[j] := List.getElem?_eq_getElem hjl;have hey : (B.map Be)[j]? = some (Be B[j]) := by rw [List.getElem?_map, hy]; rfl
     have hne := hxb _ (List.getElem_mem hjl);generalize B[j] = y at *;have hely := Ac y;have hp := E7 hne;simp (disch := omega) only [Aob, A6, A2, List.length_map, hey, Bh, hely, hel, A5, Ag, Bm, hp, go_sem];refine Ad (j + 1) _ _ rfl (by omega) (by omega) ?_ ?_
     · simp (disch := omega) only [go_sem]
     · simp (disch := omega) only [A6, A2, k1, go_sem]
   · obtain rfl : j = B.length := by omega
     simp (disch := omega) only [Aob, A6, A2, go_sem];refine Ad (i + 1) _ _ rfl (by omega) (by omega) ?_ ?_
     · simp (disch := omega) only [go_sem]
     · simp (disch := omega) only [A6, A2, k1, go_sem]
 · obtain rfl : i = A.length := by omega
   have hle : ((A.length : Int) + (B.length : Int)) ≤ (m.evs.length : Int) := by omega
   have hl2 : decide (Rj (Bz W) (Bz U)) = true := decide_eq_true hkl;simp (disch := omega) only [Aoc, A6, A2, go_sem];refine Aa (Ac6 t m hr) ?_;simp (disch := omega) only [List.length_map, hle, k1, k2, go_sem];refine Aa (Apr _ _) ?_;rw [hl2];simp (disch := omega) only [go_sem];refine Aa (Ac6 _ m hr) ?_;rw [Adt];have p1 := Acw (tE (Ga (Ok t m.tb) m.fr m.kn));have p2 := Axt (Ga (Ok t m.tb) m.fr m.kn);simp (disch := omega) only [p1, p2, go_sem]
theorem Wu {c0 c1 c2 : List PV} (g0 : GC (.sl Yc) c0) (g1 : GC (.arr 8 (.arr 8 (.int .u32))) c1) (g2 : GC Aou c2) {h d} :
 FunOk Tryz.prog 7 [I2 (.sl Yc) c0, I2 (.arr 8 (.arr 8 (.int .u32))) c1, I2 Aou c2] h d (.pv (.b true)) [] := by
 obtain ⟨l, rfl, hl⟩ := Ajs g0;obtain ⟨t, rfl, _⟩ := Azt g1;obtain ⟨m, rfl, hm, _, hz, hr⟩ := Ay7 g2;show FunOk Tryz.prog 7 [.pv (.sl false 21 (l.map Be)), .vec 64 (tE t), .agg (P0 m)] h d (.pv (.b true)) [];exact (Aq9 (t := t) (fun e he => (hl e he).1) (fun e he => (hm e he).1) hz hr).imp ⟨Imp.refl _, Imp.refl _, Agk m, trivial⟩ (by simp [A4, tn, Zv])
end Go.Proofs.YthmjebkldgdeiaaGreat.Fw
